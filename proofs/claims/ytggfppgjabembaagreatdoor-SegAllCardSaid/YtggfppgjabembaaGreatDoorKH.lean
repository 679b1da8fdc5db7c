/- Where the crossing place lies, in plain arithmetic; what seg.meet and Meet answer. -/
import Derived.Test.YtggfppgjabembaaGreatDoorKA
import Derived.Test.YtggfppgjabembaaGreatDoorKG
import Derived.Test.YtggfppgjabembaaGreatDoorKF
namespace Go.Proofs.YtggfppgjabembaaGreatDoor
open Go.RowKit Go.Proofs.YtggfppgjabembaaGreatDoorW.PrintLast
set_option linter.unusedVariables false
set_option linter.unusedSimpArgs false
section
variable {P : Program} {ops : Array Oper} {Q : Exit → Act → World → Prop} {md : Region.Mode} {S : World → Prop} {ds : List Nat}
theorem four_ {i j k m : Nat} {Ni Nj Nk Nm : Option Tmp} {oi oj ok om : Oper} {fuel : Nat} {l : Array Bool} {a : Act} {w : World} (li lj lk lm : Array Bool) (hi : ops[i]? = some oi) (hj : ops[j]? = some oj) (hk : ops[k]? = some ok) (hm : ops[m]? = some om) (hNi : oi.dst = Ni) (hNj : oj.dst = Nj) (hNk : ok.dst = Nk) (hNm : om.dst = Nm)
    (hc : (Region.ready md ops l == [i, j, k, m] && l.setIfInBounds i true == li && l.setIfInBounds j true == lj && l.setIfInBounds k true == lk && l.setIfInBounds m true == lm) = true)
    (hdi : i ∉ ds) (hdj : j ∉ ds) (hdk : k ∉ ds) (hdm : m ∉ ds)
    (h1 : ∀ K : Act → World → Prop, Shut (∀ a' w', S w' → (S w' → wpAnyLast P md ops Q S ds fuel li a' w') → K a' w') → if Region.wanted oi (yielded ops a.tmps) = true then Oper.wp P oi a w K Q else K (a.put Ni undef) w)
    (h2 : ∀ K : Act → World → Prop, Shut (∀ a' w', S w' → (S w' → wpAnyLast P md ops Q S ds fuel lj a' w') → K a' w') → if Region.wanted oj (yielded ops a.tmps) = true then Oper.wp P oj a w K Q else K (a.put Nj undef) w)
    (h3 : ∀ K : Act → World → Prop, Shut (∀ a' w', S w' → (S w' → wpAnyLast P md ops Q S ds fuel lk a' w') → K a' w') → if Region.wanted ok (yielded ops a.tmps) = true then Oper.wp P ok a w K Q else K (a.put Nk undef) w)
    (h4 : ∀ K : Act → World → Prop, Shut (∀ a' w', S w' → (S w' → wpAnyLast P md ops Q S ds fuel lm a' w') → K a' w') → if Region.wanted om (yielded ops a.tmps) = true then Oper.wp P om a w K Q else K (a.put Nm undef) w) :
    wpAnyLast P md ops Q S ds (fuel + 1) l a w := by
  subst hNi
  subst hNj
  subst hNk
  subst hNm
  simp only [Bool.and_eq_true, beq_iff_eq] at hc
  obtain ⟨⟨⟨⟨h5, h6⟩, h7⟩, h8⟩, h9⟩ := hc
  subst h6
  subst h7
  subst h8
  subst h9
  exact wpAnyLast_ready h5 (by simp) (AllReadyL.cons hi hdi (fun K hK => h1 K hK) (AllReadyL.cons hj hdj (fun K hK => h2 K hK) (AllReadyL.cons hk hdk (fun K hK => h3 K hK) (AllReadyL.cons hm hdm (fun K hK => h4 K hK) AllReadyL.nil))))
end
abbrev V4 := Option Addr × Option Addr × Option Addr × Option Addr
abbrev V2 := Option Addr × Option Addr
structure CrS (w0 : World) (n : Nat) (s0 s1 t0 t1 : Pt) (w : World) : Prop where
  b : Below n w0 w
  s : w.heap[n]? = some (.cells #[.int .u64 s0.1, .int .u64 s0.2, .int .u64 s1.1, .int .u64 s1.2] 80 (0, 0))
  t : w.heap[n + 1]? = some (.cells #[.int .u64 t0.1, .int .u64 t0.2, .int .u64 t1.1, .int .u64 t1.2] 80 (0, 0))
  r1 : w.heap[n + 1 + 1]? = some (.cells #[.bool false, .slice none 0 0, .slice none 0 0] 45 (0, 0))
  r2 : w.heap[n + 1 + 1 + 1]? = some (.cells #[.bool false, .slice none 0 0, .slice none 0 0] 45 (0, 0))
theorem CrS.big {w0 w : World} {n : Nat} {s0 s1 t0 t1 : Pt} (h : CrS w0 n s0 s1 t0 t1 w) : n + 4 ≤ w.heap.size := heap_lt h.r2
theorem CrS.keep {w0 w w' : World} {n : Nat} {s0 s1 t0 t1 : Pt} (h : CrS w0 n s0 s1 t0 t1 w) (k : Below w.heap.size w w') : CrS w0 n s0 s1 t0 t1 w' :=
  have e := h.big
  ⟨h.b.trans (k.mono (by omega)), (k.block _ (by omega)).trans h.s, (k.block _ (by omega)).trans h.t, (k.block _ (by omega)).trans h.r1, (k.block _ (by omega)).trans h.r2⟩
theorem CrS.six {w0 w : World} {n g : Nat} {s0 s1 t0 t1 : Pt} (h : CrS w0 n s0 s1 t0 t1 w) (hg : n + 4 ≤ g) (v0 v1 v2 v3 v4 v5 : Value) : CrS w0 n s0 s1 t0 t1 (sixSet g 0 v0 v1 v2 v3 v4 v5 w) :=
  ⟨h.b.trans ((((((((Below.refl _ _).setCell (show n ≤ g by omega) _).setCell (show n ≤ g by omega) _).setCell (show n ≤ g by omega) _).setCell (show n ≤ g by omega) _).setCell (show n ≤ g by omega) _).setCell (show n ≤ g by omega) _)), (sixSet_other _ (by omega)).trans h.s, (sixSet_other _ (by omega)).trans h.t, (sixSet_other _ (by omega)).trans h.r1, (sixSet_other _ (by omega)).trans h.r2⟩
structure CrI (w0 : World) (n : Nat) (s0 s1 t0 t1 : Pt) (x1 x2 x3 : Pl) (c1 c2 c3 : Option V4) (a1 a2 a3 : Option Nat) (w : World) : Prop where
  h : CrS w0 n s0 s1 t0 t1 w
  h1 : ∀ v, c1 = some v → PlFresh n w v.1 v.2.1 v.2.2.1 v.2.2.2 x1
  h2 : ∀ v, c2 = some v → PlFresh n w v.1 v.2.1 v.2.2.1 v.2.2.2 x2
  h3 : ∀ v, c3 = some v → PlFresh n w v.1 v.2.1 v.2.2.1 v.2.2.2 x3
  r1 : ∀ g, a1 = some g → n + 4 ≤ g ∧ w.heap[g]? = some (.cells #[.bool false, .slice none 0 0, .slice none 0 0, .bool false, .slice none 0 0, .slice none 0 0] 89 (0, 0))
  r2 : ∀ g, a2 = some g → n + 4 ≤ g ∧ w.heap[g]? = some (.cells #[.bool false, .slice none 0 0, .slice none 0 0, .bool false, .slice none 0 0, .slice none 0 0] 89 (0, 0))
  r3 : ∀ g, a3 = some g → n + 4 ≤ g ∧ w.heap[g]? = some (.cells #[.bool false, .slice none 0 0, .slice none 0 0, .bool false, .slice none 0 0, .slice none 0 0] 89 (0, 0))
  d12 : ∀ g g', a1 = some g → a2 = some g' → g ≠ g'
  d13 : ∀ g g', a1 = some g → a3 = some g' → g ≠ g'
  d23 : ∀ g g', a2 = some g → a3 = some g' → g ≠ g'
section
variable {w0 w w' : World} {n : Nat} {s0 s1 t0 t1 : Pt} {x1 x2 x3 : Pl} {c1 c2 c3 : Option V4} {a1 a2 a3 : Option Nat}
theorem CrI.keep (h : CrI w0 n s0 s1 t0 t1 x1 x2 x3 c1 c2 c3 a1 a2 a3 w) (k : Below w.heap.size w w') : CrI w0 n s0 s1 t0 t1 x1 x2 x3 c1 c2 c3 a1 a2 a3 w' :=
  ⟨h.h.keep k, fun v e => (h.h1 v e).keep (Keep.of k (Nat.le_refl _)) (Nat.le_refl _), fun v e => (h.h2 v e).keep (Keep.of k (Nat.le_refl _)) (Nat.le_refl _), fun v e => (h.h3 v e).keep (Keep.of k (Nat.le_refl _)) (Nat.le_refl _),
   fun g e => ⟨(h.r1 g e).1, (k.block _ (heap_lt (h.r1 g e).2)).trans (h.r1 g e).2⟩, fun g e => ⟨(h.r2 g e).1, (k.block _ (heap_lt (h.r2 g e).2)).trans (h.r2 g e).2⟩, fun g e => ⟨(h.r3 g e).1, (k.block _ (heap_lt (h.r3 g e).2)).trans (h.r3 g e).2⟩, h.d12, h.d13, h.d23⟩
theorem CrI.call1 (h : CrI w0 n s0 s1 t0 t1 x1 x2 x3 c1 c2 c3 a1 a2 a3 w) (v : V4) (f : PlFresh w.heap.size w' v.1 v.2.1 v.2.2.1 v.2.2.2 x1) (k : Below w.heap.size w w') : CrI w0 n s0 s1 t0 t1 x1 x2 x3 (some v) c2 c3 a1 a2 a3 w' :=
  have e := h.h.big
  have q := h.keep k
  ⟨q.h, fun u hu => by cases hu; exact f.wide (by omega), q.h2, q.h3, q.r1, q.r2, q.r3, q.d12, q.d13, q.d23⟩
theorem CrI.call2 (h : CrI w0 n s0 s1 t0 t1 x1 x2 x3 c1 c2 c3 a1 a2 a3 w) (v : V4) (f : PlFresh w.heap.size w' v.1 v.2.1 v.2.2.1 v.2.2.2 x2) (k : Below w.heap.size w w') : CrI w0 n s0 s1 t0 t1 x1 x2 x3 c1 (some v) c3 a1 a2 a3 w' :=
  have e := h.h.big
  have q := h.keep k
  ⟨q.h, q.h1, fun u hu => by cases hu; exact f.wide (by omega), q.h3, q.r1, q.r2, q.r3, q.d12, q.d13, q.d23⟩
theorem CrI.call3 (h : CrI w0 n s0 s1 t0 t1 x1 x2 x3 c1 c2 c3 a1 a2 a3 w) (v : V4) (f : PlFresh w.heap.size w' v.1 v.2.1 v.2.2.1 v.2.2.2 x3) (k : Below w.heap.size w w') : CrI w0 n s0 s1 t0 t1 x1 x2 x3 c1 c2 (some v) a1 a2 a3 w' :=
  have e := h.h.big
  have q := h.keep k
  ⟨q.h, q.h1, q.h2, fun u hu => by cases hu; exact f.wide (by omega), q.r1, q.r2, q.r3, q.d12, q.d13, q.d23⟩
theorem CrI.box1 (h : CrI w0 n s0 s1 t0 t1 x1 x2 x3 c1 c2 c3 a1 a2 a3 w) : CrI w0 n s0 s1 t0 t1 x1 x2 x3 c1 c2 c3 (some w.heap.size) a2 a3 (w.alloc (.cells #[.bool false, .slice none 0 0, .slice none 0 0, .bool false, .slice none 0 0, .slice none 0 0] 89)) :=
  have e := h.h.big
  have q := h.keep ((Below.refl _ _).alloc (Nat.le_refl _) (.cells #[.bool false, .slice none 0 0, .slice none 0 0, .bool false, .slice none 0 0, .slice none 0 0] 89))
  ⟨q.h, q.h1, q.h2, q.h3, fun g hg => by cases hg; exact ⟨e, alloc_new _ _⟩, q.r2, q.r3, fun g g' hg hg' => by cases hg; exact (Nat.ne_of_lt (heap_lt (h.r2 _ hg').2)).symm, fun g g' hg hg' => by cases hg; exact (Nat.ne_of_lt (heap_lt (h.r3 _ hg').2)).symm, q.d23⟩
theorem CrI.box2 (h : CrI w0 n s0 s1 t0 t1 x1 x2 x3 c1 c2 c3 a1 a2 a3 w) : CrI w0 n s0 s1 t0 t1 x1 x2 x3 c1 c2 c3 a1 (some w.heap.size) a3 (w.alloc (.cells #[.bool false, .slice none 0 0, .slice none 0 0, .bool false, .slice none 0 0, .slice none 0 0] 89)) :=
  have e := h.h.big
  have q := h.keep ((Below.refl _ _).alloc (Nat.le_refl _) (.cells #[.bool false, .slice none 0 0, .slice none 0 0, .bool false, .slice none 0 0, .slice none 0 0] 89))
  ⟨q.h, q.h1, q.h2, q.h3, q.r1, fun g hg => by cases hg; exact ⟨e, alloc_new _ _⟩, q.r3, fun g g' hg hg' => by cases hg'; exact Nat.ne_of_lt (heap_lt (h.r1 _ hg).2), q.d13, fun g g' hg hg' => by cases hg; exact (Nat.ne_of_lt (heap_lt (h.r3 _ hg').2)).symm⟩
theorem CrI.box3 (h : CrI w0 n s0 s1 t0 t1 x1 x2 x3 c1 c2 c3 a1 a2 a3 w) : CrI w0 n s0 s1 t0 t1 x1 x2 x3 c1 c2 c3 a1 a2 (some w.heap.size) (w.alloc (.cells #[.bool false, .slice none 0 0, .slice none 0 0, .bool false, .slice none 0 0, .slice none 0 0] 89)) :=
  have e := h.h.big
  have q := h.keep ((Below.refl _ _).alloc (Nat.le_refl _) (.cells #[.bool false, .slice none 0 0, .slice none 0 0, .bool false, .slice none 0 0, .slice none 0 0] 89))
  ⟨q.h, q.h1, q.h2, q.h3, q.r1, q.r2, fun g hg => by cases hg; exact ⟨e, alloc_new _ _⟩, q.d12, fun g g' hg hg' => by cases hg'; exact Nat.ne_of_lt (heap_lt (h.r1 _ hg).2), fun g g' hg hg' => by cases hg'; exact Nat.ne_of_lt (heap_lt (h.r2 _ hg).2)⟩
end
structure CrT (w0 : World) (n : Nat) (s0 s1 t0 t1 : Pt) (x1 x2 x3 : Pl) (v1 v2 v3 : V4) (g1 g2 g3 : Nat) (R1 R2 R3 : Array Value) (w : World) : Prop where
  h : CrS w0 n s0 s1 t0 t1 w
  h1 : PlFresh n w v1.1 v1.2.1 v1.2.2.1 v1.2.2.2 x1
  h2 : PlFresh n w v2.1 v2.2.1 v2.2.2.1 v2.2.2.2 x2
  h3 : PlFresh n w v3.1 v3.2.1 v3.2.2.1 v3.2.2.2 x3
  l1 : n + 4 ≤ g1
  l2 : n + 4 ≤ g2
  l3 : n + 4 ≤ g3
  r1 : w.heap[g1]? = some (.cells R1 89 (0, 0))
  r2 : w.heap[g2]? = some (.cells R2 89 (0, 0))
  r3 : w.heap[g3]? = some (.cells R3 89 (0, 0))
  d12 : g1 ≠ g2
  d13 : g1 ≠ g3
  d23 : g2 ≠ g3
section
variable {w0 w w' : World} {n : Nat} {s0 s1 t0 t1 : Pt} {x1 x2 x3 : Pl} {v1 v2 v3 : V4} {g1 g2 g3 : Nat} {R1 R2 R3 : Array Value}
theorem CrI.all (h : CrI w0 n s0 s1 t0 t1 x1 x2 x3 (some v1) (some v2) (some v3) (some g1) (some g2) (some g3) w) : CrT w0 n s0 s1 t0 t1 x1 x2 x3 v1 v2 v3 g1 g2 g3 #[.bool false, .slice none 0 0, .slice none 0 0, .bool false, .slice none 0 0, .slice none 0 0] #[.bool false, .slice none 0 0, .slice none 0 0, .bool false, .slice none 0 0, .slice none 0 0] #[.bool false, .slice none 0 0, .slice none 0 0, .bool false, .slice none 0 0, .slice none 0 0] w :=
  ⟨h.h, h.h1 _ rfl, h.h2 _ rfl, h.h3 _ rfl, (h.r1 _ rfl).1, (h.r2 _ rfl).1, (h.r3 _ rfl).1, (h.r1 _ rfl).2, (h.r2 _ rfl).2, (h.r3 _ rfl).2, h.d12 _ _ rfl rfl, h.d13 _ _ rfl rfl, h.d23 _ _ rfl rfl⟩
theorem CrT.keep (h : CrT w0 n s0 s1 t0 t1 x1 x2 x3 v1 v2 v3 g1 g2 g3 R1 R2 R3 w) (k : Below w.heap.size w w') : CrT w0 n s0 s1 t0 t1 x1 x2 x3 v1 v2 v3 g1 g2 g3 R1 R2 R3 w' :=
  ⟨h.h.keep k, h.h1.keep (Keep.of k (Nat.le_refl _)) (Nat.le_refl _), h.h2.keep (Keep.of k (Nat.le_refl _)) (Nat.le_refl _), h.h3.keep (Keep.of k (Nat.le_refl _)) (Nat.le_refl _), h.l1, h.l2, h.l3, (k.block _ (heap_lt h.r1)).trans h.r1, (k.block _ (heap_lt h.r2)).trans h.r2, (k.block _ (heap_lt h.r3)).trans h.r3, h.d12, h.d13, h.d23⟩
theorem six_at {w : World} {g : Nat} {a b c d e f : Value} {t : TypeId} (h : w.heap[g]? = some (.cells #[a, b, c, d, e, f] t (0, 0))) (x0 x1 x2 x3 x4 x5 : Value) :
    (sixSet g 0 x0 x1 x2 x3 x4 x5 w).heap[g]? = some (.cells #[x0, x1, x2, x3, x4, x5] t (0, 0)) := (six_new h (Nat.le_refl g) x0 x1 x2 x3 x4 x5 (Below.refl g w)).1
theorem CrT.set1 {a b c d e f : Value} (h : CrT w0 n s0 s1 t0 t1 x1 x2 x3 v1 v2 v3 g1 g2 g3 #[a, b, c, d, e, f] R2 R3 w) (y0 y1 y2 y3 y4 y5 : Value) : CrT w0 n s0 s1 t0 t1 x1 x2 x3 v1 v2 v3 g1 g2 g3 #[y0, y1, y2, y3, y4, y5] R2 R3 (sixSet g1 0 y0 y1 y2 y3 y4 y5 w) :=
  ⟨h.h.six h.l1 _ _ _ _ _ _, h.h1.off h.r1 (by decide) (fun i hi => sixSet_other i hi), h.h2.off h.r1 (by decide) (fun i hi => sixSet_other i hi), h.h3.off h.r1 (by decide) (fun i hi => sixSet_other i hi), h.l1, h.l2, h.l3, six_at h.r1 _ _ _ _ _ _, (sixSet_other _ h.d12.symm).trans h.r2, (sixSet_other _ h.d13.symm).trans h.r3, h.d12, h.d13, h.d23⟩
theorem CrT.set2 {a b c d e f : Value} (h : CrT w0 n s0 s1 t0 t1 x1 x2 x3 v1 v2 v3 g1 g2 g3 R1 #[a, b, c, d, e, f] R3 w) (y0 y1 y2 y3 y4 y5 : Value) : CrT w0 n s0 s1 t0 t1 x1 x2 x3 v1 v2 v3 g1 g2 g3 R1 #[y0, y1, y2, y3, y4, y5] R3 (sixSet g2 0 y0 y1 y2 y3 y4 y5 w) :=
  ⟨h.h.six h.l2 _ _ _ _ _ _, h.h1.off h.r2 (by decide) (fun i hi => sixSet_other i hi), h.h2.off h.r2 (by decide) (fun i hi => sixSet_other i hi), h.h3.off h.r2 (by decide) (fun i hi => sixSet_other i hi), h.l1, h.l2, h.l3, (sixSet_other _ h.d12).trans h.r1, six_at h.r2 _ _ _ _ _ _, (sixSet_other _ h.d23.symm).trans h.r3, h.d12, h.d13, h.d23⟩
theorem CrT.set3 {a b c d e f : Value} (h : CrT w0 n s0 s1 t0 t1 x1 x2 x3 v1 v2 v3 g1 g2 g3 R1 R2 #[a, b, c, d, e, f] w) (y0 y1 y2 y3 y4 y5 : Value) : CrT w0 n s0 s1 t0 t1 x1 x2 x3 v1 v2 v3 g1 g2 g3 R1 R2 #[y0, y1, y2, y3, y4, y5] (sixSet g3 0 y0 y1 y2 y3 y4 y5 w) :=
  ⟨h.h.six h.l3 _ _ _ _ _ _, h.h1.off h.r3 (by decide) (fun i hi => sixSet_other i hi), h.h2.off h.r3 (by decide) (fun i hi => sixSet_other i hi), h.h3.off h.r3 (by decide) (fun i hi => sixSet_other i hi), h.l1, h.l2, h.l3, (sixSet_other _ h.d13).trans h.r1, (sixSet_other _ h.d23).trans h.r2, six_at h.r3 _ _ _ _ _ _, h.d12, h.d13, h.d23⟩
end
structure CrK (w0 : World) (n : Nat) (s0 s1 t0 t1 : Pt) (x1 x2 x3 : Pl) (v1 v2 v3 : V4) (g1 g2 g3 : Nat) (y z : Pl) (p q k : Rat) (c2 c4 : Option V4) (c6 c9 c10 : Option V2) (a : Option Nat) (w : World) : Prop where
  h : CrT w0 n s0 s1 t0 t1 x1 x2 x3 v1 v2 v3 g1 g2 g3 #[.bool (decide (x1.1.num < 0)), .slice v1.1 (qn x1.1).length (qn x1.1).length, .slice v1.2.1 (qd x1.1).length (qd x1.1).length, .bool (decide (x1.2.num < 0)), .slice v1.2.2.1 (qn x1.2).length (qn x1.2).length, .slice v1.2.2.2 (qd x1.2).length (qd x1.2).length] #[.bool (decide (x2.1.num < 0)), .slice v2.1 (qn x2.1).length (qn x2.1).length, .slice v2.2.1 (qd x2.1).length (qd x2.1).length, .bool (decide (x2.2.num < 0)), .slice v2.2.2.1 (qn x2.2).length (qn x2.2).length, .slice v2.2.2.2 (qd x2.2).length (qd x2.2).length] #[.bool (decide (x3.1.num < 0)), .slice v3.1 (qn x3.1).length (qn x3.1).length, .slice v3.2.1 (qd x3.1).length (qd x3.1).length, .bool (decide (x3.2.num < 0)), .slice v3.2.2.1 (qn x3.2).length (qn x3.2).length, .slice v3.2.2.2 (qd x3.2).length (qd x3.2).length] w
  h2 : ∀ v, c2 = some v → PlFresh n w v.1 v.2.1 v.2.2.1 v.2.2.2 y
  h4 : ∀ v, c4 = some v → PlFresh n w v.1 v.2.1 v.2.2.1 v.2.2.2 z
  h6 : ∀ v, c6 = some v → RatFresh n w v.1 v.2 p
  h9 : ∀ v, c9 = some v → RatFresh n w v.1 v.2 q
  hk : ∀ v, c10 = some v → RatFresh n w v.1 v.2 k
  r : ∀ g, a = some g → n + 4 ≤ g ∧ w.heap[g]? = some (.cells #[.bool false, .slice none 0 0, .slice none 0 0] 45 (0, 0))
  d : ∀ g, a = some g → g ≠ g1 ∧ g ≠ g2 ∧ g ≠ g3
section
variable {w0 w w' : World} {n : Nat} {s0 s1 t0 t1 : Pt} {x1 x2 x3 : Pl} {v1 v2 v3 : V4} {g1 g2 g3 : Nat} {y z : Pl} {p q k : Rat} {c2 c4 : Option V4} {c6 c9 c10 : Option V2} {a : Option Nat}
theorem CrK.keep (h : CrK w0 n s0 s1 t0 t1 x1 x2 x3 v1 v2 v3 g1 g2 g3 y z p q k c2 c4 c6 c9 c10 a w) (b : Below w.heap.size w w') : CrK w0 n s0 s1 t0 t1 x1 x2 x3 v1 v2 v3 g1 g2 g3 y z p q k c2 c4 c6 c9 c10 a w' :=
  have kk : Keep n w.heap.size w w' := Keep.of b (Nat.le_refl _)
  ⟨h.h.keep b, fun v e => (h.h2 v e).keep kk (Nat.le_refl _), fun v e => (h.h4 v e).keep kk (Nat.le_refl _), fun v e => (h.h6 v e).keep kk (Nat.le_refl _), fun v e => (h.h9 v e).keep kk (Nat.le_refl _), fun v e => (h.hk v e).keep kk (Nat.le_refl _), fun g e => ⟨(h.r g e).1, (b.block _ (heap_lt (h.r g e).2)).trans (h.r g e).2⟩, h.d⟩
theorem CrK.call2 (h : CrK w0 n s0 s1 t0 t1 x1 x2 x3 v1 v2 v3 g1 g2 g3 y z p q k c2 c4 c6 c9 c10 a w) (v : V4) (f : PlFresh w.heap.size w' v.1 v.2.1 v.2.2.1 v.2.2.2 y) (b : Below w.heap.size w w') : CrK w0 n s0 s1 t0 t1 x1 x2 x3 v1 v2 v3 g1 g2 g3 y z p q k (some v) c4 c6 c9 c10 a w' :=
  have e := h.h.h.big
  have u := h.keep b
  ⟨u.h, fun t ht => by cases ht; exact f.wide (by omega), u.h4, u.h6, u.h9, u.hk, u.r, u.d⟩
theorem CrK.call4 (h : CrK w0 n s0 s1 t0 t1 x1 x2 x3 v1 v2 v3 g1 g2 g3 y z p q k c2 c4 c6 c9 c10 a w) (v : V4) (f : PlFresh w.heap.size w' v.1 v.2.1 v.2.2.1 v.2.2.2 z) (b : Below w.heap.size w w') : CrK w0 n s0 s1 t0 t1 x1 x2 x3 v1 v2 v3 g1 g2 g3 y z p q k c2 (some v) c6 c9 c10 a w' :=
  have e := h.h.h.big
  have u := h.keep b
  ⟨u.h, u.h2, fun t ht => by cases ht; exact f.wide (by omega), u.h6, u.h9, u.hk, u.r, u.d⟩
theorem CrK.call6 (h : CrK w0 n s0 s1 t0 t1 x1 x2 x3 v1 v2 v3 g1 g2 g3 y z p q k c2 c4 c6 c9 c10 a w) (v : V2) (f : RatFresh w.heap.size w' v.1 v.2 p) (b : Below w.heap.size w w') : CrK w0 n s0 s1 t0 t1 x1 x2 x3 v1 v2 v3 g1 g2 g3 y z p q k c2 c4 (some v) c9 c10 a w' :=
  have e := h.h.h.big
  have u := h.keep b
  ⟨u.h, u.h2, u.h4, fun t ht => by cases ht; exact f.wide (by omega), u.h9, u.hk, u.r, u.d⟩
theorem CrK.call9 (h : CrK w0 n s0 s1 t0 t1 x1 x2 x3 v1 v2 v3 g1 g2 g3 y z p q k c2 c4 c6 c9 c10 a w) (v : V2) (f : RatFresh w.heap.size w' v.1 v.2 q) (b : Below w.heap.size w w') : CrK w0 n s0 s1 t0 t1 x1 x2 x3 v1 v2 v3 g1 g2 g3 y z p q k c2 c4 c6 (some v) c10 a w' :=
  have e := h.h.h.big
  have u := h.keep b
  ⟨u.h, u.h2, u.h4, u.h6, fun t ht => by cases ht; exact f.wide (by omega), u.hk, u.r, u.d⟩
theorem CrK.call10 (h : CrK w0 n s0 s1 t0 t1 x1 x2 x3 v1 v2 v3 g1 g2 g3 y z p q k c2 c4 c6 c9 c10 a w) (v : V2) (f : RatFresh w.heap.size w' v.1 v.2 k) (b : Below w.heap.size w w') : CrK w0 n s0 s1 t0 t1 x1 x2 x3 v1 v2 v3 g1 g2 g3 y z p q k c2 c4 c6 c9 (some v) a w' :=
  have e := h.h.h.big
  have u := h.keep b
  ⟨u.h, u.h2, u.h4, u.h6, u.h9, fun t ht => by cases ht; exact f.wide (by omega), u.r, u.d⟩
theorem CrK.box (h : CrK w0 n s0 s1 t0 t1 x1 x2 x3 v1 v2 v3 g1 g2 g3 y z p q k c2 c4 c6 c9 c10 a w) : CrK w0 n s0 s1 t0 t1 x1 x2 x3 v1 v2 v3 g1 g2 g3 y z p q k c2 c4 c6 c9 c10 (some w.heap.size) (w.alloc (.cells #[.bool false, .slice none 0 0, .slice none 0 0] 45)) :=
  have e := h.h.h.big
  have u := h.keep ((Below.refl _ _).alloc (Nat.le_refl _) (.cells #[.bool false, .slice none 0 0, .slice none 0 0] 45))
  ⟨u.h, u.h2, u.h4, u.h6, u.h9, u.hk, fun g hg => by cases hg; exact ⟨e, alloc_new _ _⟩, fun g hg => by cases hg; exact ⟨(Nat.ne_of_lt (heap_lt h.h.r1)).symm, (Nat.ne_of_lt (heap_lt h.h.r2)).symm, (Nat.ne_of_lt (heap_lt h.h.r3)).symm⟩⟩
end
def triSet (g : Nat) (x y z : Value) (w : World) : World := ((w.setCell ⟨g, 0, none⟩ x).setCell ⟨g, 1, none⟩ y).setCell ⟨g, 2, none⟩ z
theorem triSet_other {w : World} {g : Nat} {x y z : Value} (i : Nat) (h : i ≠ g) : (triSet g x y z w).heap[i]? = w.heap[i]? := by
  unfold triSet
  have e : ∀ (w : World) (p : Addr) (v : Value), p.block ≠ i → (w.setCell p v).heap[i]? = w.heap[i]? := fun w p v hp => by
    simp only [World.setCell]
    rw [Array.getElem?_modify, if_neg hp]
  rw [e _ _ _ (Ne.symm h), e _ _ _ (Ne.symm h), e _ _ _ (Ne.symm h)]
theorem triSet_at {w : World} {g : Nat} {a b c : Value} {t : TypeId} (h : w.heap[g]? = some (.cells #[a, b, c] t (0, 0))) (x y z : Value) : (triSet g x y z w).heap[g]? = some (.cells #[x, y, z] t (0, 0)) := heap_set_three h x y z
theorem CrS.tri {w0 w : World} {n g : Nat} {s0 s1 t0 t1 : Pt} (h : CrS w0 n s0 s1 t0 t1 w) (hg : n + 4 ≤ g) (x y z : Value) : CrS w0 n s0 s1 t0 t1 (triSet g x y z w) :=
  ⟨below_three (by omega) h.b, (triSet_other _ (by omega)).trans h.s, (triSet_other _ (by omega)).trans h.t, (triSet_other _ (by omega)).trans h.r1, (triSet_other _ (by omega)).trans h.r2⟩
theorem CrK.tri {w0 w : World} {n : Nat} {s0 s1 t0 t1 : Pt} {x1 x2 x3 : Pl} {v1 v2 v3 : V4} {g1 g2 g3 g9 : Nat} {y z : Pl} {p q k : Rat} {c2 c4 : Option V4} {c6 c9 : Option V2} {c10 : V2} (h : CrK w0 n s0 s1 t0 t1 x1 x2 x3 v1 v2 v3 g1 g2 g3 y z p q k c2 c4 c6 c9 (some c10) (some g9) w) (a b c : Value) :
    CrT w0 n s0 s1 t0 t1 x1 x2 x3 v1 v2 v3 g1 g2 g3 #[.bool (decide (x1.1.num < 0)), .slice v1.1 (qn x1.1).length (qn x1.1).length, .slice v1.2.1 (qd x1.1).length (qd x1.1).length, .bool (decide (x1.2.num < 0)), .slice v1.2.2.1 (qn x1.2).length (qn x1.2).length, .slice v1.2.2.2 (qd x1.2).length (qd x1.2).length] #[.bool (decide (x2.1.num < 0)), .slice v2.1 (qn x2.1).length (qn x2.1).length, .slice v2.2.1 (qd x2.1).length (qd x2.1).length, .bool (decide (x2.2.num < 0)), .slice v2.2.2.1 (qn x2.2).length (qn x2.2).length, .slice v2.2.2.2 (qd x2.2).length (qd x2.2).length] #[.bool (decide (x3.1.num < 0)), .slice v3.1 (qn x3.1).length (qn x3.1).length, .slice v3.2.1 (qd x3.1).length (qd x3.1).length, .bool (decide (x3.2.num < 0)), .slice v3.2.2.1 (qn x3.2).length (qn x3.2).length, .slice v3.2.2.2 (qd x3.2).length (qd x3.2).length] (triSet g9 a b c w) ∧ RatFresh n (triSet g9 a b c w) c10.1 c10.2 k ∧ (triSet g9 a b c w).heap[g9]? = some (.cells #[a, b, c] 45 (0, 0)) ∧ n + 4 ≤ g9 := by
  obtain ⟨l, r⟩ := h.r _ rfl
  obtain ⟨d1, d2, d3⟩ := h.d _ rfl
  exact ⟨⟨h.h.h.tri l _ _ _, h.h.h1.off r (by decide) (fun i hi => triSet_other i hi), h.h.h2.off r (by decide) (fun i hi => triSet_other i hi), h.h.h3.off r (by decide) (fun i hi => triSet_other i hi), h.h.l1, h.h.l2, h.h.l3, (triSet_other _ d1.symm).trans h.h.r1, (triSet_other _ d2.symm).trans h.h.r2, (triSet_other _ d3.symm).trans h.h.r3, h.h.d12, h.h.d13, h.h.d23⟩,
    (h.hk _ rfl).off r (by decide) (fun i hi => triSet_other i hi), triSet_at r _ _ _, l⟩
structure CrR (w0 : World) (n g : Nat) (v : V4) (x : Pl) (R1 R2 : Array Value) (w : World) : Prop where
  b : Below n w0 w
  f : PlFresh n w v.1 v.2.1 v.2.2.1 v.2.2.2 x
  r : w.heap[g]? = some (.cells #[.bool (decide (x.1.num < 0)), .slice v.1 (qn x.1).length (qn x.1).length, .slice v.2.1 (qd x.1).length (qd x.1).length, .bool (decide (x.2.num < 0)), .slice v.2.2.1 (qn x.2).length (qn x.2).length, .slice v.2.2.2 (qd x.2).length (qd x.2).length] 89 (0, 0))
  r1 : w.heap[n + 1 + 1]? = some (.cells R1 45 (0, 0))
  r2 : w.heap[n + 1 + 1 + 1]? = some (.cells R2 45 (0, 0))
  l : n + 4 ≤ g
theorem CrR.keep {w0 w w' : World} {n g : Nat} {v : V4} {x : Pl} {R1 R2 : Array Value} (h : CrR w0 n g v x R1 R2 w) (k : Below w.heap.size w w') : CrR w0 n g v x R1 R2 w' :=
  have e := heap_lt h.r2
  ⟨h.b.trans (k.mono (by omega)), h.f.keep (Keep.of k (Nat.le_refl _)) (Nat.le_refl _), (k.block _ (heap_lt h.r)).trans h.r, (k.block _ (by omega)).trans h.r1, (k.block _ e).trans h.r2, h.l⟩
theorem CrR.set1 {w0 w : World} {n g : Nat} {v : V4} {x : Pl} {a b c : Value} {R2 : Array Value} (h : CrR w0 n g v x #[a, b, c] R2 w) (x0 x1 x2 : Value) : CrR w0 n g v x #[x0, x1, x2] R2 (triSet (n + 1 + 1) x0 x1 x2 w) :=
  have e := h.l
  ⟨below_three (by omega) h.b, h.f.off h.r1 (by decide) (fun i hi => triSet_other i hi), (triSet_other _ (by omega)).trans h.r, triSet_at h.r1 _ _ _, (triSet_other _ (by omega)).trans h.r2, e⟩
theorem CrR.set2 {w0 w : World} {n g : Nat} {v : V4} {x : Pl} {a b c : Value} {R1 : Array Value} (h : CrR w0 n g v x R1 #[a, b, c] w) (x0 x1 x2 : Value) : CrR w0 n g v x R1 #[x0, x1, x2] (triSet (n + 1 + 1 + 1) x0 x1 x2 w) :=
  have e := h.l
  ⟨below_three (by omega) h.b, h.f.off h.r2 (by decide) (fun i hi => triSet_other i hi), (triSet_other _ (by omega)).trans h.r, (triSet_other _ (by omega)).trans h.r1, triSet_at h.r2 _ _ _, e⟩
theorem results_rows {P : Program} {fn : Func} {p p' : Tmp} {ty ty' : TypeId} (h : fn.results = #[.cell p ty, .cell p' ty']) (tmps : Array Value) (w : World) (g g' : Nat) (t : TypeId) (cs : Array Value) (fr : Nat × Nat) (d : TypeDesc) (t' : TypeId) (cs' : Array Value) (fr' : Nat × Nat) (d' : TypeDesc)
    (hp : tmps.getD p undef = .pointer (some ⟨g, 0, none⟩)) (hp' : tmps.getD p' undef = .pointer (some ⟨g', 0, none⟩)) (hg : w.heap[g]? = some (.cells cs t fr)) (hg' : w.heap[g']? = some (.cells cs' t' fr'))
    (hu : P.underlying ty = some d) (hd : (match d with | .struct _ | .array _ _ => true | _ => false) = true) (hi : (P.info? ty).map (·.size) = some cs.size)
    (hu' : P.underlying ty' = some d') (hd' : (match d' with | .struct _ | .array _ _ => true | _ => false) = true) (hi' : (P.info? ty').map (·.size) = some cs'.size) :
    (results fn tmps).run P w = .ok (.tuple #[.agg cs, .agg cs']) w := results_pair h tmps w g g' t cs fr d (.agg cs') hp hg hu hd hi hp' (run_loadVar_row w g' t' ty' cs' fr' d' hg' hu' hd' hi')
set_option maxRecDepth 100000 in
set_option maxHeartbeats 6400000 in
theorem sCrossIn (s0 s1 t0 t1 : Pt) (x1 x2 x3 y z xx : Pl) (p q k : Rat) (w : World)
    (HV : ∀ wz, Calls Tryz.prog 61 #[pt s0] wz fun e w' => ∃ E F G H, e = .returned (pv E F G H x1) ∧ PlFresh wz.heap.size w' E F G H x1 ∧ Below wz.heap.size wz w')
    (HW : ∀ wz, Calls Tryz.prog 40 #[st s0 s1] wz fun e w' => ∃ E F G H, e = .returned (pv E F G H x2) ∧ PlFresh wz.heap.size w' E F G H x2 ∧ Below wz.heap.size wz w')
    (HO : ∀ wz, Calls Tryz.prog 40 #[st t0 t1] wz fun e w' => ∃ E F G H, e = .returned (pv E F G H x3) ∧ PlFresh wz.heap.size w' E F G H x3 ∧ Below wz.heap.size wz w')
    (HT : ∀ wz, Calls Tryz.prog 61 #[pt t0] wz fun e w' => ∃ E F G H, e = .returned (pv E F G H y) ∧ PlFresh wz.heap.size w' E F G H y ∧ Below wz.heap.size wz w')
    (H4 : ∀ (u v : V4) (lo : Nat) wz, PlFresh lo wz u.1 u.2.1 u.2.2.1 u.2.2.2 y → PlFresh lo wz v.1 v.2.1 v.2.2.1 v.2.2.2 x1 → Calls Tryz.prog 62 #[pv u.1 u.2.1 u.2.2.1 u.2.2.2 y, pv v.1 v.2.1 v.2.2.1 v.2.2.2 x1] wz fun e w' => ∃ E F G H, e = .returned (pv E F G H z) ∧ PlFresh wz.heap.size w' E F G H z ∧ Below wz.heap.size wz w')
    (H6 : ∀ (u v : V4) (lo : Nat) wz, PlFresh lo wz u.1 u.2.1 u.2.2.1 u.2.2.2 z → PlFresh lo wz v.1 v.2.1 v.2.2.1 v.2.2.2 x3 → Calls Tryz.prog 41 #[pv u.1 u.2.1 u.2.2.1 u.2.2.2 z, pv v.1 v.2.1 v.2.2.1 v.2.2.2 x3] wz fun e w' => ∃ E F, e = .returned (qv E F p) ∧ RatFresh wz.heap.size w' E F p ∧ Below wz.heap.size wz w')
    (H9 : ∀ (u v : V4) (lo : Nat) wz, PlFresh lo wz u.1 u.2.1 u.2.2.1 u.2.2.2 x2 → PlFresh lo wz v.1 v.2.1 v.2.2.1 v.2.2.2 x3 → Calls Tryz.prog 41 #[pv u.1 u.2.1 u.2.2.1 u.2.2.2 x2, pv v.1 v.2.1 v.2.2.1 v.2.2.2 x3] wz fun e w' => ∃ E F, e = .returned (qv E F q) ∧ RatFresh wz.heap.size w' E F q ∧ Below wz.heap.size wz w')
    (H10 : ∀ (u v : V2) (lo : Nat) wz, RatFresh lo wz u.1 u.2 p → RatFresh lo wz v.1 v.2 q → Calls Tryz.prog 82 #[qv u.1 u.2 p, qv v.1 v.2 q] wz fun e w' => ∃ E F, e = .returned (.tuple #[qv E F k, .int .i64 0]) ∧ RatFresh wz.heap.size w' E F k ∧ Below wz.heap.size wz w')
    (HL : ∀ (u : V4) (t : V2) (v : V4) (lo : Nat) wz, PlFresh lo wz u.1 u.2.1 u.2.2.1 u.2.2.2 x1 → RatFresh lo wz t.1 t.2 k → PlFresh lo wz v.1 v.2.1 v.2.2.1 v.2.2.2 x2 → Calls Tryz.prog 83 #[pv u.1 u.2.1 u.2.2.1 u.2.2.2 x1, qv t.1 t.2 k, pv v.1 v.2.1 v.2.2.1 v.2.2.2 x2] wz fun e w' => ∃ E F G H, e = .returned (pv E F G H xx) ∧ PlFresh wz.heap.size w' E F G H xx ∧ Below wz.heap.size wz w') :
    Calls Tryz.prog 42 #[st s0 s1, st t0 t1] w fun e w' => ∃ A B C D, e = .returned (.tuple #[qv A B xx.1, qv C D xx.2]) ∧ RatFresh w.heap.size w' A B xx.1 ∧ RatFresh w.heap.size w' C D xx.2 ∧ Below w.heap.size w w' := by
  replace HV := Lib.hid HV
  replace HW := Lib.hid HW
  replace HO := Lib.hid HO
  replace HT := Lib.hid HT
  replace H4 := Lib.hid H4
  replace H6 := Lib.hid H6
  replace H9 := Lib.hid H9
  replace H10 := Lib.hid H10
  replace HL := Lib.hid HL
  obtain ⟨h1, h2, h3, h4, h5, h6⟩ := four_new w (.cells #[.int .u64 s0.1, .int .u64 s0.2, .int .u64 s1.1, .int .u64 s1.2] 80) (.cells #[.int .u64 t0.1, .int .u64 t0.2, .int .u64 t1.1, .int .u64 t1.2] 80) (.cells #[.bool false, .slice none 0 0, .slice none 0 0] 45) (.cells #[.bool false, .slice none 0 0, .slice none 0 0] 45)
  unfold st at HW HO ⊢
  unfold pt at HV HT
  go_enter Tryz.func42, Tryz.ntmps42
  ((try dsimp only); repeat (first | go_values | go_skip | go_guarded | go_step | go_upon))
  generalize World.alloc (World.alloc (World.alloc (World.alloc w _) _) _) _ = w4 at *
  have hS : CrS w w.heap.size s0 s1 t0 t1 w4.drew := ⟨h6.drew, h1, h2, h3, h4⟩
  clear h1 h2 h3 h4 h6
  generalize hn : w.heap.size = n at *
  refine start_ (n := 13) (S := fun w' => CrS w n s0 s1 t0 t1 w') (ds := [10, 11, 12]) (bt 13 0) (by kernel_rfl) rfl rfl (hS) (fun hHeld => ?_)
  refine pv_ 0 12 ?_
  refine ld_ 1 13 ?_ hHeld ?_ ?_; rotate_left
  · rintro w' hs
    obtain ⟨q0, q1, q2, q3, _⟩ := row4f hs.s
    obtain ⟨p0, p1, p2, p3, _⟩ := row4f hs.t
    clear hs
    go_simp; with_reducible rfl
  refine ld_ 3 15 ?_ hHeld ?_ ?_; rotate_left
  · rintro w' hs
    obtain ⟨q0, q1, q2, q3, _⟩ := row4f hs.s
    obtain ⟨p0, p1, p2, p3, _⟩ := row4f hs.t
    clear hs
    go_simp; with_reducible rfl
  refine ld_ 5 17 ?_ hHeld ?_ ?_; rotate_left
  · rintro w' hs
    obtain ⟨q0, q1, q2, q3, _⟩ := row4f hs.s
    obtain ⟨p0, p1, p2, p3, _⟩ := row4f hs.t
    clear hs
    go_simp; with_reducible rfl
  refine join_ (σ := V4 × V4 × V4 × Nat × Nat × Nat) 3 (bt 13 1023) (fun s => [(14, pv s.1.1 s.1.2.1 s.1.2.2.1 s.1.2.2.2 x1), (16, pv s.2.1.1 s.2.1.2.1 s.2.1.2.2.1 s.2.1.2.2.2 x2), (18, pv s.2.2.1.1 s.2.2.1.2.1 s.2.2.1.2.2.1 s.2.2.1.2.2.2 x3), (6, .pointer (some ⟨s.2.2.2.1, 0, none⟩)), (7, .pointer (some ⟨s.2.2.2.2.1, 0, none⟩)), (8, .pointer (some ⟨s.2.2.2.2.2, 0, none⟩))]) (fun s w' => CrI w n s0 s1 t0 t1 x1 x2 x3 (some s.1) (some s.2.1) (some s.2.2.1) (some s.2.2.2.1) (some s.2.2.2.2.1) (some s.2.2.2.2.2) w') ?_ ?_
  rotate_left
  · intro J0
    refine join_ (σ := V4 × V4 × V4 × Nat × Nat × Nat) 4 (bt 13 511) (fun s => [(14, pv s.1.1 s.1.2.1 s.1.2.2.1 s.1.2.2.2 x1), (16, pv s.2.1.1 s.2.1.2.1 s.2.1.2.2.1 s.2.1.2.2.2 x2), (18, pv s.2.2.1.1 s.2.2.1.2.1 s.2.2.1.2.2.1 s.2.2.1.2.2.2 x3), (6, .pointer (some ⟨s.2.2.2.1, 0, none⟩)), (7, .pointer (some ⟨s.2.2.2.2.1, 0, none⟩))]) (fun s w' => CrI w n s0 s1 t0 t1 x1 x2 x3 (some s.1) (some s.2.1) (some s.2.2.1) (some s.2.2.2.1) (some s.2.2.2.2.1) none w') ?_ ?_
    · rintro ⟨⟨E1, F1, G1, I1⟩, ⟨E2, F2, G2, I2⟩, ⟨E3, F3, G3, I3⟩, g1, g2, g3⟩ wj hF
      try dsimp only at hF ⊢
      refine na ?_
      refine o1 9 8 (bt 13 1023) ?_
      · intro K hK
        refine al_ (.cells #[.bool false, .slice none 0 0, .slice none 0 0, .bool false, .slice none 0 0, .slice none 0 0] 89) ?_
        have hN := hF.box3
        refine hK.out _ _ (by exact hN.h) (fun hHeld => ?_)
        exact nj (J0 ((E1, F1, G1, I1), (E2, F2, G2, I2), (E3, F3, G3, I3), g1, g2, wj.heap.size) _ hN)
    intro J1
    refine join_ (σ := V4 × V4 × V4 × Nat × Nat × Nat) 4 (bt 13 767) (fun s => [(14, pv s.1.1 s.1.2.1 s.1.2.2.1 s.1.2.2.2 x1), (16, pv s.2.1.1 s.2.1.2.1 s.2.1.2.2.1 s.2.1.2.2.2 x2), (18, pv s.2.2.1.1 s.2.2.1.2.1 s.2.2.1.2.2.1 s.2.2.1.2.2.2 x3), (6, .pointer (some ⟨s.2.2.2.1, 0, none⟩)), (8, .pointer (some ⟨s.2.2.2.2.2, 0, none⟩))]) (fun s w' => CrI w n s0 s1 t0 t1 x1 x2 x3 (some s.1) (some s.2.1) (some s.2.2.1) (some s.2.2.2.1) none (some s.2.2.2.2.2) w') ?_ ?_
    · rintro ⟨⟨E1, F1, G1, I1⟩, ⟨E2, F2, G2, I2⟩, ⟨E3, F3, G3, I3⟩, g1, g2, g3⟩ wj hF
      try dsimp only at hF ⊢
      refine na ?_
      refine o1 8 7 (bt 13 1023) ?_
      · intro K hK
        refine al_ (.cells #[.bool false, .slice none 0 0, .slice none 0 0, .bool false, .slice none 0 0, .slice none 0 0] 89) ?_
        have hN := hF.box2
        refine hK.out _ _ (by exact hN.h) (fun hHeld => ?_)
        exact nj (J0 ((E1, F1, G1, I1), (E2, F2, G2, I2), (E3, F3, G3, I3), g1, wj.heap.size, g3) _ hN)
    intro J2
    refine join_ (σ := V4 × V4 × V4 × Nat × Nat × Nat) 4 (bt 13 895) (fun s => [(14, pv s.1.1 s.1.2.1 s.1.2.2.1 s.1.2.2.2 x1), (16, pv s.2.1.1 s.2.1.2.1 s.2.1.2.2.1 s.2.1.2.2.2 x2), (18, pv s.2.2.1.1 s.2.2.1.2.1 s.2.2.1.2.2.1 s.2.2.1.2.2.2 x3), (7, .pointer (some ⟨s.2.2.2.2.1, 0, none⟩)), (8, .pointer (some ⟨s.2.2.2.2.2, 0, none⟩))]) (fun s w' => CrI w n s0 s1 t0 t1 x1 x2 x3 (some s.1) (some s.2.1) (some s.2.2.1) none (some s.2.2.2.2.1) (some s.2.2.2.2.2) w') ?_ ?_
    · rintro ⟨⟨E1, F1, G1, I1⟩, ⟨E2, F2, G2, I2⟩, ⟨E3, F3, G3, I3⟩, g1, g2, g3⟩ wj hF
      try dsimp only at hF ⊢
      refine na ?_
      refine o1 7 6 (bt 13 1023) ?_
      · intro K hK
        refine al_ (.cells #[.bool false, .slice none 0 0, .slice none 0 0, .bool false, .slice none 0 0, .slice none 0 0] 89) ?_
        have hN := hF.box1
        refine hK.out _ _ (by exact hN.h) (fun hHeld => ?_)
        exact nj (J0 ((E1, F1, G1, I1), (E2, F2, G2, I2), (E3, F3, G3, I3), wj.heap.size, g2, g3) _ hN)
    intro J3
    refine join_ (σ := V4 × V4 × V4 × Nat × Nat × Nat) 4 (bt 13 959) (fun s => [(14, pv s.1.1 s.1.2.1 s.1.2.2.1 s.1.2.2.2 x1), (16, pv s.2.1.1 s.2.1.2.1 s.2.1.2.2.1 s.2.1.2.2.2 x2), (6, .pointer (some ⟨s.2.2.2.1, 0, none⟩)), (7, .pointer (some ⟨s.2.2.2.2.1, 0, none⟩)), (8, .pointer (some ⟨s.2.2.2.2.2, 0, none⟩))]) (fun s w' => CrI w n s0 s1 t0 t1 x1 x2 x3 (some s.1) (some s.2.1) none (some s.2.2.2.1) (some s.2.2.2.2.1) (some s.2.2.2.2.2) w') ?_ ?_
    · rintro ⟨⟨E1, F1, G1, I1⟩, ⟨E2, F2, G2, I2⟩, ⟨E3, F3, G3, I3⟩, g1, g2, g3⟩ wj hF
      try dsimp only at hF ⊢
      refine na ?_
      refine o1 6 18 (bt 13 1023) ?_
      · intro K hK
        refine goes_ Tryz.func40 (by kernel_rfl) rfl #[.agg #[.int .u64 t0.1, .int .u64 t0.2, .int .u64 t1.1, .int .u64 t1.2]] (by rfl) rfl rfl (by first | rfl | (simp [Act.eval]; done) | (simp [Act.eval, pv, pt, st]; done) | (go_simp; rfl)) ?_
        with_reducible refine (HO.out _).mono ?_
        rintro e w' ⟨E3, F3, G3, I3, rfl, hf, hb⟩
        refine ⟨_, rfl, ?_⟩
        have hN := hF.call3 (E3, F3, G3, I3) hf hb
        refine hK.out _ _ (by exact hN.h) (fun hHeld => ?_)
        exact nj (J0 ((E1, F1, G1, I1), (E2, F2, G2, I2), (E3, F3, G3, I3), g1, g2, g3) _ hN)
    intro J4
    refine join_ (σ := V4 × V4 × V4 × Nat × Nat × Nat) 5 (bt 13 255) (fun s => [(14, pv s.1.1 s.1.2.1 s.1.2.2.1 s.1.2.2.2 x1), (16, pv s.2.1.1 s.2.1.2.1 s.2.1.2.2.1 s.2.1.2.2.2 x2), (18, pv s.2.2.1.1 s.2.2.1.2.1 s.2.2.1.2.2.1 s.2.2.1.2.2.2 x3), (6, .pointer (some ⟨s.2.2.2.1, 0, none⟩))]) (fun s w' => CrI w n s0 s1 t0 t1 x1 x2 x3 (some s.1) (some s.2.1) (some s.2.2.1) (some s.2.2.2.1) none none w') ?_ ?_
    · rintro ⟨⟨E1, F1, G1, I1⟩, ⟨E2, F2, G2, I2⟩, ⟨E3, F3, G3, I3⟩, g1, g2, g3⟩ wj hF
      try dsimp only at hF ⊢
      refine na ?_
      refine o2 8 7 9 8 (bt 13 511) (bt 13 767) ?_ ?_
      · intro K hK
        refine al_ (.cells #[.bool false, .slice none 0 0, .slice none 0 0, .bool false, .slice none 0 0, .slice none 0 0] 89) ?_
        have hN := hF.box2
        refine hK.out _ _ (by exact hN.h) (fun hHeld => ?_)
        exact nj (J1 ((E1, F1, G1, I1), (E2, F2, G2, I2), (E3, F3, G3, I3), g1, wj.heap.size, g3) _ hN)
      · intro K hK
        refine al_ (.cells #[.bool false, .slice none 0 0, .slice none 0 0, .bool false, .slice none 0 0, .slice none 0 0] 89) ?_
        have hN := hF.box3
        refine hK.out _ _ (by exact hN.h) (fun hHeld => ?_)
        exact nj (J2 ((E1, F1, G1, I1), (E2, F2, G2, I2), (E3, F3, G3, I3), g1, g2, wj.heap.size) _ hN)
    intro J5
    refine join_ (σ := V4 × V4 × V4 × Nat × Nat × Nat) 5 (bt 13 383) (fun s => [(14, pv s.1.1 s.1.2.1 s.1.2.2.1 s.1.2.2.2 x1), (16, pv s.2.1.1 s.2.1.2.1 s.2.1.2.2.1 s.2.1.2.2.2 x2), (18, pv s.2.2.1.1 s.2.2.1.2.1 s.2.2.1.2.2.1 s.2.2.1.2.2.2 x3), (7, .pointer (some ⟨s.2.2.2.2.1, 0, none⟩))]) (fun s w' => CrI w n s0 s1 t0 t1 x1 x2 x3 (some s.1) (some s.2.1) (some s.2.2.1) none (some s.2.2.2.2.1) none w') ?_ ?_
    · rintro ⟨⟨E1, F1, G1, I1⟩, ⟨E2, F2, G2, I2⟩, ⟨E3, F3, G3, I3⟩, g1, g2, g3⟩ wj hF
      try dsimp only at hF ⊢
      refine na ?_
      refine o2 7 6 9 8 (bt 13 511) (bt 13 895) ?_ ?_
      · intro K hK
        refine al_ (.cells #[.bool false, .slice none 0 0, .slice none 0 0, .bool false, .slice none 0 0, .slice none 0 0] 89) ?_
        have hN := hF.box1
        refine hK.out _ _ (by exact hN.h) (fun hHeld => ?_)
        exact nj (J1 ((E1, F1, G1, I1), (E2, F2, G2, I2), (E3, F3, G3, I3), wj.heap.size, g2, g3) _ hN)
      · intro K hK
        refine al_ (.cells #[.bool false, .slice none 0 0, .slice none 0 0, .bool false, .slice none 0 0, .slice none 0 0] 89) ?_
        have hN := hF.box3
        refine hK.out _ _ (by exact hN.h) (fun hHeld => ?_)
        exact nj (J3 ((E1, F1, G1, I1), (E2, F2, G2, I2), (E3, F3, G3, I3), g1, g2, wj.heap.size) _ hN)
    intro J6
    refine join_ (σ := V4 × V4 × V4 × Nat × Nat × Nat) 5 (bt 13 639) (fun s => [(14, pv s.1.1 s.1.2.1 s.1.2.2.1 s.1.2.2.2 x1), (16, pv s.2.1.1 s.2.1.2.1 s.2.1.2.2.1 s.2.1.2.2.2 x2), (18, pv s.2.2.1.1 s.2.2.1.2.1 s.2.2.1.2.2.1 s.2.2.1.2.2.2 x3), (8, .pointer (some ⟨s.2.2.2.2.2, 0, none⟩))]) (fun s w' => CrI w n s0 s1 t0 t1 x1 x2 x3 (some s.1) (some s.2.1) (some s.2.2.1) none none (some s.2.2.2.2.2) w') ?_ ?_
    · rintro ⟨⟨E1, F1, G1, I1⟩, ⟨E2, F2, G2, I2⟩, ⟨E3, F3, G3, I3⟩, g1, g2, g3⟩ wj hF
      try dsimp only at hF ⊢
      refine na ?_
      refine o2 7 6 8 7 (bt 13 767) (bt 13 895) ?_ ?_
      · intro K hK
        refine al_ (.cells #[.bool false, .slice none 0 0, .slice none 0 0, .bool false, .slice none 0 0, .slice none 0 0] 89) ?_
        have hN := hF.box1
        refine hK.out _ _ (by exact hN.h) (fun hHeld => ?_)
        exact nj (J2 ((E1, F1, G1, I1), (E2, F2, G2, I2), (E3, F3, G3, I3), wj.heap.size, g2, g3) _ hN)
      · intro K hK
        refine al_ (.cells #[.bool false, .slice none 0 0, .slice none 0 0, .bool false, .slice none 0 0, .slice none 0 0] 89) ?_
        have hN := hF.box2
        refine hK.out _ _ (by exact hN.h) (fun hHeld => ?_)
        exact nj (J3 ((E1, F1, G1, I1), (E2, F2, G2, I2), (E3, F3, G3, I3), g1, wj.heap.size, g3) _ hN)
    intro J7
    refine join_ (σ := V4 × V4 × V4 × Nat × Nat × Nat) 5 (bt 13 447) (fun s => [(14, pv s.1.1 s.1.2.1 s.1.2.2.1 s.1.2.2.2 x1), (16, pv s.2.1.1 s.2.1.2.1 s.2.1.2.2.1 s.2.1.2.2.2 x2), (6, .pointer (some ⟨s.2.2.2.1, 0, none⟩)), (7, .pointer (some ⟨s.2.2.2.2.1, 0, none⟩))]) (fun s w' => CrI w n s0 s1 t0 t1 x1 x2 x3 (some s.1) (some s.2.1) none (some s.2.2.2.1) (some s.2.2.2.2.1) none w') ?_ ?_
    · rintro ⟨⟨E1, F1, G1, I1⟩, ⟨E2, F2, G2, I2⟩, ⟨E3, F3, G3, I3⟩, g1, g2, g3⟩ wj hF
      try dsimp only at hF ⊢
      refine na ?_
      refine o2 6 18 9 8 (bt 13 511) (bt 13 959) ?_ ?_
      · intro K hK
        refine goes_ Tryz.func40 (by kernel_rfl) rfl #[.agg #[.int .u64 t0.1, .int .u64 t0.2, .int .u64 t1.1, .int .u64 t1.2]] (by rfl) rfl rfl (by first | rfl | (simp [Act.eval]; done) | (simp [Act.eval, pv, pt, st]; done) | (go_simp; rfl)) ?_
        with_reducible refine (HO.out _).mono ?_
        rintro e w' ⟨E3, F3, G3, I3, rfl, hf, hb⟩
        refine ⟨_, rfl, ?_⟩
        have hN := hF.call3 (E3, F3, G3, I3) hf hb
        refine hK.out _ _ (by exact hN.h) (fun hHeld => ?_)
        exact nj (J1 ((E1, F1, G1, I1), (E2, F2, G2, I2), (E3, F3, G3, I3), g1, g2, g3) _ hN)
      · intro K hK
        refine al_ (.cells #[.bool false, .slice none 0 0, .slice none 0 0, .bool false, .slice none 0 0, .slice none 0 0] 89) ?_
        have hN := hF.box3
        refine hK.out _ _ (by exact hN.h) (fun hHeld => ?_)
        exact nj (J4 ((E1, F1, G1, I1), (E2, F2, G2, I2), (E3, F3, G3, I3), g1, g2, wj.heap.size) _ hN)
    intro J8
    refine join_ (σ := V4 × V4 × V4 × Nat × Nat × Nat) 5 (bt 13 703) (fun s => [(14, pv s.1.1 s.1.2.1 s.1.2.2.1 s.1.2.2.2 x1), (16, pv s.2.1.1 s.2.1.2.1 s.2.1.2.2.1 s.2.1.2.2.2 x2), (6, .pointer (some ⟨s.2.2.2.1, 0, none⟩)), (8, .pointer (some ⟨s.2.2.2.2.2, 0, none⟩))]) (fun s w' => CrI w n s0 s1 t0 t1 x1 x2 x3 (some s.1) (some s.2.1) none (some s.2.2.2.1) none (some s.2.2.2.2.2) w') ?_ ?_
    · rintro ⟨⟨E1, F1, G1, I1⟩, ⟨E2, F2, G2, I2⟩, ⟨E3, F3, G3, I3⟩, g1, g2, g3⟩ wj hF
      try dsimp only at hF ⊢
      refine na ?_
      refine o2 6 18 8 7 (bt 13 767) (bt 13 959) ?_ ?_
      · intro K hK
        refine goes_ Tryz.func40 (by kernel_rfl) rfl #[.agg #[.int .u64 t0.1, .int .u64 t0.2, .int .u64 t1.1, .int .u64 t1.2]] (by rfl) rfl rfl (by first | rfl | (simp [Act.eval]; done) | (simp [Act.eval, pv, pt, st]; done) | (go_simp; rfl)) ?_
        with_reducible refine (HO.out _).mono ?_
        rintro e w' ⟨E3, F3, G3, I3, rfl, hf, hb⟩
        refine ⟨_, rfl, ?_⟩
        have hN := hF.call3 (E3, F3, G3, I3) hf hb
        refine hK.out _ _ (by exact hN.h) (fun hHeld => ?_)
        exact nj (J2 ((E1, F1, G1, I1), (E2, F2, G2, I2), (E3, F3, G3, I3), g1, g2, g3) _ hN)
      · intro K hK
        refine al_ (.cells #[.bool false, .slice none 0 0, .slice none 0 0, .bool false, .slice none 0 0, .slice none 0 0] 89) ?_
        have hN := hF.box2
        refine hK.out _ _ (by exact hN.h) (fun hHeld => ?_)
        exact nj (J4 ((E1, F1, G1, I1), (E2, F2, G2, I2), (E3, F3, G3, I3), g1, wj.heap.size, g3) _ hN)
    intro J9
    refine join_ (σ := V4 × V4 × V4 × Nat × Nat × Nat) 5 (bt 13 831) (fun s => [(14, pv s.1.1 s.1.2.1 s.1.2.2.1 s.1.2.2.2 x1), (16, pv s.2.1.1 s.2.1.2.1 s.2.1.2.2.1 s.2.1.2.2.2 x2), (7, .pointer (some ⟨s.2.2.2.2.1, 0, none⟩)), (8, .pointer (some ⟨s.2.2.2.2.2, 0, none⟩))]) (fun s w' => CrI w n s0 s1 t0 t1 x1 x2 x3 (some s.1) (some s.2.1) none none (some s.2.2.2.2.1) (some s.2.2.2.2.2) w') ?_ ?_
    · rintro ⟨⟨E1, F1, G1, I1⟩, ⟨E2, F2, G2, I2⟩, ⟨E3, F3, G3, I3⟩, g1, g2, g3⟩ wj hF
      try dsimp only at hF ⊢
      refine na ?_
      refine o2 6 18 7 6 (bt 13 895) (bt 13 959) ?_ ?_
      · intro K hK
        refine goes_ Tryz.func40 (by kernel_rfl) rfl #[.agg #[.int .u64 t0.1, .int .u64 t0.2, .int .u64 t1.1, .int .u64 t1.2]] (by rfl) rfl rfl (by first | rfl | (simp [Act.eval]; done) | (simp [Act.eval, pv, pt, st]; done) | (go_simp; rfl)) ?_
        with_reducible refine (HO.out _).mono ?_
        rintro e w' ⟨E3, F3, G3, I3, rfl, hf, hb⟩
        refine ⟨_, rfl, ?_⟩
        have hN := hF.call3 (E3, F3, G3, I3) hf hb
        refine hK.out _ _ (by exact hN.h) (fun hHeld => ?_)
        exact nj (J3 ((E1, F1, G1, I1), (E2, F2, G2, I2), (E3, F3, G3, I3), g1, g2, g3) _ hN)
      · intro K hK
        refine al_ (.cells #[.bool false, .slice none 0 0, .slice none 0 0, .bool false, .slice none 0 0, .slice none 0 0] 89) ?_
        have hN := hF.box1
        refine hK.out _ _ (by exact hN.h) (fun hHeld => ?_)
        exact nj (J4 ((E1, F1, G1, I1), (E2, F2, G2, I2), (E3, F3, G3, I3), wj.heap.size, g2, g3) _ hN)
    intro J10
    refine join_ (σ := V4 × V4 × V4 × Nat × Nat × Nat) 5 (bt 13 943) (fun s => [(14, pv s.1.1 s.1.2.1 s.1.2.2.1 s.1.2.2.2 x1), (6, .pointer (some ⟨s.2.2.2.1, 0, none⟩)), (7, .pointer (some ⟨s.2.2.2.2.1, 0, none⟩)), (8, .pointer (some ⟨s.2.2.2.2.2, 0, none⟩))]) (fun s w' => CrI w n s0 s1 t0 t1 x1 x2 x3 (some s.1) none none (some s.2.2.2.1) (some s.2.2.2.2.1) (some s.2.2.2.2.2) w') ?_ ?_
    · rintro ⟨⟨E1, F1, G1, I1⟩, ⟨E2, F2, G2, I2⟩, ⟨E3, F3, G3, I3⟩, g1, g2, g3⟩ wj hF
      try dsimp only at hF ⊢
      refine na ?_
      refine o1 4 16 (bt 13 959) ?_
      · intro K hK
        refine goes_ Tryz.func40 (by kernel_rfl) rfl #[.agg #[.int .u64 s0.1, .int .u64 s0.2, .int .u64 s1.1, .int .u64 s1.2]] (by rfl) rfl rfl (by first | rfl | (simp [Act.eval]; done) | (simp [Act.eval, pv, pt, st]; done) | (go_simp; rfl)) ?_
        with_reducible refine (HW.out _).mono ?_
        rintro e w' ⟨E2, F2, G2, I2, rfl, hf, hb⟩
        refine ⟨_, rfl, ?_⟩
        have hN := hF.call2 (E2, F2, G2, I2) hf hb
        refine hK.out _ _ (by exact hN.h) (fun hHeld => ?_)
        exact nj (J4 ((E1, F1, G1, I1), (E2, F2, G2, I2), (E3, F3, G3, I3), g1, g2, g3) _ hN)
    intro J11
    refine join_ (σ := V4 × V4 × V4 × Nat × Nat × Nat) 6 (bt 13 127) (fun s => [(14, pv s.1.1 s.1.2.1 s.1.2.2.1 s.1.2.2.2 x1), (16, pv s.2.1.1 s.2.1.2.1 s.2.1.2.2.1 s.2.1.2.2.2 x2), (18, pv s.2.2.1.1 s.2.2.1.2.1 s.2.2.1.2.2.1 s.2.2.1.2.2.2 x3)]) (fun s w' => CrI w n s0 s1 t0 t1 x1 x2 x3 (some s.1) (some s.2.1) (some s.2.2.1) none none none w') ?_ ?_
    · rintro ⟨⟨E1, F1, G1, I1⟩, ⟨E2, F2, G2, I2⟩, ⟨E3, F3, G3, I3⟩, g1, g2, g3⟩ wj hF
      try dsimp only at hF ⊢
      refine na ?_
      refine o3 7 6 8 7 9 8 (bt 13 255) (bt 13 383) (bt 13 639) ?_ ?_ ?_
      · intro K hK
        refine al_ (.cells #[.bool false, .slice none 0 0, .slice none 0 0, .bool false, .slice none 0 0, .slice none 0 0] 89) ?_
        have hN := hF.box1
        refine hK.out _ _ (by exact hN.h) (fun hHeld => ?_)
        exact nj (J5 ((E1, F1, G1, I1), (E2, F2, G2, I2), (E3, F3, G3, I3), wj.heap.size, g2, g3) _ hN)
      · intro K hK
        refine al_ (.cells #[.bool false, .slice none 0 0, .slice none 0 0, .bool false, .slice none 0 0, .slice none 0 0] 89) ?_
        have hN := hF.box2
        refine hK.out _ _ (by exact hN.h) (fun hHeld => ?_)
        exact nj (J6 ((E1, F1, G1, I1), (E2, F2, G2, I2), (E3, F3, G3, I3), g1, wj.heap.size, g3) _ hN)
      · intro K hK
        refine al_ (.cells #[.bool false, .slice none 0 0, .slice none 0 0, .bool false, .slice none 0 0, .slice none 0 0] 89) ?_
        have hN := hF.box3
        refine hK.out _ _ (by exact hN.h) (fun hHeld => ?_)
        exact nj (J7 ((E1, F1, G1, I1), (E2, F2, G2, I2), (E3, F3, G3, I3), g1, g2, wj.heap.size) _ hN)
    intro J12
    refine join_ (σ := V4 × V4 × V4 × Nat × Nat × Nat) 6 (bt 13 191) (fun s => [(14, pv s.1.1 s.1.2.1 s.1.2.2.1 s.1.2.2.2 x1), (16, pv s.2.1.1 s.2.1.2.1 s.2.1.2.2.1 s.2.1.2.2.2 x2), (6, .pointer (some ⟨s.2.2.2.1, 0, none⟩))]) (fun s w' => CrI w n s0 s1 t0 t1 x1 x2 x3 (some s.1) (some s.2.1) none (some s.2.2.2.1) none none w') ?_ ?_
    · rintro ⟨⟨E1, F1, G1, I1⟩, ⟨E2, F2, G2, I2⟩, ⟨E3, F3, G3, I3⟩, g1, g2, g3⟩ wj hF
      try dsimp only at hF ⊢
      refine na ?_
      refine o3 6 18 8 7 9 8 (bt 13 255) (bt 13 447) (bt 13 703) ?_ ?_ ?_
      · intro K hK
        refine goes_ Tryz.func40 (by kernel_rfl) rfl #[.agg #[.int .u64 t0.1, .int .u64 t0.2, .int .u64 t1.1, .int .u64 t1.2]] (by rfl) rfl rfl (by first | rfl | (simp [Act.eval]; done) | (simp [Act.eval, pv, pt, st]; done) | (go_simp; rfl)) ?_
        with_reducible refine (HO.out _).mono ?_
        rintro e w' ⟨E3, F3, G3, I3, rfl, hf, hb⟩
        refine ⟨_, rfl, ?_⟩
        have hN := hF.call3 (E3, F3, G3, I3) hf hb
        refine hK.out _ _ (by exact hN.h) (fun hHeld => ?_)
        exact nj (J5 ((E1, F1, G1, I1), (E2, F2, G2, I2), (E3, F3, G3, I3), g1, g2, g3) _ hN)
      · intro K hK
        refine al_ (.cells #[.bool false, .slice none 0 0, .slice none 0 0, .bool false, .slice none 0 0, .slice none 0 0] 89) ?_
        have hN := hF.box2
        refine hK.out _ _ (by exact hN.h) (fun hHeld => ?_)
        exact nj (J8 ((E1, F1, G1, I1), (E2, F2, G2, I2), (E3, F3, G3, I3), g1, wj.heap.size, g3) _ hN)
      · intro K hK
        refine al_ (.cells #[.bool false, .slice none 0 0, .slice none 0 0, .bool false, .slice none 0 0, .slice none 0 0] 89) ?_
        have hN := hF.box3
        refine hK.out _ _ (by exact hN.h) (fun hHeld => ?_)
        exact nj (J9 ((E1, F1, G1, I1), (E2, F2, G2, I2), (E3, F3, G3, I3), g1, g2, wj.heap.size) _ hN)
    intro J13
    refine join_ (σ := V4 × V4 × V4 × Nat × Nat × Nat) 6 (bt 13 319) (fun s => [(14, pv s.1.1 s.1.2.1 s.1.2.2.1 s.1.2.2.2 x1), (16, pv s.2.1.1 s.2.1.2.1 s.2.1.2.2.1 s.2.1.2.2.2 x2), (7, .pointer (some ⟨s.2.2.2.2.1, 0, none⟩))]) (fun s w' => CrI w n s0 s1 t0 t1 x1 x2 x3 (some s.1) (some s.2.1) none none (some s.2.2.2.2.1) none w') ?_ ?_
    · rintro ⟨⟨E1, F1, G1, I1⟩, ⟨E2, F2, G2, I2⟩, ⟨E3, F3, G3, I3⟩, g1, g2, g3⟩ wj hF
      try dsimp only at hF ⊢
      refine na ?_
      refine o3 6 18 7 6 9 8 (bt 13 383) (bt 13 447) (bt 13 831) ?_ ?_ ?_
      · intro K hK
        refine goes_ Tryz.func40 (by kernel_rfl) rfl #[.agg #[.int .u64 t0.1, .int .u64 t0.2, .int .u64 t1.1, .int .u64 t1.2]] (by rfl) rfl rfl (by first | rfl | (simp [Act.eval]; done) | (simp [Act.eval, pv, pt, st]; done) | (go_simp; rfl)) ?_
        with_reducible refine (HO.out _).mono ?_
        rintro e w' ⟨E3, F3, G3, I3, rfl, hf, hb⟩
        refine ⟨_, rfl, ?_⟩
        have hN := hF.call3 (E3, F3, G3, I3) hf hb
        refine hK.out _ _ (by exact hN.h) (fun hHeld => ?_)
        exact nj (J6 ((E1, F1, G1, I1), (E2, F2, G2, I2), (E3, F3, G3, I3), g1, g2, g3) _ hN)
      · intro K hK
        refine al_ (.cells #[.bool false, .slice none 0 0, .slice none 0 0, .bool false, .slice none 0 0, .slice none 0 0] 89) ?_
        have hN := hF.box1
        refine hK.out _ _ (by exact hN.h) (fun hHeld => ?_)
        exact nj (J8 ((E1, F1, G1, I1), (E2, F2, G2, I2), (E3, F3, G3, I3), wj.heap.size, g2, g3) _ hN)
      · intro K hK
        refine al_ (.cells #[.bool false, .slice none 0 0, .slice none 0 0, .bool false, .slice none 0 0, .slice none 0 0] 89) ?_
        have hN := hF.box3
        refine hK.out _ _ (by exact hN.h) (fun hHeld => ?_)
        exact nj (J10 ((E1, F1, G1, I1), (E2, F2, G2, I2), (E3, F3, G3, I3), g1, g2, wj.heap.size) _ hN)
    intro J14
    refine join_ (σ := V4 × V4 × V4 × Nat × Nat × Nat) 6 (bt 13 575) (fun s => [(14, pv s.1.1 s.1.2.1 s.1.2.2.1 s.1.2.2.2 x1), (16, pv s.2.1.1 s.2.1.2.1 s.2.1.2.2.1 s.2.1.2.2.2 x2), (8, .pointer (some ⟨s.2.2.2.2.2, 0, none⟩))]) (fun s w' => CrI w n s0 s1 t0 t1 x1 x2 x3 (some s.1) (some s.2.1) none none none (some s.2.2.2.2.2) w') ?_ ?_
    · rintro ⟨⟨E1, F1, G1, I1⟩, ⟨E2, F2, G2, I2⟩, ⟨E3, F3, G3, I3⟩, g1, g2, g3⟩ wj hF
      try dsimp only at hF ⊢
      refine na ?_
      refine o3 6 18 7 6 8 7 (bt 13 639) (bt 13 703) (bt 13 831) ?_ ?_ ?_
      · intro K hK
        refine goes_ Tryz.func40 (by kernel_rfl) rfl #[.agg #[.int .u64 t0.1, .int .u64 t0.2, .int .u64 t1.1, .int .u64 t1.2]] (by rfl) rfl rfl (by first | rfl | (simp [Act.eval]; done) | (simp [Act.eval, pv, pt, st]; done) | (go_simp; rfl)) ?_
        with_reducible refine (HO.out _).mono ?_
        rintro e w' ⟨E3, F3, G3, I3, rfl, hf, hb⟩
        refine ⟨_, rfl, ?_⟩
        have hN := hF.call3 (E3, F3, G3, I3) hf hb
        refine hK.out _ _ (by exact hN.h) (fun hHeld => ?_)
        exact nj (J7 ((E1, F1, G1, I1), (E2, F2, G2, I2), (E3, F3, G3, I3), g1, g2, g3) _ hN)
      · intro K hK
        refine al_ (.cells #[.bool false, .slice none 0 0, .slice none 0 0, .bool false, .slice none 0 0, .slice none 0 0] 89) ?_
        have hN := hF.box1
        refine hK.out _ _ (by exact hN.h) (fun hHeld => ?_)
        exact nj (J9 ((E1, F1, G1, I1), (E2, F2, G2, I2), (E3, F3, G3, I3), wj.heap.size, g2, g3) _ hN)
      · intro K hK
        refine al_ (.cells #[.bool false, .slice none 0 0, .slice none 0 0, .bool false, .slice none 0 0, .slice none 0 0] 89) ?_
        have hN := hF.box2
        refine hK.out _ _ (by exact hN.h) (fun hHeld => ?_)
        exact nj (J10 ((E1, F1, G1, I1), (E2, F2, G2, I2), (E3, F3, G3, I3), g1, wj.heap.size, g3) _ hN)
    intro J15
    refine join_ (σ := V4 × V4 × V4 × Nat × Nat × Nat) 6 (bt 13 431) (fun s => [(14, pv s.1.1 s.1.2.1 s.1.2.2.1 s.1.2.2.2 x1), (6, .pointer (some ⟨s.2.2.2.1, 0, none⟩)), (7, .pointer (some ⟨s.2.2.2.2.1, 0, none⟩))]) (fun s w' => CrI w n s0 s1 t0 t1 x1 x2 x3 (some s.1) none none (some s.2.2.2.1) (some s.2.2.2.2.1) none w') ?_ ?_
    · rintro ⟨⟨E1, F1, G1, I1⟩, ⟨E2, F2, G2, I2⟩, ⟨E3, F3, G3, I3⟩, g1, g2, g3⟩ wj hF
      try dsimp only at hF ⊢
      refine na ?_
      refine o2 4 16 9 8 (bt 13 447) (bt 13 943) ?_ ?_
      · intro K hK
        refine goes_ Tryz.func40 (by kernel_rfl) rfl #[.agg #[.int .u64 s0.1, .int .u64 s0.2, .int .u64 s1.1, .int .u64 s1.2]] (by rfl) rfl rfl (by first | rfl | (simp [Act.eval]; done) | (simp [Act.eval, pv, pt, st]; done) | (go_simp; rfl)) ?_
        with_reducible refine (HW.out _).mono ?_
        rintro e w' ⟨E2, F2, G2, I2, rfl, hf, hb⟩
        refine ⟨_, rfl, ?_⟩
        have hN := hF.call2 (E2, F2, G2, I2) hf hb
        refine hK.out _ _ (by exact hN.h) (fun hHeld => ?_)
        exact nj (J8 ((E1, F1, G1, I1), (E2, F2, G2, I2), (E3, F3, G3, I3), g1, g2, g3) _ hN)
      · intro K hK
        refine al_ (.cells #[.bool false, .slice none 0 0, .slice none 0 0, .bool false, .slice none 0 0, .slice none 0 0] 89) ?_
        have hN := hF.box3
        refine hK.out _ _ (by exact hN.h) (fun hHeld => ?_)
        exact nj (J11 ((E1, F1, G1, I1), (E2, F2, G2, I2), (E3, F3, G3, I3), g1, g2, wj.heap.size) _ hN)
    intro J16
    refine join_ (σ := V4 × V4 × V4 × Nat × Nat × Nat) 6 (bt 13 687) (fun s => [(14, pv s.1.1 s.1.2.1 s.1.2.2.1 s.1.2.2.2 x1), (6, .pointer (some ⟨s.2.2.2.1, 0, none⟩)), (8, .pointer (some ⟨s.2.2.2.2.2, 0, none⟩))]) (fun s w' => CrI w n s0 s1 t0 t1 x1 x2 x3 (some s.1) none none (some s.2.2.2.1) none (some s.2.2.2.2.2) w') ?_ ?_
    · rintro ⟨⟨E1, F1, G1, I1⟩, ⟨E2, F2, G2, I2⟩, ⟨E3, F3, G3, I3⟩, g1, g2, g3⟩ wj hF
      try dsimp only at hF ⊢
      refine na ?_
      refine o2 4 16 8 7 (bt 13 703) (bt 13 943) ?_ ?_
      · intro K hK
        refine goes_ Tryz.func40 (by kernel_rfl) rfl #[.agg #[.int .u64 s0.1, .int .u64 s0.2, .int .u64 s1.1, .int .u64 s1.2]] (by rfl) rfl rfl (by first | rfl | (simp [Act.eval]; done) | (simp [Act.eval, pv, pt, st]; done) | (go_simp; rfl)) ?_
        with_reducible refine (HW.out _).mono ?_
        rintro e w' ⟨E2, F2, G2, I2, rfl, hf, hb⟩
        refine ⟨_, rfl, ?_⟩
        have hN := hF.call2 (E2, F2, G2, I2) hf hb
        refine hK.out _ _ (by exact hN.h) (fun hHeld => ?_)
        exact nj (J9 ((E1, F1, G1, I1), (E2, F2, G2, I2), (E3, F3, G3, I3), g1, g2, g3) _ hN)
      · intro K hK
        refine al_ (.cells #[.bool false, .slice none 0 0, .slice none 0 0, .bool false, .slice none 0 0, .slice none 0 0] 89) ?_
        have hN := hF.box2
        refine hK.out _ _ (by exact hN.h) (fun hHeld => ?_)
        exact nj (J11 ((E1, F1, G1, I1), (E2, F2, G2, I2), (E3, F3, G3, I3), g1, wj.heap.size, g3) _ hN)
    intro J17
    refine join_ (σ := V4 × V4 × V4 × Nat × Nat × Nat) 6 (bt 13 815) (fun s => [(14, pv s.1.1 s.1.2.1 s.1.2.2.1 s.1.2.2.2 x1), (7, .pointer (some ⟨s.2.2.2.2.1, 0, none⟩)), (8, .pointer (some ⟨s.2.2.2.2.2, 0, none⟩))]) (fun s w' => CrI w n s0 s1 t0 t1 x1 x2 x3 (some s.1) none none none (some s.2.2.2.2.1) (some s.2.2.2.2.2) w') ?_ ?_
    · rintro ⟨⟨E1, F1, G1, I1⟩, ⟨E2, F2, G2, I2⟩, ⟨E3, F3, G3, I3⟩, g1, g2, g3⟩ wj hF
      try dsimp only at hF ⊢
      refine na ?_
      refine o2 4 16 7 6 (bt 13 831) (bt 13 943) ?_ ?_
      · intro K hK
        refine goes_ Tryz.func40 (by kernel_rfl) rfl #[.agg #[.int .u64 s0.1, .int .u64 s0.2, .int .u64 s1.1, .int .u64 s1.2]] (by rfl) rfl rfl (by first | rfl | (simp [Act.eval]; done) | (simp [Act.eval, pv, pt, st]; done) | (go_simp; rfl)) ?_
        with_reducible refine (HW.out _).mono ?_
        rintro e w' ⟨E2, F2, G2, I2, rfl, hf, hb⟩
        refine ⟨_, rfl, ?_⟩
        have hN := hF.call2 (E2, F2, G2, I2) hf hb
        refine hK.out _ _ (by exact hN.h) (fun hHeld => ?_)
        exact nj (J10 ((E1, F1, G1, I1), (E2, F2, G2, I2), (E3, F3, G3, I3), g1, g2, g3) _ hN)
      · intro K hK
        refine al_ (.cells #[.bool false, .slice none 0 0, .slice none 0 0, .bool false, .slice none 0 0, .slice none 0 0] 89) ?_
        have hN := hF.box1
        refine hK.out _ _ (by exact hN.h) (fun hHeld => ?_)
        exact nj (J11 ((E1, F1, G1, I1), (E2, F2, G2, I2), (E3, F3, G3, I3), wj.heap.size, g2, g3) _ hN)
    intro J18
    refine join_ (σ := V4 × V4 × V4 × Nat × Nat × Nat) 6 (bt 13 939) (fun s => [(6, .pointer (some ⟨s.2.2.2.1, 0, none⟩)), (7, .pointer (some ⟨s.2.2.2.2.1, 0, none⟩)), (8, .pointer (some ⟨s.2.2.2.2.2, 0, none⟩))]) (fun s w' => CrI w n s0 s1 t0 t1 x1 x2 x3 none none none (some s.2.2.2.1) (some s.2.2.2.2.1) (some s.2.2.2.2.2) w') ?_ ?_
    · rintro ⟨⟨E1, F1, G1, I1⟩, ⟨E2, F2, G2, I2⟩, ⟨E3, F3, G3, I3⟩, g1, g2, g3⟩ wj hF
      try dsimp only at hF ⊢
      refine na ?_
      refine o1 2 14 (bt 13 943) ?_
      · intro K hK
        refine goes_ Tryz.func61 (by kernel_rfl) rfl #[.agg #[.int .u64 s0.1, .int .u64 s0.2]] (by rfl) rfl rfl (by first | rfl | (simp [Act.eval]; done) | (simp [Act.eval, pv, pt, st]; done) | (go_simp; rfl)) ?_
        with_reducible refine (HV.out _).mono ?_
        rintro e w' ⟨E1, F1, G1, I1, rfl, hf, hb⟩
        refine ⟨_, rfl, ?_⟩
        have hN := hF.call1 (E1, F1, G1, I1) hf hb
        refine hK.out _ _ (by exact hN.h) (fun hHeld => ?_)
        exact nj (J11 ((E1, F1, G1, I1), (E2, F2, G2, I2), (E3, F3, G3, I3), g1, g2, g3) _ hN)
    intro J19
    refine join_ (σ := V4 × V4 × V4 × Nat × Nat × Nat) 7 (bt 13 63) (fun s => [(14, pv s.1.1 s.1.2.1 s.1.2.2.1 s.1.2.2.2 x1), (16, pv s.2.1.1 s.2.1.2.1 s.2.1.2.2.1 s.2.1.2.2.2 x2)]) (fun s w' => CrI w n s0 s1 t0 t1 x1 x2 x3 (some s.1) (some s.2.1) none none none none w') ?_ ?_
    · rintro ⟨⟨E1, F1, G1, I1⟩, ⟨E2, F2, G2, I2⟩, ⟨E3, F3, G3, I3⟩, g1, g2, g3⟩ wj hF
      try dsimp only at hF ⊢
      refine na ?_
      refine four_ (i := 6) (j := 7) (k := 8) (m := 9) (Ni := some 18) (Nj := some 6) (Nk := some 7) (Nm := some 8) (bt 13 127) (bt 13 191) (bt 13 319) (bt 13 575) rfl rfl rfl rfl rfl rfl rfl rfl (by kernel_rfl) (by decide) (by decide) (by decide) (by decide) ?_ ?_ ?_ ?_
      · intro K hK
        refine goes_ Tryz.func40 (by kernel_rfl) rfl #[.agg #[.int .u64 t0.1, .int .u64 t0.2, .int .u64 t1.1, .int .u64 t1.2]] (by rfl) rfl rfl (by first | rfl | (simp [Act.eval]; done) | (simp [Act.eval, pv, pt, st]; done) | (go_simp; rfl)) ?_
        with_reducible refine (HO.out _).mono ?_
        rintro e w' ⟨E3, F3, G3, I3, rfl, hf, hb⟩
        refine ⟨_, rfl, ?_⟩
        have hN := hF.call3 (E3, F3, G3, I3) hf hb
        refine hK.out _ _ (by exact hN.h) (fun hHeld => ?_)
        exact nj (J12 ((E1, F1, G1, I1), (E2, F2, G2, I2), (E3, F3, G3, I3), g1, g2, g3) _ hN)
      · intro K hK
        refine al_ (.cells #[.bool false, .slice none 0 0, .slice none 0 0, .bool false, .slice none 0 0, .slice none 0 0] 89) ?_
        have hN := hF.box1
        refine hK.out _ _ (by exact hN.h) (fun hHeld => ?_)
        exact nj (J13 ((E1, F1, G1, I1), (E2, F2, G2, I2), (E3, F3, G3, I3), wj.heap.size, g2, g3) _ hN)
      · intro K hK
        refine al_ (.cells #[.bool false, .slice none 0 0, .slice none 0 0, .bool false, .slice none 0 0, .slice none 0 0] 89) ?_
        have hN := hF.box2
        refine hK.out _ _ (by exact hN.h) (fun hHeld => ?_)
        exact nj (J14 ((E1, F1, G1, I1), (E2, F2, G2, I2), (E3, F3, G3, I3), g1, wj.heap.size, g3) _ hN)
      · intro K hK
        refine al_ (.cells #[.bool false, .slice none 0 0, .slice none 0 0, .bool false, .slice none 0 0, .slice none 0 0] 89) ?_
        have hN := hF.box3
        refine hK.out _ _ (by exact hN.h) (fun hHeld => ?_)
        exact nj (J15 ((E1, F1, G1, I1), (E2, F2, G2, I2), (E3, F3, G3, I3), g1, g2, wj.heap.size) _ hN)
    intro J20
    refine join_ (σ := V4 × V4 × V4 × Nat × Nat × Nat) 7 (bt 13 175) (fun s => [(14, pv s.1.1 s.1.2.1 s.1.2.2.1 s.1.2.2.2 x1), (6, .pointer (some ⟨s.2.2.2.1, 0, none⟩))]) (fun s w' => CrI w n s0 s1 t0 t1 x1 x2 x3 (some s.1) none none (some s.2.2.2.1) none none w') ?_ ?_
    · rintro ⟨⟨E1, F1, G1, I1⟩, ⟨E2, F2, G2, I2⟩, ⟨E3, F3, G3, I3⟩, g1, g2, g3⟩ wj hF
      try dsimp only at hF ⊢
      refine na ?_
      refine o3 4 16 8 7 9 8 (bt 13 191) (bt 13 431) (bt 13 687) ?_ ?_ ?_
      · intro K hK
        refine goes_ Tryz.func40 (by kernel_rfl) rfl #[.agg #[.int .u64 s0.1, .int .u64 s0.2, .int .u64 s1.1, .int .u64 s1.2]] (by rfl) rfl rfl (by first | rfl | (simp [Act.eval]; done) | (simp [Act.eval, pv, pt, st]; done) | (go_simp; rfl)) ?_
        with_reducible refine (HW.out _).mono ?_
        rintro e w' ⟨E2, F2, G2, I2, rfl, hf, hb⟩
        refine ⟨_, rfl, ?_⟩
        have hN := hF.call2 (E2, F2, G2, I2) hf hb
        refine hK.out _ _ (by exact hN.h) (fun hHeld => ?_)
        exact nj (J13 ((E1, F1, G1, I1), (E2, F2, G2, I2), (E3, F3, G3, I3), g1, g2, g3) _ hN)
      · intro K hK
        refine al_ (.cells #[.bool false, .slice none 0 0, .slice none 0 0, .bool false, .slice none 0 0, .slice none 0 0] 89) ?_
        have hN := hF.box2
        refine hK.out _ _ (by exact hN.h) (fun hHeld => ?_)
        exact nj (J16 ((E1, F1, G1, I1), (E2, F2, G2, I2), (E3, F3, G3, I3), g1, wj.heap.size, g3) _ hN)
      · intro K hK
        refine al_ (.cells #[.bool false, .slice none 0 0, .slice none 0 0, .bool false, .slice none 0 0, .slice none 0 0] 89) ?_
        have hN := hF.box3
        refine hK.out _ _ (by exact hN.h) (fun hHeld => ?_)
        exact nj (J17 ((E1, F1, G1, I1), (E2, F2, G2, I2), (E3, F3, G3, I3), g1, g2, wj.heap.size) _ hN)
    intro J21
    refine join_ (σ := V4 × V4 × V4 × Nat × Nat × Nat) 7 (bt 13 303) (fun s => [(14, pv s.1.1 s.1.2.1 s.1.2.2.1 s.1.2.2.2 x1), (7, .pointer (some ⟨s.2.2.2.2.1, 0, none⟩))]) (fun s w' => CrI w n s0 s1 t0 t1 x1 x2 x3 (some s.1) none none none (some s.2.2.2.2.1) none w') ?_ ?_
    · rintro ⟨⟨E1, F1, G1, I1⟩, ⟨E2, F2, G2, I2⟩, ⟨E3, F3, G3, I3⟩, g1, g2, g3⟩ wj hF
      try dsimp only at hF ⊢
      refine na ?_
      refine o3 4 16 7 6 9 8 (bt 13 319) (bt 13 431) (bt 13 815) ?_ ?_ ?_
      · intro K hK
        refine goes_ Tryz.func40 (by kernel_rfl) rfl #[.agg #[.int .u64 s0.1, .int .u64 s0.2, .int .u64 s1.1, .int .u64 s1.2]] (by rfl) rfl rfl (by first | rfl | (simp [Act.eval]; done) | (simp [Act.eval, pv, pt, st]; done) | (go_simp; rfl)) ?_
        with_reducible refine (HW.out _).mono ?_
        rintro e w' ⟨E2, F2, G2, I2, rfl, hf, hb⟩
        refine ⟨_, rfl, ?_⟩
        have hN := hF.call2 (E2, F2, G2, I2) hf hb
        refine hK.out _ _ (by exact hN.h) (fun hHeld => ?_)
        exact nj (J14 ((E1, F1, G1, I1), (E2, F2, G2, I2), (E3, F3, G3, I3), g1, g2, g3) _ hN)
      · intro K hK
        refine al_ (.cells #[.bool false, .slice none 0 0, .slice none 0 0, .bool false, .slice none 0 0, .slice none 0 0] 89) ?_
        have hN := hF.box1
        refine hK.out _ _ (by exact hN.h) (fun hHeld => ?_)
        exact nj (J16 ((E1, F1, G1, I1), (E2, F2, G2, I2), (E3, F3, G3, I3), wj.heap.size, g2, g3) _ hN)
      · intro K hK
        refine al_ (.cells #[.bool false, .slice none 0 0, .slice none 0 0, .bool false, .slice none 0 0, .slice none 0 0] 89) ?_
        have hN := hF.box3
        refine hK.out _ _ (by exact hN.h) (fun hHeld => ?_)
        exact nj (J18 ((E1, F1, G1, I1), (E2, F2, G2, I2), (E3, F3, G3, I3), g1, g2, wj.heap.size) _ hN)
    intro J22
    refine join_ (σ := V4 × V4 × V4 × Nat × Nat × Nat) 7 (bt 13 559) (fun s => [(14, pv s.1.1 s.1.2.1 s.1.2.2.1 s.1.2.2.2 x1), (8, .pointer (some ⟨s.2.2.2.2.2, 0, none⟩))]) (fun s w' => CrI w n s0 s1 t0 t1 x1 x2 x3 (some s.1) none none none none (some s.2.2.2.2.2) w') ?_ ?_
    · rintro ⟨⟨E1, F1, G1, I1⟩, ⟨E2, F2, G2, I2⟩, ⟨E3, F3, G3, I3⟩, g1, g2, g3⟩ wj hF
      try dsimp only at hF ⊢
      refine na ?_
      refine o3 4 16 7 6 8 7 (bt 13 575) (bt 13 687) (bt 13 815) ?_ ?_ ?_
      · intro K hK
        refine goes_ Tryz.func40 (by kernel_rfl) rfl #[.agg #[.int .u64 s0.1, .int .u64 s0.2, .int .u64 s1.1, .int .u64 s1.2]] (by rfl) rfl rfl (by first | rfl | (simp [Act.eval]; done) | (simp [Act.eval, pv, pt, st]; done) | (go_simp; rfl)) ?_
        with_reducible refine (HW.out _).mono ?_
        rintro e w' ⟨E2, F2, G2, I2, rfl, hf, hb⟩
        refine ⟨_, rfl, ?_⟩
        have hN := hF.call2 (E2, F2, G2, I2) hf hb
        refine hK.out _ _ (by exact hN.h) (fun hHeld => ?_)
        exact nj (J15 ((E1, F1, G1, I1), (E2, F2, G2, I2), (E3, F3, G3, I3), g1, g2, g3) _ hN)
      · intro K hK
        refine al_ (.cells #[.bool false, .slice none 0 0, .slice none 0 0, .bool false, .slice none 0 0, .slice none 0 0] 89) ?_
        have hN := hF.box1
        refine hK.out _ _ (by exact hN.h) (fun hHeld => ?_)
        exact nj (J17 ((E1, F1, G1, I1), (E2, F2, G2, I2), (E3, F3, G3, I3), wj.heap.size, g2, g3) _ hN)
      · intro K hK
        refine al_ (.cells #[.bool false, .slice none 0 0, .slice none 0 0, .bool false, .slice none 0 0, .slice none 0 0] 89) ?_
        have hN := hF.box2
        refine hK.out _ _ (by exact hN.h) (fun hHeld => ?_)
        exact nj (J18 ((E1, F1, G1, I1), (E2, F2, G2, I2), (E3, F3, G3, I3), g1, wj.heap.size, g3) _ hN)
    intro J23
    refine join_ (σ := V4 × V4 × V4 × Nat × Nat × Nat) 7 (bt 13 427) (fun s => [(6, .pointer (some ⟨s.2.2.2.1, 0, none⟩)), (7, .pointer (some ⟨s.2.2.2.2.1, 0, none⟩))]) (fun s w' => CrI w n s0 s1 t0 t1 x1 x2 x3 none none none (some s.2.2.2.1) (some s.2.2.2.2.1) none w') ?_ ?_
    · rintro ⟨⟨E1, F1, G1, I1⟩, ⟨E2, F2, G2, I2⟩, ⟨E3, F3, G3, I3⟩, g1, g2, g3⟩ wj hF
      try dsimp only at hF ⊢
      refine na ?_
      refine o2 2 14 9 8 (bt 13 431) (bt 13 939) ?_ ?_
      · intro K hK
        refine goes_ Tryz.func61 (by kernel_rfl) rfl #[.agg #[.int .u64 s0.1, .int .u64 s0.2]] (by rfl) rfl rfl (by first | rfl | (simp [Act.eval]; done) | (simp [Act.eval, pv, pt, st]; done) | (go_simp; rfl)) ?_
        with_reducible refine (HV.out _).mono ?_
        rintro e w' ⟨E1, F1, G1, I1, rfl, hf, hb⟩
        refine ⟨_, rfl, ?_⟩
        have hN := hF.call1 (E1, F1, G1, I1) hf hb
        refine hK.out _ _ (by exact hN.h) (fun hHeld => ?_)
        exact nj (J16 ((E1, F1, G1, I1), (E2, F2, G2, I2), (E3, F3, G3, I3), g1, g2, g3) _ hN)
      · intro K hK
        refine al_ (.cells #[.bool false, .slice none 0 0, .slice none 0 0, .bool false, .slice none 0 0, .slice none 0 0] 89) ?_
        have hN := hF.box3
        refine hK.out _ _ (by exact hN.h) (fun hHeld => ?_)
        exact nj (J19 ((E1, F1, G1, I1), (E2, F2, G2, I2), (E3, F3, G3, I3), g1, g2, wj.heap.size) _ hN)
    intro J24
    refine join_ (σ := V4 × V4 × V4 × Nat × Nat × Nat) 7 (bt 13 683) (fun s => [(6, .pointer (some ⟨s.2.2.2.1, 0, none⟩)), (8, .pointer (some ⟨s.2.2.2.2.2, 0, none⟩))]) (fun s w' => CrI w n s0 s1 t0 t1 x1 x2 x3 none none none (some s.2.2.2.1) none (some s.2.2.2.2.2) w') ?_ ?_
    · rintro ⟨⟨E1, F1, G1, I1⟩, ⟨E2, F2, G2, I2⟩, ⟨E3, F3, G3, I3⟩, g1, g2, g3⟩ wj hF
      try dsimp only at hF ⊢
      refine na ?_
      refine o2 2 14 8 7 (bt 13 687) (bt 13 939) ?_ ?_
      · intro K hK
        refine goes_ Tryz.func61 (by kernel_rfl) rfl #[.agg #[.int .u64 s0.1, .int .u64 s0.2]] (by rfl) rfl rfl (by first | rfl | (simp [Act.eval]; done) | (simp [Act.eval, pv, pt, st]; done) | (go_simp; rfl)) ?_
        with_reducible refine (HV.out _).mono ?_
        rintro e w' ⟨E1, F1, G1, I1, rfl, hf, hb⟩
        refine ⟨_, rfl, ?_⟩
        have hN := hF.call1 (E1, F1, G1, I1) hf hb
        refine hK.out _ _ (by exact hN.h) (fun hHeld => ?_)
        exact nj (J17 ((E1, F1, G1, I1), (E2, F2, G2, I2), (E3, F3, G3, I3), g1, g2, g3) _ hN)
      · intro K hK
        refine al_ (.cells #[.bool false, .slice none 0 0, .slice none 0 0, .bool false, .slice none 0 0, .slice none 0 0] 89) ?_
        have hN := hF.box2
        refine hK.out _ _ (by exact hN.h) (fun hHeld => ?_)
        exact nj (J19 ((E1, F1, G1, I1), (E2, F2, G2, I2), (E3, F3, G3, I3), g1, wj.heap.size, g3) _ hN)
    intro J25
    refine join_ (σ := V4 × V4 × V4 × Nat × Nat × Nat) 7 (bt 13 811) (fun s => [(7, .pointer (some ⟨s.2.2.2.2.1, 0, none⟩)), (8, .pointer (some ⟨s.2.2.2.2.2, 0, none⟩))]) (fun s w' => CrI w n s0 s1 t0 t1 x1 x2 x3 none none none none (some s.2.2.2.2.1) (some s.2.2.2.2.2) w') ?_ ?_
    · rintro ⟨⟨E1, F1, G1, I1⟩, ⟨E2, F2, G2, I2⟩, ⟨E3, F3, G3, I3⟩, g1, g2, g3⟩ wj hF
      try dsimp only at hF ⊢
      refine na ?_
      refine o2 2 14 7 6 (bt 13 815) (bt 13 939) ?_ ?_
      · intro K hK
        refine goes_ Tryz.func61 (by kernel_rfl) rfl #[.agg #[.int .u64 s0.1, .int .u64 s0.2]] (by rfl) rfl rfl (by first | rfl | (simp [Act.eval]; done) | (simp [Act.eval, pv, pt, st]; done) | (go_simp; rfl)) ?_
        with_reducible refine (HV.out _).mono ?_
        rintro e w' ⟨E1, F1, G1, I1, rfl, hf, hb⟩
        refine ⟨_, rfl, ?_⟩
        have hN := hF.call1 (E1, F1, G1, I1) hf hb
        refine hK.out _ _ (by exact hN.h) (fun hHeld => ?_)
        exact nj (J18 ((E1, F1, G1, I1), (E2, F2, G2, I2), (E3, F3, G3, I3), g1, g2, g3) _ hN)
      · intro K hK
        refine al_ (.cells #[.bool false, .slice none 0 0, .slice none 0 0, .bool false, .slice none 0 0, .slice none 0 0] 89) ?_
        have hN := hF.box1
        refine hK.out _ _ (by exact hN.h) (fun hHeld => ?_)
        exact nj (J19 ((E1, F1, G1, I1), (E2, F2, G2, I2), (E3, F3, G3, I3), wj.heap.size, g2, g3) _ hN)
    intro J26
    refine join_ (σ := V4 × V4 × V4 × Nat × Nat × Nat) 8 (bt 13 47) (fun s => [(14, pv s.1.1 s.1.2.1 s.1.2.2.1 s.1.2.2.2 x1)]) (fun s w' => CrI w n s0 s1 t0 t1 x1 x2 x3 (some s.1) none none none none none w') ?_ ?_
    · rintro ⟨⟨E1, F1, G1, I1⟩, ⟨E2, F2, G2, I2⟩, ⟨E3, F3, G3, I3⟩, g1, g2, g3⟩ wj hF
      try dsimp only at hF ⊢
      refine na ?_
      refine four_ (i := 4) (j := 7) (k := 8) (m := 9) (Ni := some 16) (Nj := some 6) (Nk := some 7) (Nm := some 8) (bt 13 63) (bt 13 175) (bt 13 303) (bt 13 559) rfl rfl rfl rfl rfl rfl rfl rfl (by kernel_rfl) (by decide) (by decide) (by decide) (by decide) ?_ ?_ ?_ ?_
      · intro K hK
        refine goes_ Tryz.func40 (by kernel_rfl) rfl #[.agg #[.int .u64 s0.1, .int .u64 s0.2, .int .u64 s1.1, .int .u64 s1.2]] (by rfl) rfl rfl (by first | rfl | (simp [Act.eval]; done) | (simp [Act.eval, pv, pt, st]; done) | (go_simp; rfl)) ?_
        with_reducible refine (HW.out _).mono ?_
        rintro e w' ⟨E2, F2, G2, I2, rfl, hf, hb⟩
        refine ⟨_, rfl, ?_⟩
        have hN := hF.call2 (E2, F2, G2, I2) hf hb
        refine hK.out _ _ (by exact hN.h) (fun hHeld => ?_)
        exact nj (J20 ((E1, F1, G1, I1), (E2, F2, G2, I2), (E3, F3, G3, I3), g1, g2, g3) _ hN)
      · intro K hK
        refine al_ (.cells #[.bool false, .slice none 0 0, .slice none 0 0, .bool false, .slice none 0 0, .slice none 0 0] 89) ?_
        have hN := hF.box1
        refine hK.out _ _ (by exact hN.h) (fun hHeld => ?_)
        exact nj (J21 ((E1, F1, G1, I1), (E2, F2, G2, I2), (E3, F3, G3, I3), wj.heap.size, g2, g3) _ hN)
      · intro K hK
        refine al_ (.cells #[.bool false, .slice none 0 0, .slice none 0 0, .bool false, .slice none 0 0, .slice none 0 0] 89) ?_
        have hN := hF.box2
        refine hK.out _ _ (by exact hN.h) (fun hHeld => ?_)
        exact nj (J22 ((E1, F1, G1, I1), (E2, F2, G2, I2), (E3, F3, G3, I3), g1, wj.heap.size, g3) _ hN)
      · intro K hK
        refine al_ (.cells #[.bool false, .slice none 0 0, .slice none 0 0, .bool false, .slice none 0 0, .slice none 0 0] 89) ?_
        have hN := hF.box3
        refine hK.out _ _ (by exact hN.h) (fun hHeld => ?_)
        exact nj (J23 ((E1, F1, G1, I1), (E2, F2, G2, I2), (E3, F3, G3, I3), g1, g2, wj.heap.size) _ hN)
    intro J27
    refine join_ (σ := V4 × V4 × V4 × Nat × Nat × Nat) 8 (bt 13 171) (fun s => [(6, .pointer (some ⟨s.2.2.2.1, 0, none⟩))]) (fun s w' => CrI w n s0 s1 t0 t1 x1 x2 x3 none none none (some s.2.2.2.1) none none w') ?_ ?_
    · rintro ⟨⟨E1, F1, G1, I1⟩, ⟨E2, F2, G2, I2⟩, ⟨E3, F3, G3, I3⟩, g1, g2, g3⟩ wj hF
      try dsimp only at hF ⊢
      refine na ?_
      refine o3 2 14 8 7 9 8 (bt 13 175) (bt 13 427) (bt 13 683) ?_ ?_ ?_
      · intro K hK
        refine goes_ Tryz.func61 (by kernel_rfl) rfl #[.agg #[.int .u64 s0.1, .int .u64 s0.2]] (by rfl) rfl rfl (by first | rfl | (simp [Act.eval]; done) | (simp [Act.eval, pv, pt, st]; done) | (go_simp; rfl)) ?_
        with_reducible refine (HV.out _).mono ?_
        rintro e w' ⟨E1, F1, G1, I1, rfl, hf, hb⟩
        refine ⟨_, rfl, ?_⟩
        have hN := hF.call1 (E1, F1, G1, I1) hf hb
        refine hK.out _ _ (by exact hN.h) (fun hHeld => ?_)
        exact nj (J21 ((E1, F1, G1, I1), (E2, F2, G2, I2), (E3, F3, G3, I3), g1, g2, g3) _ hN)
      · intro K hK
        refine al_ (.cells #[.bool false, .slice none 0 0, .slice none 0 0, .bool false, .slice none 0 0, .slice none 0 0] 89) ?_
        have hN := hF.box2
        refine hK.out _ _ (by exact hN.h) (fun hHeld => ?_)
        exact nj (J24 ((E1, F1, G1, I1), (E2, F2, G2, I2), (E3, F3, G3, I3), g1, wj.heap.size, g3) _ hN)
      · intro K hK
        refine al_ (.cells #[.bool false, .slice none 0 0, .slice none 0 0, .bool false, .slice none 0 0, .slice none 0 0] 89) ?_
        have hN := hF.box3
        refine hK.out _ _ (by exact hN.h) (fun hHeld => ?_)
        exact nj (J25 ((E1, F1, G1, I1), (E2, F2, G2, I2), (E3, F3, G3, I3), g1, g2, wj.heap.size) _ hN)
    intro J28
    refine join_ (σ := V4 × V4 × V4 × Nat × Nat × Nat) 8 (bt 13 299) (fun s => [(7, .pointer (some ⟨s.2.2.2.2.1, 0, none⟩))]) (fun s w' => CrI w n s0 s1 t0 t1 x1 x2 x3 none none none none (some s.2.2.2.2.1) none w') ?_ ?_
    · rintro ⟨⟨E1, F1, G1, I1⟩, ⟨E2, F2, G2, I2⟩, ⟨E3, F3, G3, I3⟩, g1, g2, g3⟩ wj hF
      try dsimp only at hF ⊢
      refine na ?_
      refine o3 2 14 7 6 9 8 (bt 13 303) (bt 13 427) (bt 13 811) ?_ ?_ ?_
      · intro K hK
        refine goes_ Tryz.func61 (by kernel_rfl) rfl #[.agg #[.int .u64 s0.1, .int .u64 s0.2]] (by rfl) rfl rfl (by first | rfl | (simp [Act.eval]; done) | (simp [Act.eval, pv, pt, st]; done) | (go_simp; rfl)) ?_
        with_reducible refine (HV.out _).mono ?_
        rintro e w' ⟨E1, F1, G1, I1, rfl, hf, hb⟩
        refine ⟨_, rfl, ?_⟩
        have hN := hF.call1 (E1, F1, G1, I1) hf hb
        refine hK.out _ _ (by exact hN.h) (fun hHeld => ?_)
        exact nj (J22 ((E1, F1, G1, I1), (E2, F2, G2, I2), (E3, F3, G3, I3), g1, g2, g3) _ hN)
      · intro K hK
        refine al_ (.cells #[.bool false, .slice none 0 0, .slice none 0 0, .bool false, .slice none 0 0, .slice none 0 0] 89) ?_
        have hN := hF.box1
        refine hK.out _ _ (by exact hN.h) (fun hHeld => ?_)
        exact nj (J24 ((E1, F1, G1, I1), (E2, F2, G2, I2), (E3, F3, G3, I3), wj.heap.size, g2, g3) _ hN)
      · intro K hK
        refine al_ (.cells #[.bool false, .slice none 0 0, .slice none 0 0, .bool false, .slice none 0 0, .slice none 0 0] 89) ?_
        have hN := hF.box3
        refine hK.out _ _ (by exact hN.h) (fun hHeld => ?_)
        exact nj (J26 ((E1, F1, G1, I1), (E2, F2, G2, I2), (E3, F3, G3, I3), g1, g2, wj.heap.size) _ hN)
    intro J29
    refine join_ (σ := V4 × V4 × V4 × Nat × Nat × Nat) 8 (bt 13 555) (fun s => [(8, .pointer (some ⟨s.2.2.2.2.2, 0, none⟩))]) (fun s w' => CrI w n s0 s1 t0 t1 x1 x2 x3 none none none none none (some s.2.2.2.2.2) w') ?_ ?_
    · rintro ⟨⟨E1, F1, G1, I1⟩, ⟨E2, F2, G2, I2⟩, ⟨E3, F3, G3, I3⟩, g1, g2, g3⟩ wj hF
      try dsimp only at hF ⊢
      refine na ?_
      refine o3 2 14 7 6 8 7 (bt 13 559) (bt 13 683) (bt 13 811) ?_ ?_ ?_
      · intro K hK
        refine goes_ Tryz.func61 (by kernel_rfl) rfl #[.agg #[.int .u64 s0.1, .int .u64 s0.2]] (by rfl) rfl rfl (by first | rfl | (simp [Act.eval]; done) | (simp [Act.eval, pv, pt, st]; done) | (go_simp; rfl)) ?_
        with_reducible refine (HV.out _).mono ?_
        rintro e w' ⟨E1, F1, G1, I1, rfl, hf, hb⟩
        refine ⟨_, rfl, ?_⟩
        have hN := hF.call1 (E1, F1, G1, I1) hf hb
        refine hK.out _ _ (by exact hN.h) (fun hHeld => ?_)
        exact nj (J23 ((E1, F1, G1, I1), (E2, F2, G2, I2), (E3, F3, G3, I3), g1, g2, g3) _ hN)
      · intro K hK
        refine al_ (.cells #[.bool false, .slice none 0 0, .slice none 0 0, .bool false, .slice none 0 0, .slice none 0 0] 89) ?_
        have hN := hF.box1
        refine hK.out _ _ (by exact hN.h) (fun hHeld => ?_)
        exact nj (J25 ((E1, F1, G1, I1), (E2, F2, G2, I2), (E3, F3, G3, I3), wj.heap.size, g2, g3) _ hN)
      · intro K hK
        refine al_ (.cells #[.bool false, .slice none 0 0, .slice none 0 0, .bool false, .slice none 0 0, .slice none 0 0] 89) ?_
        have hN := hF.box2
        refine hK.out _ _ (by exact hN.h) (fun hHeld => ?_)
        exact nj (J26 ((E1, F1, G1, I1), (E2, F2, G2, I2), (E3, F3, G3, I3), g1, wj.heap.size, g3) _ hN)
    intro J30
    refine join_ (σ := V4 × V4 × V4 × Nat × Nat × Nat) 9 (bt 13 43) (fun s => []) (fun s w' => CrI w n s0 s1 t0 t1 x1 x2 x3 none none none none none none w') ?_ ?_
    · rintro ⟨⟨E1, F1, G1, I1⟩, ⟨E2, F2, G2, I2⟩, ⟨E3, F3, G3, I3⟩, g1, g2, g3⟩ wj hF
      try dsimp only at hF ⊢
      refine na ?_
      refine four_ (i := 2) (j := 7) (k := 8) (m := 9) (Ni := some 14) (Nj := some 6) (Nk := some 7) (Nm := some 8) (bt 13 47) (bt 13 171) (bt 13 299) (bt 13 555) rfl rfl rfl rfl rfl rfl rfl rfl (by kernel_rfl) (by decide) (by decide) (by decide) (by decide) ?_ ?_ ?_ ?_
      · intro K hK
        refine goes_ Tryz.func61 (by kernel_rfl) rfl #[.agg #[.int .u64 s0.1, .int .u64 s0.2]] (by rfl) rfl rfl (by first | rfl | (simp [Act.eval]; done) | (simp [Act.eval, pv, pt, st]; done) | (go_simp; rfl)) ?_
        with_reducible refine (HV.out _).mono ?_
        rintro e w' ⟨E1, F1, G1, I1, rfl, hf, hb⟩
        refine ⟨_, rfl, ?_⟩
        have hN := hF.call1 (E1, F1, G1, I1) hf hb
        refine hK.out _ _ (by exact hN.h) (fun hHeld => ?_)
        exact nj (J27 ((E1, F1, G1, I1), (E2, F2, G2, I2), (E3, F3, G3, I3), g1, g2, g3) _ hN)
      · intro K hK
        refine al_ (.cells #[.bool false, .slice none 0 0, .slice none 0 0, .bool false, .slice none 0 0, .slice none 0 0] 89) ?_
        have hN := hF.box1
        refine hK.out _ _ (by exact hN.h) (fun hHeld => ?_)
        exact nj (J28 ((E1, F1, G1, I1), (E2, F2, G2, I2), (E3, F3, G3, I3), wj.heap.size, g2, g3) _ hN)
      · intro K hK
        refine al_ (.cells #[.bool false, .slice none 0 0, .slice none 0 0, .bool false, .slice none 0 0, .slice none 0 0] 89) ?_
        have hN := hF.box2
        refine hK.out _ _ (by exact hN.h) (fun hHeld => ?_)
        exact nj (J29 ((E1, F1, G1, I1), (E2, F2, G2, I2), (E3, F3, G3, I3), g1, wj.heap.size, g3) _ hN)
      · intro K hK
        refine al_ (.cells #[.bool false, .slice none 0 0, .slice none 0 0, .bool false, .slice none 0 0, .slice none 0 0] 89) ?_
        have hN := hF.box3
        refine hK.out _ _ (by exact hN.h) (fun hHeld => ?_)
        exact nj (J30 ((E1, F1, G1, I1), (E2, F2, G2, I2), (E3, F3, G3, I3), g1, g2, wj.heap.size) _ hN)
    intro J31
    exact nj (J31 (default, default, default, 0, 0, 0) _ ⟨hHeld, nofun, nofun, nofun, nofun, nofun, nofun, nofun, nofun, nofun⟩)
  rintro ⟨⟨E1, F1, G1, I1⟩, ⟨E2, F2, G2, I2⟩, ⟨E3, F3, G3, I3⟩, g1, g2, g3⟩ wj hF
  replace hF := hF.all
  dsimp only at hF ⊢
  clear hS hHeld
  refine na ?_
  refine last_ (i := 10) (N := none) (bt 13 2047) rfl rfl (by kernel_rfl) (by decide) (fun K hK => ?_)
  obtain ⟨y0, y1, y2, y3, y4, y5, z0, z1, z2, z3, z4, z5⟩ := row6 hF.r1
  unfold pv
  refine skip_ (w1 := sixSet g1 0 (.bool (decide (x1.1.num < 0))) (.slice E1 (qn x1.1).length (qn x1.1).length) (.slice F1 (qd x1.1).length (qd x1.1).length) (.bool (decide (x1.2.num < 0))) (.slice G1 (qn x1.2).length (qn x1.2).length) (.slice I1 (qd x1.2).length (qd x1.2).length) wj) (by rfl) rfl ?_ ?_
  · go_simp
    rfl
  refine hK.out _ _ ?_
  clear hK K
  replace hF := hF.set1 (.bool (decide (x1.1.num < 0))) (.slice E1 (qn x1.1).length (qn x1.1).length) (.slice F1 (qd x1.1).length (qd x1.1).length) (.bool (decide (x1.2.num < 0))) (.slice G1 (qn x1.2).length (qn x1.2).length) (.slice I1 (qd x1.2).length (qd x1.2).length)
  clear y0 y1 y2 y3 y4 y5 z0 z1 z2 z3 z4 z5
  generalize sixSet g1 0 _ _ _ _ _ _ wj = wk at *
  refine last_ (i := 11) (N := none) (bt 13 4095) rfl rfl (by kernel_rfl) (by decide) (fun K hK => ?_)
  obtain ⟨y0, y1, y2, y3, y4, y5, z0, z1, z2, z3, z4, z5⟩ := row6 hF.r2
  refine skip_ (w1 := sixSet g2 0 (.bool (decide (x2.1.num < 0))) (.slice E2 (qn x2.1).length (qn x2.1).length) (.slice F2 (qd x2.1).length (qd x2.1).length) (.bool (decide (x2.2.num < 0))) (.slice G2 (qn x2.2).length (qn x2.2).length) (.slice I2 (qd x2.2).length (qd x2.2).length) wk) (by rfl) rfl ?_ ?_
  · go_simp
    rfl
  refine hK.out _ _ ?_
  clear hK K
  replace hF := hF.set2 (.bool (decide (x2.1.num < 0))) (.slice E2 (qn x2.1).length (qn x2.1).length) (.slice F2 (qd x2.1).length (qd x2.1).length) (.bool (decide (x2.2.num < 0))) (.slice G2 (qn x2.2).length (qn x2.2).length) (.slice I2 (qd x2.2).length (qd x2.2).length)
  clear y0 y1 y2 y3 y4 y5 z0 z1 z2 z3 z4 z5
  generalize sixSet g2 0 _ _ _ _ _ _ wk = wl at *
  refine last_ (i := 12) (N := none) (bt 13 8191) rfl rfl (by kernel_rfl) (by decide) (fun K hK => ?_)
  obtain ⟨y0, y1, y2, y3, y4, y5, z0, z1, z2, z3, z4, z5⟩ := row6 hF.r3
  refine skip_ (w1 := sixSet g3 0 (.bool (decide (x3.1.num < 0))) (.slice E3 (qn x3.1).length (qn x3.1).length) (.slice F3 (qd x3.1).length (qd x3.1).length) (.bool (decide (x3.2.num < 0))) (.slice G3 (qn x3.2).length (qn x3.2).length) (.slice I3 (qd x3.2).length (qd x3.2).length) wl) (by rfl) rfl ?_ ?_
  · go_simp
    rfl
  refine hK.out _ _ ?_
  clear hK K
  replace hF := hF.set3 (.bool (decide (x3.1.num < 0))) (.slice E3 (qn x3.1).length (qn x3.1).length) (.slice F3 (qd x3.1).length (qd x3.1).length) (.bool (decide (x3.2.num < 0))) (.slice G3 (qn x3.2).length (qn x3.2).length) (.slice I3 (qd x3.2).length (qd x3.2).length)
  clear y0 y1 y2 y3 y4 y5 z0 z1 z2 z3 z4 z5
  generalize sixSet g3 0 _ _ _ _ _ _ wl = wm at *
  refine done_ (by kernel_rfl) ?_
  ((try dsimp only); repeat (first | go_values | go_skip | go_guarded | go_step | go_upon))
  have hS := hF.keep (Below.refl _ _).drew
  refine start_ (n := 17) (S := fun w' => CrT w n s0 s1 t0 t1 x1 x2 x3 (E1, F1, G1, I1) (E2, F2, G2, I2) (E3, F3, G3, I3) g1 g2 g3 #[.bool (decide (x1.1.num < 0)), .slice E1 (qn x1.1).length (qn x1.1).length, .slice F1 (qd x1.1).length (qd x1.1).length, .bool (decide (x1.2.num < 0)), .slice G1 (qn x1.2).length (qn x1.2).length, .slice I1 (qd x1.2).length (qd x1.2).length] #[.bool (decide (x2.1.num < 0)), .slice E2 (qn x2.1).length (qn x2.1).length, .slice F2 (qd x2.1).length (qd x2.1).length, .bool (decide (x2.2.num < 0)), .slice G2 (qn x2.2).length (qn x2.2).length, .slice I2 (qd x2.2).length (qd x2.2).length] #[.bool (decide (x3.1.num < 0)), .slice E3 (qn x3.1).length (qn x3.1).length, .slice F3 (qd x3.1).length (qd x3.1).length, .bool (decide (x3.2.num < 0)), .slice G3 (qn x3.2).length (qn x3.2).length, .slice I3 (qd x3.2).length (qd x3.2).length] w') (ds := [15]) (bt 17 0) (by kernel_rfl) rfl rfl (hS) (fun hHeld => ?_)
  refine pv_ 0 20 ?_
  refine ld_ 1 21 ?_ hHeld ?_ ?_; rotate_left
  · rintro w' hs
    obtain ⟨a0, a1, a2, a3, a4, a5, _⟩ := row6 hs.r1
    obtain ⟨b0, b1, b2, b3, b4, b5, _⟩ := row6 hs.r2
    obtain ⟨c0, c1, c2, c3, c4, c5, _⟩ := row6 hs.r3
    obtain ⟨p0, p1, p2, p3, _⟩ := row4f hs.h.t
    clear hs
    go_simp; with_reducible rfl
  refine ld_ 3 23 ?_ hHeld ?_ ?_; rotate_left
  · rintro w' hs
    obtain ⟨a0, a1, a2, a3, a4, a5, _⟩ := row6 hs.r1
    obtain ⟨b0, b1, b2, b3, b4, b5, _⟩ := row6 hs.r2
    obtain ⟨c0, c1, c2, c3, c4, c5, _⟩ := row6 hs.r3
    obtain ⟨p0, p1, p2, p3, _⟩ := row4f hs.h.t
    clear hs
    go_simp; with_reducible rfl
  refine ld_ 5 25 ?_ hHeld ?_ ?_; rotate_left
  · rintro w' hs
    obtain ⟨a0, a1, a2, a3, a4, a5, _⟩ := row6 hs.r1
    obtain ⟨b0, b1, b2, b3, b4, b5, _⟩ := row6 hs.r2
    obtain ⟨c0, c1, c2, c3, c4, c5, _⟩ := row6 hs.r3
    obtain ⟨p0, p1, p2, p3, _⟩ := row4f hs.h.t
    clear hs
    go_simp; with_reducible rfl
  refine ld_ 7 27 ?_ hHeld ?_ ?_; rotate_left
  · rintro w' hs
    obtain ⟨a0, a1, a2, a3, a4, a5, _⟩ := row6 hs.r1
    obtain ⟨b0, b1, b2, b3, b4, b5, _⟩ := row6 hs.r2
    obtain ⟨c0, c1, c2, c3, c4, c5, _⟩ := row6 hs.r3
    obtain ⟨p0, p1, p2, p3, _⟩ := row4f hs.h.t
    clear hs
    go_simp; with_reducible rfl
  refine ld_ 8 28 ?_ hHeld ?_ ?_; rotate_left
  · rintro w' hs
    obtain ⟨a0, a1, a2, a3, a4, a5, _⟩ := row6 hs.r1
    obtain ⟨b0, b1, b2, b3, b4, b5, _⟩ := row6 hs.r2
    obtain ⟨c0, c1, c2, c3, c4, c5, _⟩ := row6 hs.r3
    obtain ⟨p0, p1, p2, p3, _⟩ := row4f hs.h.t
    clear hs
    go_simp; with_reducible rfl
  refine join_ (σ := V4 × V4 × V2 × V2 × V2 × Nat) 2 (bt 17 32767) (fun s => [(22, pv s.1.1 s.1.2.1 s.1.2.2.1 s.1.2.2.2 y), (24, pv s.2.1.1 s.2.1.2.1 s.2.1.2.2.1 s.2.1.2.2.2 z), (26, qv s.2.2.1.1 s.2.2.1.2 p), (29, qv s.2.2.2.1.1 s.2.2.2.1.2 q), (30, .tuple #[qv s.2.2.2.2.1.1 s.2.2.2.2.1.2 k, .int .i64 0]), (19, .tuple #[qv s.2.2.2.2.1.1 s.2.2.2.2.1.2 k, .int .i64 0]), (31, qv s.2.2.2.2.1.1 s.2.2.2.2.1.2 k), (32, .int .i64 0), (9, .pointer (some ⟨s.2.2.2.2.2, 0, none⟩))]) (fun s w' => CrK w n s0 s1 t0 t1 x1 x2 x3 (E1, F1, G1, I1) (E2, F2, G2, I2) (E3, F3, G3, I3) g1 g2 g3 y z p q k (some s.1) (some s.2.1) (some s.2.2.1) (some s.2.2.2.1) (some s.2.2.2.2.1) (some s.2.2.2.2.2) w') ?_ ?_
  rotate_left
  · intro J0
    refine join_ (σ := V4 × V4 × V2 × V2 × V2 × Nat) 3 (bt 17 16383) (fun s => [(22, pv s.1.1 s.1.2.1 s.1.2.2.1 s.1.2.2.2 y), (24, pv s.2.1.1 s.2.1.2.1 s.2.1.2.2.1 s.2.1.2.2.2 z), (26, qv s.2.2.1.1 s.2.2.1.2 p), (29, qv s.2.2.2.1.1 s.2.2.2.1.2 q), (30, .tuple #[qv s.2.2.2.2.1.1 s.2.2.2.2.1.2 k, .int .i64 0]), (19, .tuple #[qv s.2.2.2.2.1.1 s.2.2.2.2.1.2 k, .int .i64 0]), (31, qv s.2.2.2.2.1.1 s.2.2.2.2.1.2 k), (32, .int .i64 0)]) (fun s w' => CrK w n s0 s1 t0 t1 x1 x2 x3 (E1, F1, G1, I1) (E2, F2, G2, I2) (E3, F3, G3, I3) g1 g2 g3 y z p q k (some s.1) (some s.2.1) (some s.2.2.1) (some s.2.2.2.1) (some s.2.2.2.2.1) none w') ?_ ?_
    · rintro ⟨⟨T1, T2, T3, T4⟩, ⟨U1, U2, U3, U4⟩, ⟨P1, P2⟩, ⟨Q1, Q2⟩, ⟨K1, K2⟩, g9⟩ wj hF
      try dsimp only at hF ⊢
      refine na ?_
      refine o1 14 9 (bt 17 32767) ?_
      · intro K hK
        refine al_ (.cells #[.bool false, .slice none 0 0, .slice none 0 0] 45) ?_
        have hN := hF.box
        refine hK.out _ _ (by exact hN.h) (fun hHeld => ?_)
        exact nj (J0 ((T1, T2, T3, T4), (U1, U2, U3, U4), (P1, P2), (Q1, Q2), (K1, K2), wj.heap.size) _ hN)
    intro J1
    refine join_ (σ := V4 × V4 × V2 × V2 × V2 × Nat) 3 (bt 17 24575) (fun s => [(22, pv s.1.1 s.1.2.1 s.1.2.2.1 s.1.2.2.2 y), (24, pv s.2.1.1 s.2.1.2.1 s.2.1.2.2.1 s.2.1.2.2.2 z), (26, qv s.2.2.1.1 s.2.2.1.2 p), (29, qv s.2.2.2.1.1 s.2.2.2.1.2 q), (30, .tuple #[qv s.2.2.2.2.1.1 s.2.2.2.2.1.2 k, .int .i64 0]), (19, .tuple #[qv s.2.2.2.2.1.1 s.2.2.2.2.1.2 k, .int .i64 0]), (31, qv s.2.2.2.2.1.1 s.2.2.2.2.1.2 k), (9, .pointer (some ⟨s.2.2.2.2.2, 0, none⟩))]) (fun s w' => CrK w n s0 s1 t0 t1 x1 x2 x3 (E1, F1, G1, I1) (E2, F2, G2, I2) (E3, F3, G3, I3) g1 g2 g3 y z p q k (some s.1) (some s.2.1) (some s.2.2.1) (some s.2.2.2.1) (some s.2.2.2.2.1) (some s.2.2.2.2.2) w') ?_ ?_
    · rintro ⟨⟨T1, T2, T3, T4⟩, ⟨U1, U2, U3, U4⟩, ⟨P1, P2⟩, ⟨Q1, Q2⟩, ⟨K1, K2⟩, g9⟩ wj hF
      try dsimp only at hF ⊢
      refine na ?_
      refine pv_ 13 32 ?_
      exact nj (J0 ((T1, T2, T3, T4), (U1, U2, U3, U4), (P1, P2), (Q1, Q2), (K1, K2), g9) _ hF)
    intro J2
    refine join_ (σ := V4 × V4 × V2 × V2 × V2 × Nat) 4 (bt 17 8191) (fun s => [(22, pv s.1.1 s.1.2.1 s.1.2.2.1 s.1.2.2.2 y), (24, pv s.2.1.1 s.2.1.2.1 s.2.1.2.2.1 s.2.1.2.2.2 z), (26, qv s.2.2.1.1 s.2.2.1.2 p), (29, qv s.2.2.2.1.1 s.2.2.2.1.2 q), (30, .tuple #[qv s.2.2.2.2.1.1 s.2.2.2.2.1.2 k, .int .i64 0]), (19, .tuple #[qv s.2.2.2.2.1.1 s.2.2.2.2.1.2 k, .int .i64 0]), (31, qv s.2.2.2.2.1.1 s.2.2.2.2.1.2 k)]) (fun s w' => CrK w n s0 s1 t0 t1 x1 x2 x3 (E1, F1, G1, I1) (E2, F2, G2, I2) (E3, F3, G3, I3) g1 g2 g3 y z p q k (some s.1) (some s.2.1) (some s.2.2.1) (some s.2.2.2.1) (some s.2.2.2.2.1) none w') ?_ ?_
    · rintro ⟨⟨T1, T2, T3, T4⟩, ⟨U1, U2, U3, U4⟩, ⟨P1, P2⟩, ⟨Q1, Q2⟩, ⟨K1, K2⟩, g9⟩ wj hF
      try dsimp only at hF ⊢
      refine na ?_
      refine pv_ 13 32 ?_
      exact nj (J1 ((T1, T2, T3, T4), (U1, U2, U3, U4), (P1, P2), (Q1, Q2), (K1, K2), g9) _ hF)
    intro J3
    refine join_ (σ := V4 × V4 × V2 × V2 × V2 × Nat) 4 (bt 17 20479) (fun s => [(22, pv s.1.1 s.1.2.1 s.1.2.2.1 s.1.2.2.2 y), (24, pv s.2.1.1 s.2.1.2.1 s.2.1.2.2.1 s.2.1.2.2.2 z), (26, qv s.2.2.1.1 s.2.2.1.2 p), (29, qv s.2.2.2.1.1 s.2.2.2.1.2 q), (30, .tuple #[qv s.2.2.2.2.1.1 s.2.2.2.2.1.2 k, .int .i64 0]), (19, .tuple #[qv s.2.2.2.2.1.1 s.2.2.2.2.1.2 k, .int .i64 0]), (9, .pointer (some ⟨s.2.2.2.2.2, 0, none⟩))]) (fun s w' => CrK w n s0 s1 t0 t1 x1 x2 x3 (E1, F1, G1, I1) (E2, F2, G2, I2) (E3, F3, G3, I3) g1 g2 g3 y z p q k (some s.1) (some s.2.1) (some s.2.2.1) (some s.2.2.2.1) (some s.2.2.2.2.1) (some s.2.2.2.2.2) w') ?_ ?_
    · rintro ⟨⟨T1, T2, T3, T4⟩, ⟨U1, U2, U3, U4⟩, ⟨P1, P2⟩, ⟨Q1, Q2⟩, ⟨K1, K2⟩, g9⟩ wj hF
      try dsimp only at hF ⊢
      refine na ?_
      refine pv_ 12 31 ?_
      exact nj (J2 ((T1, T2, T3, T4), (U1, U2, U3, U4), (P1, P2), (Q1, Q2), (K1, K2), g9) _ hF)
    intro J4
    refine join_ (σ := V4 × V4 × V2 × V2 × V2 × Nat) 5 (bt 17 4095) (fun s => [(22, pv s.1.1 s.1.2.1 s.1.2.2.1 s.1.2.2.2 y), (24, pv s.2.1.1 s.2.1.2.1 s.2.1.2.2.1 s.2.1.2.2.2 z), (26, qv s.2.2.1.1 s.2.2.1.2 p), (29, qv s.2.2.2.1.1 s.2.2.2.1.2 q), (30, .tuple #[qv s.2.2.2.2.1.1 s.2.2.2.2.1.2 k, .int .i64 0]), (19, .tuple #[qv s.2.2.2.2.1.1 s.2.2.2.2.1.2 k, .int .i64 0])]) (fun s w' => CrK w n s0 s1 t0 t1 x1 x2 x3 (E1, F1, G1, I1) (E2, F2, G2, I2) (E3, F3, G3, I3) g1 g2 g3 y z p q k (some s.1) (some s.2.1) (some s.2.2.1) (some s.2.2.2.1) (some s.2.2.2.2.1) none w') ?_ ?_
    · rintro ⟨⟨T1, T2, T3, T4⟩, ⟨U1, U2, U3, U4⟩, ⟨P1, P2⟩, ⟨Q1, Q2⟩, ⟨K1, K2⟩, g9⟩ wj hF
      try dsimp only at hF ⊢
      refine na ?_
      refine pv_ 12 31 ?_
      exact nj (J3 ((T1, T2, T3, T4), (U1, U2, U3, U4), (P1, P2), (Q1, Q2), (K1, K2), g9) _ hF)
    intro J5
    refine join_ (σ := V4 × V4 × V2 × V2 × V2 × Nat) 5 (bt 17 18431) (fun s => [(22, pv s.1.1 s.1.2.1 s.1.2.2.1 s.1.2.2.2 y), (24, pv s.2.1.1 s.2.1.2.1 s.2.1.2.2.1 s.2.1.2.2.2 z), (26, qv s.2.2.1.1 s.2.2.1.2 p), (29, qv s.2.2.2.1.1 s.2.2.2.1.2 q), (30, .tuple #[qv s.2.2.2.2.1.1 s.2.2.2.2.1.2 k, .int .i64 0]), (9, .pointer (some ⟨s.2.2.2.2.2, 0, none⟩))]) (fun s w' => CrK w n s0 s1 t0 t1 x1 x2 x3 (E1, F1, G1, I1) (E2, F2, G2, I2) (E3, F3, G3, I3) g1 g2 g3 y z p q k (some s.1) (some s.2.1) (some s.2.2.1) (some s.2.2.2.1) (some s.2.2.2.2.1) (some s.2.2.2.2.2) w') ?_ ?_
    · rintro ⟨⟨T1, T2, T3, T4⟩, ⟨U1, U2, U3, U4⟩, ⟨P1, P2⟩, ⟨Q1, Q2⟩, ⟨K1, K2⟩, g9⟩ wj hF
      try dsimp only at hF ⊢
      refine na ?_
      refine pv_ 11 19 ?_
      exact nj (J4 ((T1, T2, T3, T4), (U1, U2, U3, U4), (P1, P2), (Q1, Q2), (K1, K2), g9) _ hF)
    intro J6
    refine join_ (σ := V4 × V4 × V2 × V2 × V2 × Nat) 6 (bt 17 2047) (fun s => [(22, pv s.1.1 s.1.2.1 s.1.2.2.1 s.1.2.2.2 y), (24, pv s.2.1.1 s.2.1.2.1 s.2.1.2.2.1 s.2.1.2.2.2 z), (26, qv s.2.2.1.1 s.2.2.1.2 p), (29, qv s.2.2.2.1.1 s.2.2.2.1.2 q), (30, .tuple #[qv s.2.2.2.2.1.1 s.2.2.2.2.1.2 k, .int .i64 0])]) (fun s w' => CrK w n s0 s1 t0 t1 x1 x2 x3 (E1, F1, G1, I1) (E2, F2, G2, I2) (E3, F3, G3, I3) g1 g2 g3 y z p q k (some s.1) (some s.2.1) (some s.2.2.1) (some s.2.2.2.1) (some s.2.2.2.2.1) none w') ?_ ?_
    · rintro ⟨⟨T1, T2, T3, T4⟩, ⟨U1, U2, U3, U4⟩, ⟨P1, P2⟩, ⟨Q1, Q2⟩, ⟨K1, K2⟩, g9⟩ wj hF
      try dsimp only at hF ⊢
      refine na ?_
      refine pv_ 11 19 ?_
      exact nj (J5 ((T1, T2, T3, T4), (U1, U2, U3, U4), (P1, P2), (Q1, Q2), (K1, K2), g9) _ hF)
    intro J7
    refine join_ (σ := V4 × V4 × V2 × V2 × V2 × Nat) 6 (bt 17 17407) (fun s => [(22, pv s.1.1 s.1.2.1 s.1.2.2.1 s.1.2.2.2 y), (24, pv s.2.1.1 s.2.1.2.1 s.2.1.2.2.1 s.2.1.2.2.2 z), (26, qv s.2.2.1.1 s.2.2.1.2 p), (29, qv s.2.2.2.1.1 s.2.2.2.1.2 q), (9, .pointer (some ⟨s.2.2.2.2.2, 0, none⟩))]) (fun s w' => CrK w n s0 s1 t0 t1 x1 x2 x3 (E1, F1, G1, I1) (E2, F2, G2, I2) (E3, F3, G3, I3) g1 g2 g3 y z p q k (some s.1) (some s.2.1) (some s.2.2.1) (some s.2.2.2.1) none (some s.2.2.2.2.2) w') ?_ ?_
    · rintro ⟨⟨T1, T2, T3, T4⟩, ⟨U1, U2, U3, U4⟩, ⟨P1, P2⟩, ⟨Q1, Q2⟩, ⟨K1, K2⟩, g9⟩ wj hF
      try dsimp only at hF ⊢
      refine na ?_
      refine o1 10 30 (bt 17 18431) ?_
      · intro K hK
        refine goes_ Tryz.func82 (by kernel_rfl) rfl #[qv P1 P2 p, qv Q1 Q2 q] (by rfl) rfl rfl (by first | rfl | (simp [Act.eval]; done) | (simp [Act.eval, pv, qv]; done) | (go_simp; rfl)) ?_
        with_reducible refine (H10.out (P1, P2) (Q1, Q2) n _ (hF.h6 _ rfl) (hF.h9 _ rfl)).mono ?_
        rintro e w' ⟨K1, K2, rfl, hf, hb⟩
        refine ⟨_, rfl, ?_⟩
        have hN := hF.call10 (K1, K2) hf hb
        refine hK.out _ _ (by exact hN.h) (fun hHeld => ?_)
        exact nj (J6 ((T1, T2, T3, T4), (U1, U2, U3, U4), (P1, P2), (Q1, Q2), (K1, K2), g9) _ hN)
    intro J8
    refine join_ (σ := V4 × V4 × V2 × V2 × V2 × Nat) 7 (bt 17 1023) (fun s => [(22, pv s.1.1 s.1.2.1 s.1.2.2.1 s.1.2.2.2 y), (24, pv s.2.1.1 s.2.1.2.1 s.2.1.2.2.1 s.2.1.2.2.2 z), (26, qv s.2.2.1.1 s.2.2.1.2 p), (29, qv s.2.2.2.1.1 s.2.2.2.1.2 q)]) (fun s w' => CrK w n s0 s1 t0 t1 x1 x2 x3 (E1, F1, G1, I1) (E2, F2, G2, I2) (E3, F3, G3, I3) g1 g2 g3 y z p q k (some s.1) (some s.2.1) (some s.2.2.1) (some s.2.2.2.1) none none w') ?_ ?_
    · rintro ⟨⟨T1, T2, T3, T4⟩, ⟨U1, U2, U3, U4⟩, ⟨P1, P2⟩, ⟨Q1, Q2⟩, ⟨K1, K2⟩, g9⟩ wj hF
      try dsimp only at hF ⊢
      refine na ?_
      refine o2 10 30 14 9 (bt 17 2047) (bt 17 17407) ?_ ?_
      · intro K hK
        refine goes_ Tryz.func82 (by kernel_rfl) rfl #[qv P1 P2 p, qv Q1 Q2 q] (by rfl) rfl rfl (by first | rfl | (simp [Act.eval]; done) | (simp [Act.eval, pv, qv]; done) | (go_simp; rfl)) ?_
        with_reducible refine (H10.out (P1, P2) (Q1, Q2) n _ (hF.h6 _ rfl) (hF.h9 _ rfl)).mono ?_
        rintro e w' ⟨K1, K2, rfl, hf, hb⟩
        refine ⟨_, rfl, ?_⟩
        have hN := hF.call10 (K1, K2) hf hb
        refine hK.out _ _ (by exact hN.h) (fun hHeld => ?_)
        exact nj (J7 ((T1, T2, T3, T4), (U1, U2, U3, U4), (P1, P2), (Q1, Q2), (K1, K2), g9) _ hN)
      · intro K hK
        refine al_ (.cells #[.bool false, .slice none 0 0, .slice none 0 0] 45) ?_
        have hN := hF.box
        refine hK.out _ _ (by exact hN.h) (fun hHeld => ?_)
        exact nj (J8 ((T1, T2, T3, T4), (U1, U2, U3, U4), (P1, P2), (Q1, Q2), (K1, K2), wj.heap.size) _ hN)
    intro J9
    refine join_ (σ := V4 × V4 × V2 × V2 × V2 × Nat) 7 (bt 17 16895) (fun s => [(22, pv s.1.1 s.1.2.1 s.1.2.2.1 s.1.2.2.2 y), (24, pv s.2.1.1 s.2.1.2.1 s.2.1.2.2.1 s.2.1.2.2.2 z), (26, qv s.2.2.1.1 s.2.2.1.2 p), (9, .pointer (some ⟨s.2.2.2.2.2, 0, none⟩))]) (fun s w' => CrK w n s0 s1 t0 t1 x1 x2 x3 (E1, F1, G1, I1) (E2, F2, G2, I2) (E3, F3, G3, I3) g1 g2 g3 y z p q k (some s.1) (some s.2.1) (some s.2.2.1) none none (some s.2.2.2.2.2) w') ?_ ?_
    · rintro ⟨⟨T1, T2, T3, T4⟩, ⟨U1, U2, U3, U4⟩, ⟨P1, P2⟩, ⟨Q1, Q2⟩, ⟨K1, K2⟩, g9⟩ wj hF
      try dsimp only at hF ⊢
      refine na ?_
      refine o1 9 29 (bt 17 17407) ?_
      · intro K hK
        refine goes_ Tryz.func41 (by kernel_rfl) rfl #[pv E2 F2 G2 I2 x2, pv E3 F3 G3 I3 x3] (by rfl) rfl rfl (by first | rfl | (simp [Act.eval]; done) | (simp [Act.eval, pv, qv]; done) | (go_simp; rfl)) ?_
        with_reducible refine (H9.out (E2, F2, G2, I2) (E3, F3, G3, I3) n _ hF.h.h2 hF.h.h3).mono ?_
        rintro e w' ⟨Q1, Q2, rfl, hf, hb⟩
        refine ⟨_, rfl, ?_⟩
        have hN := hF.call9 (Q1, Q2) hf hb
        refine hK.out _ _ (by exact hN.h) (fun hHeld => ?_)
        exact nj (J8 ((T1, T2, T3, T4), (U1, U2, U3, U4), (P1, P2), (Q1, Q2), (K1, K2), g9) _ hN)
    intro J10
    refine join_ (σ := V4 × V4 × V2 × V2 × V2 × Nat) 8 (bt 17 511) (fun s => [(22, pv s.1.1 s.1.2.1 s.1.2.2.1 s.1.2.2.2 y), (24, pv s.2.1.1 s.2.1.2.1 s.2.1.2.2.1 s.2.1.2.2.2 z), (26, qv s.2.2.1.1 s.2.2.1.2 p)]) (fun s w' => CrK w n s0 s1 t0 t1 x1 x2 x3 (E1, F1, G1, I1) (E2, F2, G2, I2) (E3, F3, G3, I3) g1 g2 g3 y z p q k (some s.1) (some s.2.1) (some s.2.2.1) none none none w') ?_ ?_
    · rintro ⟨⟨T1, T2, T3, T4⟩, ⟨U1, U2, U3, U4⟩, ⟨P1, P2⟩, ⟨Q1, Q2⟩, ⟨K1, K2⟩, g9⟩ wj hF
      try dsimp only at hF ⊢
      refine na ?_
      refine o2 9 29 14 9 (bt 17 1023) (bt 17 16895) ?_ ?_
      · intro K hK
        refine goes_ Tryz.func41 (by kernel_rfl) rfl #[pv E2 F2 G2 I2 x2, pv E3 F3 G3 I3 x3] (by rfl) rfl rfl (by first | rfl | (simp [Act.eval]; done) | (simp [Act.eval, pv, qv]; done) | (go_simp; rfl)) ?_
        with_reducible refine (H9.out (E2, F2, G2, I2) (E3, F3, G3, I3) n _ hF.h.h2 hF.h.h3).mono ?_
        rintro e w' ⟨Q1, Q2, rfl, hf, hb⟩
        refine ⟨_, rfl, ?_⟩
        have hN := hF.call9 (Q1, Q2) hf hb
        refine hK.out _ _ (by exact hN.h) (fun hHeld => ?_)
        exact nj (J9 ((T1, T2, T3, T4), (U1, U2, U3, U4), (P1, P2), (Q1, Q2), (K1, K2), g9) _ hN)
      · intro K hK
        refine al_ (.cells #[.bool false, .slice none 0 0, .slice none 0 0] 45) ?_
        have hN := hF.box
        refine hK.out _ _ (by exact hN.h) (fun hHeld => ?_)
        exact nj (J10 ((T1, T2, T3, T4), (U1, U2, U3, U4), (P1, P2), (Q1, Q2), (K1, K2), wj.heap.size) _ hN)
    intro J11
    refine join_ (σ := V4 × V4 × V2 × V2 × V2 × Nat) 8 (bt 17 16831) (fun s => [(22, pv s.1.1 s.1.2.1 s.1.2.2.1 s.1.2.2.2 y), (24, pv s.2.1.1 s.2.1.2.1 s.2.1.2.2.1 s.2.1.2.2.2 z), (9, .pointer (some ⟨s.2.2.2.2.2, 0, none⟩))]) (fun s w' => CrK w n s0 s1 t0 t1 x1 x2 x3 (E1, F1, G1, I1) (E2, F2, G2, I2) (E3, F3, G3, I3) g1 g2 g3 y z p q k (some s.1) (some s.2.1) none none none (some s.2.2.2.2.2) w') ?_ ?_
    · rintro ⟨⟨T1, T2, T3, T4⟩, ⟨U1, U2, U3, U4⟩, ⟨P1, P2⟩, ⟨Q1, Q2⟩, ⟨K1, K2⟩, g9⟩ wj hF
      try dsimp only at hF ⊢
      refine na ?_
      refine o1 6 26 (bt 17 16895) ?_
      · intro K hK
        refine goes_ Tryz.func41 (by kernel_rfl) rfl #[pv U1 U2 U3 U4 z, pv E3 F3 G3 I3 x3] (by rfl) rfl rfl (by first | rfl | (simp [Act.eval]; done) | (simp [Act.eval, pv, qv]; done) | (go_simp; rfl)) ?_
        with_reducible refine (H6.out (U1, U2, U3, U4) (E3, F3, G3, I3) n _ (hF.h4 _ rfl) hF.h.h3).mono ?_
        rintro e w' ⟨P1, P2, rfl, hf, hb⟩
        refine ⟨_, rfl, ?_⟩
        have hN := hF.call6 (P1, P2) hf hb
        refine hK.out _ _ (by exact hN.h) (fun hHeld => ?_)
        exact nj (J10 ((T1, T2, T3, T4), (U1, U2, U3, U4), (P1, P2), (Q1, Q2), (K1, K2), g9) _ hN)
    intro J12
    refine join_ (σ := V4 × V4 × V2 × V2 × V2 × Nat) 9 (bt 17 447) (fun s => [(22, pv s.1.1 s.1.2.1 s.1.2.2.1 s.1.2.2.2 y), (24, pv s.2.1.1 s.2.1.2.1 s.2.1.2.2.1 s.2.1.2.2.2 z)]) (fun s w' => CrK w n s0 s1 t0 t1 x1 x2 x3 (E1, F1, G1, I1) (E2, F2, G2, I2) (E3, F3, G3, I3) g1 g2 g3 y z p q k (some s.1) (some s.2.1) none none none none w') ?_ ?_
    · rintro ⟨⟨T1, T2, T3, T4⟩, ⟨U1, U2, U3, U4⟩, ⟨P1, P2⟩, ⟨Q1, Q2⟩, ⟨K1, K2⟩, g9⟩ wj hF
      try dsimp only at hF ⊢
      refine na ?_
      refine o2 6 26 14 9 (bt 17 511) (bt 17 16831) ?_ ?_
      · intro K hK
        refine goes_ Tryz.func41 (by kernel_rfl) rfl #[pv U1 U2 U3 U4 z, pv E3 F3 G3 I3 x3] (by rfl) rfl rfl (by first | rfl | (simp [Act.eval]; done) | (simp [Act.eval, pv, qv]; done) | (go_simp; rfl)) ?_
        with_reducible refine (H6.out (U1, U2, U3, U4) (E3, F3, G3, I3) n _ (hF.h4 _ rfl) hF.h.h3).mono ?_
        rintro e w' ⟨P1, P2, rfl, hf, hb⟩
        refine ⟨_, rfl, ?_⟩
        have hN := hF.call6 (P1, P2) hf hb
        refine hK.out _ _ (by exact hN.h) (fun hHeld => ?_)
        exact nj (J11 ((T1, T2, T3, T4), (U1, U2, U3, U4), (P1, P2), (Q1, Q2), (K1, K2), g9) _ hN)
      · intro K hK
        refine al_ (.cells #[.bool false, .slice none 0 0, .slice none 0 0] 45) ?_
        have hN := hF.box
        refine hK.out _ _ (by exact hN.h) (fun hHeld => ?_)
        exact nj (J12 ((T1, T2, T3, T4), (U1, U2, U3, U4), (P1, P2), (Q1, Q2), (K1, K2), wj.heap.size) _ hN)
    intro J13
    refine join_ (σ := V4 × V4 × V2 × V2 × V2 × Nat) 9 (bt 17 16815) (fun s => [(22, pv s.1.1 s.1.2.1 s.1.2.2.1 s.1.2.2.2 y), (9, .pointer (some ⟨s.2.2.2.2.2, 0, none⟩))]) (fun s w' => CrK w n s0 s1 t0 t1 x1 x2 x3 (E1, F1, G1, I1) (E2, F2, G2, I2) (E3, F3, G3, I3) g1 g2 g3 y z p q k (some s.1) none none none none (some s.2.2.2.2.2) w') ?_ ?_
    · rintro ⟨⟨T1, T2, T3, T4⟩, ⟨U1, U2, U3, U4⟩, ⟨P1, P2⟩, ⟨Q1, Q2⟩, ⟨K1, K2⟩, g9⟩ wj hF
      try dsimp only at hF ⊢
      refine na ?_
      refine o1 4 24 (bt 17 16831) ?_
      · intro K hK
        refine goes_ Tryz.func62 (by kernel_rfl) rfl #[pv T1 T2 T3 T4 y, pv E1 F1 G1 I1 x1] (by rfl) rfl rfl (by first | rfl | (simp [Act.eval]; done) | (simp [Act.eval, pv, qv]; done) | (go_simp; rfl)) ?_
        with_reducible refine (H4.out (T1, T2, T3, T4) (E1, F1, G1, I1) n _ (hF.h2 _ rfl) hF.h.h1).mono ?_
        rintro e w' ⟨U1, U2, U3, U4, rfl, hf, hb⟩
        refine ⟨_, rfl, ?_⟩
        have hN := hF.call4 (U1, U2, U3, U4) hf hb
        refine hK.out _ _ (by exact hN.h) (fun hHeld => ?_)
        exact nj (J12 ((T1, T2, T3, T4), (U1, U2, U3, U4), (P1, P2), (Q1, Q2), (K1, K2), g9) _ hN)
    intro J14
    refine join_ (σ := V4 × V4 × V2 × V2 × V2 × Nat) 10 (bt 17 431) (fun s => [(22, pv s.1.1 s.1.2.1 s.1.2.2.1 s.1.2.2.2 y)]) (fun s w' => CrK w n s0 s1 t0 t1 x1 x2 x3 (E1, F1, G1, I1) (E2, F2, G2, I2) (E3, F3, G3, I3) g1 g2 g3 y z p q k (some s.1) none none none none none w') ?_ ?_
    · rintro ⟨⟨T1, T2, T3, T4⟩, ⟨U1, U2, U3, U4⟩, ⟨P1, P2⟩, ⟨Q1, Q2⟩, ⟨K1, K2⟩, g9⟩ wj hF
      try dsimp only at hF ⊢
      refine na ?_
      refine o2 4 24 14 9 (bt 17 447) (bt 17 16815) ?_ ?_
      · intro K hK
        refine goes_ Tryz.func62 (by kernel_rfl) rfl #[pv T1 T2 T3 T4 y, pv E1 F1 G1 I1 x1] (by rfl) rfl rfl (by first | rfl | (simp [Act.eval]; done) | (simp [Act.eval, pv, qv]; done) | (go_simp; rfl)) ?_
        with_reducible refine (H4.out (T1, T2, T3, T4) (E1, F1, G1, I1) n _ (hF.h2 _ rfl) hF.h.h1).mono ?_
        rintro e w' ⟨U1, U2, U3, U4, rfl, hf, hb⟩
        refine ⟨_, rfl, ?_⟩
        have hN := hF.call4 (U1, U2, U3, U4) hf hb
        refine hK.out _ _ (by exact hN.h) (fun hHeld => ?_)
        exact nj (J13 ((T1, T2, T3, T4), (U1, U2, U3, U4), (P1, P2), (Q1, Q2), (K1, K2), g9) _ hN)
      · intro K hK
        refine al_ (.cells #[.bool false, .slice none 0 0, .slice none 0 0] 45) ?_
        have hN := hF.box
        refine hK.out _ _ (by exact hN.h) (fun hHeld => ?_)
        exact nj (J14 ((T1, T2, T3, T4), (U1, U2, U3, U4), (P1, P2), (Q1, Q2), (K1, K2), wj.heap.size) _ hN)
    intro J15
    refine join_ (σ := V4 × V4 × V2 × V2 × V2 × Nat) 10 (bt 17 16811) (fun s => [(9, .pointer (some ⟨s.2.2.2.2.2, 0, none⟩))]) (fun s w' => CrK w n s0 s1 t0 t1 x1 x2 x3 (E1, F1, G1, I1) (E2, F2, G2, I2) (E3, F3, G3, I3) g1 g2 g3 y z p q k none none none none none (some s.2.2.2.2.2) w') ?_ ?_
    · rintro ⟨⟨T1, T2, T3, T4⟩, ⟨U1, U2, U3, U4⟩, ⟨P1, P2⟩, ⟨Q1, Q2⟩, ⟨K1, K2⟩, g9⟩ wj hF
      try dsimp only at hF ⊢
      refine na ?_
      refine o1 2 22 (bt 17 16815) ?_
      · intro K hK
        refine goes_ Tryz.func61 (by kernel_rfl) rfl #[.agg #[.int .u64 t0.1, .int .u64 t0.2]] (by rfl) rfl rfl (by first | rfl | (simp [Act.eval]; done) | (simp [Act.eval, pv, qv]; done) | (go_simp; rfl)) ?_
        with_reducible refine (HT.out _).mono ?_
        rintro e w' ⟨T1, T2, T3, T4, rfl, hf, hb⟩
        refine ⟨_, rfl, ?_⟩
        have hN := hF.call2 (T1, T2, T3, T4) hf hb
        refine hK.out _ _ (by exact hN.h) (fun hHeld => ?_)
        exact nj (J14 ((T1, T2, T3, T4), (U1, U2, U3, U4), (P1, P2), (Q1, Q2), (K1, K2), g9) _ hN)
    intro J16
    refine join_ (σ := V4 × V4 × V2 × V2 × V2 × Nat) 11 (bt 17 427) (fun s => []) (fun s w' => CrK w n s0 s1 t0 t1 x1 x2 x3 (E1, F1, G1, I1) (E2, F2, G2, I2) (E3, F3, G3, I3) g1 g2 g3 y z p q k none none none none none none w') ?_ ?_
    · rintro ⟨⟨T1, T2, T3, T4⟩, ⟨U1, U2, U3, U4⟩, ⟨P1, P2⟩, ⟨Q1, Q2⟩, ⟨K1, K2⟩, g9⟩ wj hF
      try dsimp only at hF ⊢
      refine na ?_
      refine o2 2 22 14 9 (bt 17 431) (bt 17 16811) ?_ ?_
      · intro K hK
        refine goes_ Tryz.func61 (by kernel_rfl) rfl #[.agg #[.int .u64 t0.1, .int .u64 t0.2]] (by rfl) rfl rfl (by first | rfl | (simp [Act.eval]; done) | (simp [Act.eval, pv, qv]; done) | (go_simp; rfl)) ?_
        with_reducible refine (HT.out _).mono ?_
        rintro e w' ⟨T1, T2, T3, T4, rfl, hf, hb⟩
        refine ⟨_, rfl, ?_⟩
        have hN := hF.call2 (T1, T2, T3, T4) hf hb
        refine hK.out _ _ (by exact hN.h) (fun hHeld => ?_)
        exact nj (J15 ((T1, T2, T3, T4), (U1, U2, U3, U4), (P1, P2), (Q1, Q2), (K1, K2), g9) _ hN)
      · intro K hK
        refine al_ (.cells #[.bool false, .slice none 0 0, .slice none 0 0] 45) ?_
        have hN := hF.box
        refine hK.out _ _ (by exact hN.h) (fun hHeld => ?_)
        exact nj (J16 ((T1, T2, T3, T4), (U1, U2, U3, U4), (P1, P2), (Q1, Q2), (K1, K2), wj.heap.size) _ hN)
    intro J17
    exact nj (J17 (default, default, default, default, default, 0) _ ⟨hHeld, nofun, nofun, nofun, nofun, nofun, nofun, nofun⟩)
  rintro ⟨⟨T1, T2, T3, T4⟩, ⟨U1, U2, U3, U4⟩, ⟨P1, P2⟩, ⟨Q1, Q2⟩, ⟨K1, K2⟩, g9⟩ wj hF
  dsimp only at hF ⊢
  clear hHeld
  refine na ?_
  refine last_ (i := 15) (N := none) (bt 17 65535) rfl rfl (by kernel_rfl) (by decide) (fun K hK => ?_)
  obtain ⟨y0, y1, y2, z0, z1, z2⟩ := row3 (hF.r _ rfl).2
  unfold qv
  refine skip_ (w1 := triSet g9 (.bool (decide (k.num < 0))) (.slice K1 (qn k).length (qn k).length) (.slice K2 (qd k).length (qd k).length) wj) (by rfl) rfl ?_ ?_
  · go_simp
    rfl
  refine hK.out _ _ ?_
  clear hK K
  replace hF := hF.tri (.bool (decide (k.num < 0))) (.slice K1 (qn k).length (qn k).length) (.slice K2 (qd k).length (qd k).length)
  clear y0 y1 y2 z0 z1 z2
  generalize triSet g9 _ _ _ wj = wn at *
  obtain ⟨a0, a1, a2, a3, a4, a5, _⟩ := row6 hF.1.r1
  obtain ⟨b0, b1, b2, b3, b4, b5, _⟩ := row6 hF.1.r2
  obtain ⟨c0, c1, c2, _⟩ := row3 hF.2.2.1
  refine pv_ 16 10 ?_
  refine done_ (by kernel_rfl) ?_
  ((try dsimp only); repeat (first | go_values | go_skip | go_guarded | go_step | go_upon))
  refine (HL.out (E1, F1, G1, I1) (K1, K2) (E2, F2, G2, I2) n _ hF.1.h1 hF.2.1 hF.1.h2).mono ?_
  rintro e wv ⟨X1, X2, X3, X4, rfl, hx, hb⟩
  have hFk := hF.1.h.keep hb
  have hbig := hF.1.h.big
  have hZ := Lib.hid (And.intro hFk (And.intro (hx.wide (lo' := n) (by omega)) hbig))
  have hsz := hb.size
  clear hF hb hFk hx hS
  unfold pv
  ((try dsimp only); repeat (first | go_values | go_skip | go_guarded | go_step | go_upon))
  obtain ⟨k1, k2, k3⟩ := hZ.out
  have k4 := k1.big
  have hR : CrR w n wv.heap.size (X1, X2, X3, X4) xx #[.bool false, .slice none 0 0, .slice none 0 0] #[.bool false, .slice none 0 0, .slice none 0 0] (wv.alloc (.cells #[.bool (decide (xx.1.num < 0)), .slice X1 (qn xx.1).length (qn xx.1).length, .slice X2 (qd xx.1).length (qd xx.1).length, .bool (decide (xx.2.num < 0)), .slice X3 (qn xx.2).length (qn xx.2).length, .slice X4 (qd xx.2).length (qd xx.2).length] 89)) :=
    ⟨k1.b.trans ((Below.refl n wv).alloc (by omega) _), k2.keep (Keep.of ((Below.refl _ _).alloc (Nat.le_refl _) _) (Nat.le_refl _)) (Nat.le_refl _), alloc_new _ _, alloc_old k1.r1, alloc_old k1.r2, k4⟩
  clear k1 k2 k3 k4 hZ
  generalize wv.heap.size = g at *
  generalize World.alloc wv _ = wu at *
  have hS := (hR.keep (Below.refl _ _).drew).r
  ((try dsimp only); repeat (first | go_values | go_skip | go_guarded | go_step | go_upon))
  refine start_ (n := 6) (S := fun w' => w'.heap[g]? = some (.cells #[.bool (decide (xx.1.num < 0)), .slice X1 (qn xx.1).length (qn xx.1).length, .slice X2 (qd xx.1).length (qd xx.1).length, .bool (decide (xx.2.num < 0)), .slice X3 (qn xx.2).length (qn xx.2).length, .slice X4 (qd xx.2).length (qd xx.2).length] 89 (0, 0))) (ds := [5]) (bt 6 0) (by kernel_rfl) rfl rfl (hS) (fun hHeld => ?_)
  refine pv_ 0 37 ?_
  refine ld_ 1 38 ?_ hHeld ?_ ?_; rotate_left
  · rintro w' hs
    obtain ⟨a0, a1, a2, a3, a4, a5, _⟩ := row6 hs
    clear hs
    go_simp; with_reducible rfl
  refine pv_ 2 39 ?_
  refine ld_ 3 40 ?_ hHeld ?_ ?_; rotate_left
  · rintro w' hs
    obtain ⟨a0, a1, a2, a3, a4, a5, _⟩ := row6 hs
    clear hs
    go_simp; with_reducible rfl
  refine one_ (i := 4) (N := none) (bt 6 31) rfl rfl (by kernel_rfl) (by decide) (fun K hK => ?_)
  obtain ⟨y0, y1, y2, z0, z1, z2⟩ := row3 hR.r1
  refine skip_ (w1 := (triSet (n + 1 + 1) (.bool (decide (xx.1.num < 0))) (.slice X1 (qn xx.1).length (qn xx.1).length) (.slice X2 (qd xx.1).length (qd xx.1).length) wu).drew) (by rfl) rfl ?_ ?_
  · go_simp
    rfl
  refine hK.out _ _ (by exact (triSet_other _ (by have := hR.l; omega)).trans hHeld) (fun hHeld => ?_)
  clear hK K
  replace hR := (hR.set1 (.bool (decide (xx.1.num < 0))) (.slice X1 (qn xx.1).length (qn xx.1).length) (.slice X2 (qd xx.1).length (qd xx.1).length)).keep (Below.refl _ _).drew
  clear y0 y1 y2 z0 z1 z2 hS hHeld
  generalize World.drew (triSet (n + 1 + 1) _ _ _ wu) = wq at *
  refine last_ (i := 5) (N := none) (bt 6 63) rfl rfl (by kernel_rfl) (by decide) (fun K hK => ?_)
  obtain ⟨y0, y1, y2, z0, z1, z2⟩ := row3 hR.r2
  refine skip_ (w1 := triSet (n + 1 + 1 + 1) (.bool (decide (xx.2.num < 0))) (.slice X3 (qn xx.2).length (qn xx.2).length) (.slice X4 (qd xx.2).length (qd xx.2).length) wq) (by rfl) rfl ?_ ?_
  · go_simp
    rfl
  refine hK.out _ _ ?_
  clear hK K
  replace hR := hR.set2 (.bool (decide (xx.2.num < 0))) (.slice X3 (qn xx.2).length (qn xx.2).length) (.slice X4 (qd xx.2).length (qd xx.2).length)
  clear y0 y1 y2 z0 z1 z2
  generalize triSet (n + 1 + 1 + 1) _ _ _ wq = wp at *
  refine done_ (by kernel_rfl) ?_
  ((try dsimp only); repeat (first | go_values | go_skip | go_guarded | go_step | go_upon))
  refine bodyPost_ret (results_rows rfl _ _ (n + 1 + 1) (n + 1 + 1 + 1) _ _ _ _ _ _ _ _ rfl rfl hR.r1 hR.r2 rfl rfl rfl rfl rfl rfl) rfl ?_
  subst hn
  exact ⟨X1, X2, X3, X4, rfl, hR.f.h1, hR.f.h2, hR.b⟩
end Go.Proofs.YtggfppgjabembaaGreatDoor

namespace Go.Proofs.YtggfppgjabembaaGreatDoor
open Go.RowKit
set_option linter.unusedVariables false
def crK (a b c d : Pl) : Rat := ((c.1 - a.1) * (d.2 - c.2) - (c.2 - a.2) * (d.1 - c.1)) / turnR a b c d
def crR (a b c d : Pl) : Pl := (a.1 + crK a b c d * (b.1 - a.1), a.2 + crK a b c d * (b.2 - a.2))
theorem PSz.sub {m n : Nat} {x y : Pl} (h : PSz m x) (k : PSz n y) : PSz (m + n + 1) (x.1 - y.1, x.2 - y.2) := ⟨h.1.sub k.1, h.2.sub k.2⟩
theorem turn_sz {m n : Nat} {x y : Pl} (h : PSz m x) (k : PSz n y) : Sz (m + n + (m + n) + 1) (x.1 * y.2 - x.2 * y.1) := (h.1.mul k.2).sub (h.2.mul k.1)
theorem crossC : CrossC crR := by
  intro a b c d w fa fb fc fd ht
  have s1 := pl_sz fa
  have s2 := (pl_sz fb).sub (pl_sz fa)
  have s3 := (pl_sz fd).sub (pl_sz fc)
  have s4 := (pl_sz fc).sub (pl_sz fa)
  have s6 := turn_sz s4 s3
  have s9 := turn_sz s2 s3
  have hq : (turnR (pl a) (pl b) (pl c) (pl d)).num ≠ 0 := fun h => ht (Rat.num_eq_zero.1 h)
  have s10 : Sz 17210 (crK (pl a) (pl b) (pl c) (pl d)) := (s6.div s9 hq).mono (by omega)
  have sx : Sz 30000 (crR (pl a) (pl b) (pl c) (pl d)).1 := (s1.1.add (s10.mul s2.1)).mono (by omega)
  have sy : Sz 30000 (crR (pl a) (pl b) (pl c) (pl d)).2 := (s1.2.add (s10.mul s2.2)).mono (by omega)
  refine (sCrossIn a b c d (pl a) _ _ (pl c) _ (crR (pl a) (pl b) (pl c) (pl d)) _ _ (crK (pl a) (pl b) (pl c) (pl d)) w (fun wz => sVector a wz fa) (fun wz => sWay a b wz fa fb) (fun wz => sWay c d wz fc fd) (fun wz => sVector c wz fc)
    (fun u v lo wz hu hv => vMinus _ _ _ _ _ _ _ _ lo wz.heap.size 1075 1075 _ _ wz hu.ins hv.ins (Nat.le_refl _) (pl_sz fc) (pl_sz fa) (by omega))
    (fun u v lo wz hu hv => vTurn _ _ _ _ _ _ _ _ lo wz.heap.size _ _ _ _ wz hu.ins hv.ins (Nat.le_refl _) s4 s3 (by omega))
    (fun u v lo wz hu hv => vTurn _ _ _ _ _ _ _ _ lo wz.heap.size _ _ _ _ wz hu.ins hv.ins (Nat.le_refl _) s2 s3 (by omega))
    (fun u v lo wz hu hv => rDivQ _ _ _ _ lo wz.heap.size _ _ _ _ wz hu.ins hv.ins (Nat.le_refl _) s6 s9 (by omega) hq)
    (fun u t v lo wz hu ht hv => vAlong _ _ _ _ _ _ _ _ _ _ lo wz.heap.size _ _ _ _ _ _ wz hu.ins ht.ins hv.ins (Nat.le_refl _) s1 s10 s2 (by omega))).mono ?_
  rintro e w' ⟨A, B, C, D, rfl, h1, h2, h3⟩
  exact ⟨A, B, C, D, rfl, h1, h2, sx, sy, h3⟩
end Go.Proofs.YtggfppgjabembaaGreatDoor

namespace Go.Proofs.YtggfppgjabembaaGreatDoor
open Go.RowKit
set_option linter.unusedVariables false
theorem fitQ_iff {q : Rat} : FitQ q ↔ -(maxQ : Rat) ≤ q ∧ q ≤ (maxQ : Rat) := by
  unfold FitQ
  have h := q.den_pos
  rw [Rat.le_iff, Rat.le_iff]
  simp only [Rat.neg_num, Rat.neg_den, Rat.num_intCast, Rat.den_intCast]
  generalize maxQ = M
  have e : -M * (q.den : Int) = -(M * q.den) := by grind
  rw [e]
  omega
theorem quo_fit {neg : Bool} {x y : Int} (hx : 0 ≤ x) (hy : 0 < y) (h : x ≤ maxQ * y) : FitQ (quo neg x y) := by
  obtain ⟨p1, p2, p3⟩ := quo_parts neg hx hy
  unfold FitQ
  rw [p1, p2]
  have hg : (0 : Int) < (Int.gcd x y : Nat) := by
    have := Int.gcd_pos_of_ne_zero_right x (show y ≠ 0 by omega)
    omega
  have d1 : ((Int.gcd x y : Nat) : Int) ∣ x := Int.gcd_dvd_left x y
  have d2 : ((Int.gcd x y : Nat) : Int) ∣ y := Int.gcd_dvd_right x y
  generalize ((Int.gcd x y : Nat) : Int) = g at *
  obtain ⟨a, rfl⟩ := d1
  obtain ⟨b, rfl⟩ := d2
  rw [Int.mul_ediv_cancel_left _ (by omega), Int.mul_ediv_cancel_left _ (by omega)]
  rw [show maxQ * (g * b) = g * (maxQ * b) by grind] at h
  exact Int.le_of_mul_le_mul_left h hg
theorem fval_fit {b : Int} (h : Fin64 b) : FitQ (fval b) := by
  refine quo_fit (fnum_nonneg b) (fden_pos b) ?_
  have m := fm_range b
  have r := fx_range h
  have d := fden_pos b
  have e : fnum b ≤ maxQ := by
    unfold fnum maxQ
    refine Int.le_trans (Int.mul_le_mul_of_nonneg_right (show fm b ≤ 9007199254740991 by omega) (Int.le_of_lt (ipow_pos _))) ?_
    exact Int.mul_le_mul_of_nonneg_left (ipow_le (by omega)) (by decide)
  have e2 : maxQ * 1 ≤ maxQ * fden b := Int.mul_le_mul_of_nonneg_left (by omega) (by unfold maxQ; decide +kernel)
  omega
theorem mid_fit {a b k : Rat} (ha : FitQ a) (hb : FitQ b) (h0 : 0 ≤ k) (h1 : k ≤ 1) : FitQ (a + k * (b - a)) := by
  rw [fitQ_iff] at *
  generalize (maxQ : Rat) = M at *
  obtain ⟨a0, a1⟩ := ha
  obtain ⟨b0, b1⟩ := hb
  have e : a + k * (b - a) = (1 - k) * a + k * b := by grind
  have hk : 0 ≤ 1 - k := by grind
  have u1 : (1 - k) * a ≤ (1 - k) * M := Rat.mul_le_mul_of_nonneg_left a1 hk
  have u2 : k * b ≤ k * M := Rat.mul_le_mul_of_nonneg_left b1 h0
  have l1 : (1 - k) * (-M) ≤ (1 - k) * a := Rat.mul_le_mul_of_nonneg_left a0 hk
  have l2 : k * (-M) ≤ k * b := Rat.mul_le_mul_of_nonneg_left b0 h0
  rw [e]
  constructor <;> grind
theorem crK_eq (a b c d : Pl) : crK a b c d = area2 c d a / (area2 c d a - area2 c d b) := by
  have e1 : (c.1 - a.1) * (d.2 - c.2) - (c.2 - a.2) * (d.1 - c.1) = area2 c d a := by unfold area2; grind
  have e2 : turnR a b c d = area2 c d a - area2 c d b := by unfold turnR area2; grind
  unfold crK
  rw [e1, e2]
theorem frac_pos {x y : Rat} (h : 0 < x) (k : y < 0) : 0 ≤ x / (x - y) ∧ x / (x - y) ≤ 1 := by
  have hd : 0 < x - y := by grind
  have e : x / (x - y) * (x - y) = x := Rat.div_mul_cancel (by grind)
  generalize x / (x - y) = t at *
  constructor
  · refine Rat.not_lt.1 fun ht => ?_
    have := Rat.mul_pos (show 0 < -t by grind) hd
    grind
  · refine Rat.not_lt.1 fun ht => ?_
    have := Rat.mul_pos (show 0 < t - 1 by grind) hd
    grind
theorem frac_neg {x y : Rat} (h : x < 0) (k : 0 < y) : 0 ≤ x / (x - y) ∧ x / (x - y) ≤ 1 := by
  have hd : 0 < y - x := by grind
  have e : x / (x - y) * (x - y) = x := Rat.div_mul_cancel (by grind)
  generalize x / (x - y) = t at *
  constructor
  · refine Rat.not_lt.1 fun ht => ?_
    have := Rat.mul_pos (show 0 < -t by grind) hd
    grind
  · refine Rat.not_lt.1 fun ht => ?_
    have := Rat.mul_pos (show 0 < t - 1 by grind) hd
    grind
theorem qsgn_pos {a : Rat} : qsgn a = 1 ↔ 0 < a := by
  unfold qsgn
  rw [Rat.lt_iff]
  have e0 : (0:Rat).num = 0 := rfl
  have e1 : (0:Rat).den = 1 := rfl
  rw [e0, e1, Int.zero_mul]
  constructor
  · intro h
    split at h
    · cases h
    · split at h
      · cases h
      · omega
  · intro h
    rw [if_neg (by omega), if_neg (by omega)]
theorem qsgn_neg {a : Rat} : qsgn a = -1 ↔ a < 0 := by
  unfold qsgn
  rw [Rat.lt_iff]
  have e0 : (0:Rat).num = 0 := rfl
  have e1 : (0:Rat).den = 1 := rfl
  rw [e0, e1, Int.zero_mul]
  constructor
  · intro h
    split at h
    · cases h
    · split at h
      · omega
      · cases h
  · intro h
    rw [if_neg (by omega), if_pos (by omega)]
theorem frac_range {x y : Rat} (h : qsgn x * qsgn y < 0) : 0 ≤ x / (x - y) ∧ x / (x - y) ≤ 1 := by
  rcases qsgn_cases x with e | e | e <;> rcases qsgn_cases y with k | k | k <;> rw [e, k] at h <;> first | (exact absurd h (by decide)) | exact frac_neg (qsgn_neg.1 e) (qsgn_pos.1 k) | exact frac_pos (qsgn_pos.1 e) (qsgn_neg.1 k)
theorem crossFit : FitC crR := by
  intro a b c d fa fb fc fd h1 h2
  obtain ⟨k0, k1⟩ := frac_range h2
  rw [← crK_eq (pl a) (pl b) (pl c) (pl d)] at k0 k1
  exact ⟨mid_fit (fval_fit fa.1) (fval_fit fb.1) k0 k1, mid_fit (fval_fit fa.2) (fval_fit fb.2) k0 k1⟩
def meetX (s0 s1 t0 t1 : Pt) : Pt := ((nearR (crR (pl s0) (pl s1) (pl t0) (pl t1)).1).1, (nearR (crR (pl s0) (pl s1) (pl t0) (pl t1)).2).1)
def meetM (a b c d : Pt) : Mt := meetR (meetX (zp a) (zp b) (zp c) (zp d)) (zp a) (zp b) (zp c) (zp d)
theorem nearC : NearC (fun q => (nearR q).1) (fun _ => 0) (fun _ => True) := fun q A B lo up w h hu hs hf _ => vRat q A B lo up w h hu hs hf
theorem meetC : MeetC meetX (fun _ => True) := sMeetIn _ _ _ crR (fun _ _ _ _ => trivial) nearC crossC crossFit
theorem sMeetAny (a b c d : Pt) (w : World) (fa : FinP a) (fb : FinP b) (fc : FinP c) (fd : FinP d) :
    Calls Tryz.prog 10 #[pt a, pt b, pt c, pt d] w fun e w' => e = .returned (.tuple #[mv (meetM a b c d), .int .i64 0]) ∧ Below w.heap.size w w' :=
  sMeet meetX (fun _ => True) (fun _ _ _ _ => trivial) meetC a b c d w fa fb fc fd trivial
end Go.Proofs.YtggfppgjabembaaGreatDoor
