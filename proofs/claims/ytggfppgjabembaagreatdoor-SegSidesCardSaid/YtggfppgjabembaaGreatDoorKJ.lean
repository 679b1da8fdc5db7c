/- Plane geometry over rationals: the crossing place. -/
import Derived.Test.YtggfppgjabembaaGreatDoorKI
import Derived.Test.YtggfppgjabembaaGreatDoorKA
import Derived.Test.YtggfppgjabembaaGreatDoorKH
namespace Go.Proofs.YtggfppgjabembaaGreatDoor
open Go.RowKit
set_option linter.unusedVariables false
def qo (A B : Option Addr) (q : Rat) : Obj := .cells #[.bool (decide (q.num < 0)), .slice A (qn q).length (qn q).length, .slice B (qd q).length (qd q).length] 45 (0, 0)
structure Mem (n : Nat) (w0 w : World) (L : List (Nat × Obj)) (R : List (Option Addr × Option Addr × Rat)) : Prop where
  b : Below n w0 w
  z : n ≤ w.heap.size
  l : ∀ (i g : Nat) (o : Obj), L[i]? = some (g, o) → w.heap[g]? = some o
  r : ∀ (i : Nat) (A B : Option Addr) (q : Rat), R[i]? = some (A, B, q) → RatFresh n w A B q
theorem Mem.start (w : World) : Mem w.heap.size w w [] [] := ⟨Below.refl _ _, Nat.le_refl _, fun i g o h => by simp at h, fun i A B q h => by simp at h⟩
section
variable {n : Nat} {w0 w w' : World} {L : List (Nat × Obj)} {R : List (Option Addr × Option Addr × Rat)}
theorem Mem.keep (h : Mem n w0 w L R) (k : Below w.heap.size w w') : Mem n w0 w' L R :=
  ⟨h.b.trans (k.mono h.z), Nat.le_trans h.z k.size, fun i g o e => (k.block _ (heap_lt (h.l i g o e))).trans (h.l i g o e), fun i A B q e => (h.r i A B q e).keep (Keep.of k (Nat.le_refl _)) (Nat.le_refl _)⟩
theorem Mem.drewN (h : Mem n w0 w L R) (k : Nat) : Mem n w0 (w.drewN k) L R := h.keep (belowN (Below.refl _ _) k)
theorem Mem.drew (h : Mem n w0 w L R) : Mem n w0 w.drew L R := h.keep (Below.refl _ _).drew
theorem getElem?_snoc {α : Type} {l : List α} {a b : α} {i : Nat} (h : (l ++ [a])[i]? = some b) : l[i]? = some b ∨ (i = l.length ∧ b = a) := by
  by_cases hi : i < l.length
  · rw [List.getElem?_append_left hi] at h; exact Or.inl h
  · rw [List.getElem?_append_right (by omega)] at h
    have : i - l.length = 0 := by
      rcases Nat.eq_zero_or_pos (i - l.length) with e | e
      · exact e
      · rw [List.getElem?_eq_none (by simp; omega)] at h; cases h
    rw [this] at h
    simp at h
    exact Or.inr ⟨by omega, h.symm⟩
theorem Mem.alloc (h : Mem n w0 w L R) (o : Obj) : Mem n w0 (w.alloc o) (L ++ [(w.heap.size, o)]) R := by
  have k := h.keep ((Below.refl _ _).alloc (Nat.le_refl _) o)
  refine ⟨k.b, k.z, fun i g o' e => ?_, k.r⟩
  rcases getElem?_snoc e with e | ⟨_, e⟩
  · exact k.l i g o' e
  · cases e; exact alloc_new w o
theorem Mem.rat (h : Mem n w0 w L R) {lo : Nat} {A B : Option Addr} {q : Rat} (hl : n ≤ lo) (f : RatFresh lo w A B q) : Mem n w0 w L (R ++ [(A, B, q)]) := by
  refine ⟨h.b, h.z, h.l, fun i A' B' q' e => ?_⟩
  rcases getElem?_snoc e with e | ⟨_, e⟩
  · exact h.r i A' B' q' e
  · cases e; exact f.wide hl
theorem Mem.call (h : Mem n w0 w L R) {A B : Option Addr} {q : Rat} (f : RatFresh w.heap.size w' A B q) (k : Below w.heap.size w w') : Mem n w0 w' L (R ++ [(A, B, q)]) := (h.keep k).rat h.z f
theorem Mem.ins (h : Mem n w0 w L R) (i : Nat) {A B : Option Addr} {q : Rat} (e : R[i]? = some (A, B, q)) : RatIn n w.heap.size w A B q := (h.r i A B q e).ins
theorem Mem.arg (h : Mem n w0 w L R) {lo up : Nat} {A B : Option Addr} {q : Rat} (a : RatIn lo up w0 A B q) (hu : up ≤ n) : RatIn lo w.heap.size w A B q := (a.keep (Keep.of h.b hu)).wide (Nat.le_refl _) (Nat.le_trans hu h.z)
theorem Mem.qrow (h : Mem n w0 w L R) (i : Nat) {g : Nat} {A B : Option Addr} {q : Rat} (e : L[i]? = some (g, qo A B q)) :
    w.cell? ⟨g, 0, none⟩ = some (.bool (decide (q.num < 0))) ∧ w.cell? ⟨g, 1, none⟩ = some (.slice A (qn q).length (qn q).length) ∧ w.cell? ⟨g, 2, none⟩ = some (.slice B (qd q).length (qd q).length) ∧ w.frozen? ⟨g, 0, none⟩ = false ∧ w.frozen? ⟨g, 1, none⟩ = false ∧ w.frozen? ⟨g, 2, none⟩ = false := row3 (h.l i g _ e)
def po (p : Pt) : Obj := .cells #[.int .u64 p.1, .int .u64 p.2] 24 (0, 0)
theorem Mem.prow (h : Mem n w0 w L R) (i : Nat) {g : Nat} {p : Pt} (e : L[i]? = some (g, po p)) :
    w.cell? ⟨g, 0, none⟩ = some (.int .u64 p.1) ∧ w.cell? ⟨g, 1, none⟩ = some (.int .u64 p.2) ∧ w.frozen? ⟨g, 0, none⟩ = false ∧ w.frozen? ⟨g, 1, none⟩ = false := row2f (h.l i g _ e)
theorem Mem.lt (h : Mem n w0 w L R) (i : Nat) {g : Nat} {o : Obj} (e : L[i]? = some (g, o)) : g < w.heap.size := heap_lt (h.l i g o e)
theorem RatFresh.off3 {A B : Option Addr} {q : Rat} {g : Nat} {C : Array Value} {t : TypeId} {f : Nat × Nat} (h : RatFresh n w A B q) (row : w.heap[g]? = some (.cells C t f)) (ht : t ≠ 22) (x y z : Value) : RatFresh n (((w.setCell ⟨g, 0, none⟩ x).setCell ⟨g, 1, none⟩ y).setCell ⟨g, 2, none⟩ z) A B q :=
  h.off row ht (fun j hj => by rw [Below.heap_setCell _ _ _ _ hj, Below.heap_setCell _ _ _ _ hj, Below.heap_setCell _ _ _ _ hj])
theorem Mem.setOther (h : Mem n w0 w L R) (i : Nat) {g : Nat} {C : Array Value} {t : TypeId} {f : Nat × Nat} {o : Obj} {w2 : World} (e : L[i]? = some (g, .cells C t f)) (ht : t ≠ 22) (hn : n ≤ g)
    (hb : Below n w0 w2) (hz : w2.heap.size = w.heap.size) (hg : w2.heap[g]? = some o) (ho : ∀ j, j ≠ g → w2.heap[j]? = w.heap[j]?) (hd : ∀ (j : Nat) (o' : Obj), L[j]? = some (g, o') → j = i) : Mem n w0 w2 (L.set i (g, o)) R := by
  refine ⟨hb, by rw [hz]; exact h.z, fun j g' o' e' => ?_, fun j A B q e' => ?_⟩
  · by_cases hj : j = i
    · subst hj
      have hlt : j < L.length := (List.getElem?_eq_some_iff.1 e).1
      rw [List.getElem?_set_self hlt] at e'
      cases e'
      exact hg
    · rw [List.getElem?_set_ne (fun k => hj k.symm)] at e'
      by_cases hgg : g' = g
      · subst hgg; exact absurd (hd j o' e') hj
      · rw [ho g' hgg]; exact h.l j g' o' e'
  · exact (h.r j A B q e').off (h.l i g _ e) ht ho
theorem heap_three_other {g : Nat} {x y z : Value} (j : Nat) (h : j ≠ g) : (((w.setCell ⟨g, 0, none⟩ x).setCell ⟨g, 1, none⟩ y).setCell ⟨g, 2, none⟩ z).heap[j]? = w.heap[j]? := by
  rw [Below.heap_setCell _ _ _ _ h, Below.heap_setCell _ _ _ _ h, Below.heap_setCell _ _ _ _ h]
theorem setCell_size (w : World) (a : Addr) (v : Value) : (w.setCell a v).heap.size = w.heap.size := by unfold World.setCell; simp
theorem Mem.three (h : Mem n w0 w L R) (i : Nat) {g : Nat} {a b c : Value} {t : TypeId} (e : L[i]? = some (g, .cells #[a, b, c] t (0, 0))) (ht : t ≠ 22) (hn : n ≤ g) (hd : ∀ (j : Nat) (o' : Obj), L[j]? = some (g, o') → j = i) (x y z : Value) :
    Mem n w0 (((w.setCell ⟨g, 0, none⟩ x).setCell ⟨g, 1, none⟩ y).setCell ⟨g, 2, none⟩ z) (L.set i (g, .cells #[x, y, z] t (0, 0))) R :=
  h.setOther i e ht hn (((h.b.setCell hn _).setCell hn _).setCell hn _) (by rw [setCell_size, setCell_size, setCell_size]) (heap_set_three (h.l i g _ e) x y z) (fun j hj => heap_three_other j hj) hd
end
end Go.Proofs.YtggfppgjabembaaGreatDoor

namespace Go.Proofs.YtggfppgjabembaaGreatDoor
open Go.RowKit Go.Proofs.YtggfppgjabembaaGreatDoorW.PrintLast
set_option linter.unusedVariables false
set_option linter.unusedSimpArgs false
theorem side_sz {a b : Pt} {n : Nat} {x y : Rat} (fa : FinP a) (fb : FinP b) (sx : Sz n x) (sy : Sz n y) : Sz (2 * n + 10000) (area2 (pl a) (pl b) (x, y)) := by
  have a1 := fval_sz fa.1
  have a2 := fval_sz fa.2
  have b1 := fval_sz fb.1
  have b2 := fval_sz fb.2
  exact (((b1.sub a1).mul (sy.sub a2)).sub ((b2.sub a2).mul (sx.sub a1))).mono (by omega)
set_option maxRecDepth 100000 in
set_option maxHeartbeats 3200000 in
theorem lSide (a b : Pt) (A B C D : Option Addr) (lo up m : Nat) (x y : Rat) (w : World) (fa : FinP a) (fb : FinP b) (hx : RatIn lo up w A B x) (hy : RatIn lo up w C D y) (hu : up ≤ w.heap.size) (sx : Sz m x) (sy : Sz m y) (hm : m ≤ 100000) :
    Calls Tryz.prog 19 #[pt a, pt b, qv A B x, qv C D y] w fun e w' => ∃ E F, e = .returned (.tuple #[qv E F (area2 (pl a) (pl b) (x, y)), .bool true]) ∧ RatFresh w.heap.size w' E F (area2 (pl a) (pl b) (x, y)) ∧ Below w.heap.size w w' := by
  have HAr : Hid (area2 (pl a) (pl b) (x, y) = (fval b.1 - fval a.1) * (y - fval a.2) - (fval b.2 - fval a.2) * (x - fval a.1)) := Lib.hid rfl
  rw [HAr.out]
  clear HAr
  have V1 := Lib.hid (fun wz => vValue a.1 wz fa.1)
  have V2 := Lib.hid (fun wz => vValue a.2 wz fa.2)
  have V3 := Lib.hid (fun wz => vValue b.1 wz fb.1)
  have V4 := Lib.hid (fun wz => vValue b.2 wz fb.2)
  have s1 := fval_sz fa.1
  have s2 := fval_sz fa.2
  have s3 := fval_sz fb.1
  have s4 := fval_sz fb.2
  generalize fval a.1 = ax at *
  generalize fval a.2 = ay at *
  generalize fval b.1 = bx at *
  generalize fval b.2 = bY at *
  have t1 := s3.sub s1
  have t2 := s4.sub s2
  have t3 := sx.sub s1
  have t4 := sy.sub s2
  have O1 := Lib.hid (fun A B C D lo up wz hp hq hu => rSubQ A B C D lo up _ _ bx ax wz hp hq hu s3 s1 (by omega))
  have O2 := Lib.hid (fun A B C D lo up wz hp hq hu => rSubQ A B C D lo up _ _ bY ay wz hp hq hu s4 s2 (by omega))
  have O3 := Lib.hid (fun A B C D lo up wz hp hq hu => rSubQ A B C D lo up _ _ x ax wz hp hq hu sx s1 (by omega))
  have O4 := Lib.hid (fun A B C D lo up wz hp hq hu => rSubQ A B C D lo up _ _ y ay wz hp hq hu sy s2 (by omega))
  generalize bx - ax = ux at *
  generalize bY - ay = uy at *
  generalize x - ax = vx at *
  generalize y - ay = vy at *
  have r1 := t1.mul t4
  have r2 := t2.mul t3
  have O5 := Lib.hid (fun A B C D lo up wz hp hq hu => rMulQ A B C D lo up _ _ ux vy wz hp hq hu t1 t4 (by omega))
  have O6 := Lib.hid (fun A B C D lo up wz hp hq hu => rMulQ A B C D lo up _ _ uy vx wz hp hq hu t2 t3 (by omega))
  generalize ux * vy = p at *
  generalize uy * vx = q at *
  have O7 := Lib.hid (fun A B C D lo up wz hp hq hu => rSubQ A B C D lo up _ _ p q wz hp hq hu r1 r2 (by omega))
  generalize p - q = r at *
  clear s1 s2 s3 s4 t1 t2 t3 t4 r1 r2 sx sy
  have hmm : Mem w.heap.size w (((((w.alloc (.cells #[.int .u64 a.1, .int .u64 a.2] 24)).alloc (.cells #[.int .u64 b.1, .int .u64 b.2] 24)).alloc (.cells #[.bool (decide (x.num < 0)), .slice A (qn x).length (qn x).length, .slice B (qd x).length (qd x).length] 45)).alloc (.cells #[.bool (decide (y.num < 0)), .slice C (qn y).length (qn y).length, .slice D (qd y).length (qd y).length] 45)).alloc (.cells #[.bool false, .slice none 0 0, .slice none 0 0] 45)) _ _ :=
    (((((Mem.start w).alloc (po a)).alloc (po b)).alloc (qo A B x)).alloc (qo C D y)).alloc (.cells #[.bool false, .slice none 0 0, .slice none 0 0] 45 (0, 0))
  have HX := Lib.hid (And.intro hx (And.intro hy hu))
  clear hx hy hu
  unfold qv pt
  go_enter Tryz.func19, Tryz.ntmps19
  go_upto_region 1 with (fail)
  generalize (World.alloc (World.alloc (World.alloc (World.alloc (World.alloc w _) _) _) _) _) = v at *
  simp only [World.size_alloc] at hmm
  have HM := Lib.hid hmm
  clear hmm
  obtain ⟨c0_0, c0_1, c0_2, c0_3⟩ := HM.out.prow 0 rfl
  have HK := Lib.hid (V1.out v)
  (try unfold qv at HK)
  (try unfold pt at HK)
  (try unfold mv at HK)
  ((try dsimp only); repeat (first | go_values | go_skip | go_guarded | go_step | go_upon))
  refine HK.out.mono ?_
  rintro e w0 ⟨E0, F0, rfl, hf, hb⟩
  have hm : Mem w.heap.size w (w0.alloc (.cells #[.bool (decide (ax.num < 0)), .slice E0 (qn ax).length (qn ax).length, .slice F0 (qd ax).length (qd ax).length] 45)) _ _ := (HM.out.call hf hb).alloc (qo E0 F0 ax)
  clear HK HM hb hf c0_0 c0_1 c0_2 c0_3
  go_upto_region 2 with (fail)
  generalize (World.alloc w0 _) = v0 at *
  have HM := Lib.hid hm
  clear hm
  obtain ⟨c0_0, c0_1, c0_2, c0_3⟩ := HM.out.prow 0 rfl
  have HK := Lib.hid (V2.out v0)
  (try unfold qv at HK)
  (try unfold pt at HK)
  (try unfold mv at HK)
  ((try dsimp only); repeat (first | go_values | go_skip | go_guarded | go_step | go_upon))
  refine HK.out.mono ?_
  rintro e w1 ⟨E1, F1, rfl, hf, hb⟩
  have hm : Mem w.heap.size w (w1.alloc (.cells #[.bool (decide (ay.num < 0)), .slice E1 (qn ay).length (qn ay).length, .slice F1 (qd ay).length (qd ay).length] 45)) _ _ := (HM.out.call hf hb).alloc (qo E1 F1 ay)
  clear HK HM hb hf c0_0 c0_1 c0_2 c0_3
  go_upto_region 3 with (fail)
  generalize (World.alloc w1 _) = v1 at *
  have HM := Lib.hid hm
  clear hm
  obtain ⟨c1_0, c1_1, c1_2, c1_3⟩ := HM.out.prow 1 rfl
  have HK := Lib.hid (V3.out v1)
  (try unfold qv at HK)
  (try unfold pt at HK)
  (try unfold mv at HK)
  ((try dsimp only); repeat (first | go_values | go_skip | go_guarded | go_step | go_upon))
  refine HK.out.mono ?_
  rintro e w2 ⟨E2, F2, rfl, hf, hb⟩
  have hm : Mem w.heap.size w (w2.alloc (.cells #[.bool (decide (bx.num < 0)), .slice E2 (qn bx).length (qn bx).length, .slice F2 (qd bx).length (qd bx).length] 45)) _ _ := (HM.out.call hf hb).alloc (qo E2 F2 bx)
  clear HK HM hb hf c1_0 c1_1 c1_2 c1_3
  go_upto_region 4 with (fail)
  generalize (World.alloc w2 _) = v2 at *
  have HM := Lib.hid hm
  clear hm
  obtain ⟨c1_0, c1_1, c1_2, c1_3⟩ := HM.out.prow 1 rfl
  have HK := Lib.hid (V4.out v2)
  (try unfold qv at HK)
  (try unfold pt at HK)
  (try unfold mv at HK)
  ((try dsimp only); repeat (first | go_values | go_skip | go_guarded | go_step | go_upon))
  refine HK.out.mono ?_
  rintro e w3 ⟨E3, F3, rfl, hf, hb⟩
  have hm : Mem w.heap.size w (w3.alloc (.cells #[.bool (decide (bY.num < 0)), .slice E3 (qn bY).length (qn bY).length, .slice F3 (qd bY).length (qd bY).length] 45)) _ _ := (HM.out.call hf hb).alloc (qo E3 F3 bY)
  clear HK HM hb hf c1_0 c1_1 c1_2 c1_3
  go_upto_region 7 with (fail)
  generalize (World.alloc w3 _) = v3 at *
  have HM := Lib.hid hm
  clear hm
  obtain ⟨c7_0, c7_1, c7_2, c7_3, c7_4, c7_5⟩ := HM.out.qrow 7 rfl
  obtain ⟨c5_0, c5_1, c5_2, c5_3, c5_4, c5_5⟩ := HM.out.qrow 5 rfl
  have HK := Lib.hid (O1.out _ _ _ _ _ _ v3 (HM.out.ins 2 rfl) (HM.out.ins 0 rfl) (Nat.le_refl _))
  (try unfold qv at HK)
  (try unfold pt at HK)
  (try unfold mv at HK)
  ((try dsimp only); repeat (first | go_values | go_skip | go_guarded | go_step | go_upon))
  refine HK.out.mono ?_
  rintro e w4 ⟨E4, F4, rfl, hf, hb⟩
  have hm : Mem w.heap.size w (w4.alloc (.cells #[.bool (decide (ux.num < 0)), .slice E4 (qn ux).length (qn ux).length, .slice F4 (qd ux).length (qd ux).length] 45)) _ _ := (HM.out.call hf hb).alloc (qo E4 F4 ux)
  clear HK HM hb hf c7_0 c7_1 c7_2 c7_3 c7_4 c7_5 c5_0 c5_1 c5_2 c5_3 c5_4 c5_5
  go_upto_region 8 with (fail)
  generalize (World.alloc w4 _) = v4 at *
  have HM := Lib.hid hm
  clear hm
  obtain ⟨c8_0, c8_1, c8_2, c8_3, c8_4, c8_5⟩ := HM.out.qrow 8 rfl
  obtain ⟨c6_0, c6_1, c6_2, c6_3, c6_4, c6_5⟩ := HM.out.qrow 6 rfl
  have HK := Lib.hid (O2.out _ _ _ _ _ _ v4 (HM.out.ins 3 rfl) (HM.out.ins 1 rfl) (Nat.le_refl _))
  (try unfold qv at HK)
  (try unfold pt at HK)
  (try unfold mv at HK)
  ((try dsimp only); repeat (first | go_values | go_skip | go_guarded | go_step | go_upon))
  refine HK.out.mono ?_
  rintro e w5 ⟨E5, F5, rfl, hf, hb⟩
  have hm : Mem w.heap.size w (w5.alloc (.cells #[.bool (decide (uy.num < 0)), .slice E5 (qn uy).length (qn uy).length, .slice F5 (qd uy).length (qd uy).length] 45)) _ _ := (HM.out.call hf hb).alloc (qo E5 F5 uy)
  clear HK HM hb hf c8_0 c8_1 c8_2 c8_3 c8_4 c8_5 c6_0 c6_1 c6_2 c6_3 c6_4 c6_5
  go_upto_region 9 with (fail)
  generalize (World.alloc w5 _) = v5 at *
  have HM := Lib.hid hm
  clear hm
  obtain ⟨c2_0, c2_1, c2_2, c2_3, c2_4, c2_5⟩ := HM.out.qrow 2 rfl
  obtain ⟨c5_0, c5_1, c5_2, c5_3, c5_4, c5_5⟩ := HM.out.qrow 5 rfl
  have HK := Lib.hid (O3.out _ _ _ _ 0 _ v5 ((HM.out.arg HX.out.1 HX.out.2.2).wide (Nat.zero_le _) (Nat.le_refl _)) ((HM.out.ins 0 rfl).wide (Nat.zero_le _) (Nat.le_refl _)) (Nat.le_refl _))
  (try unfold qv at HK)
  (try unfold pt at HK)
  (try unfold mv at HK)
  ((try dsimp only); repeat (first | go_values | go_skip | go_guarded | go_step | go_upon))
  refine HK.out.mono ?_
  rintro e w6 ⟨E6, F6, rfl, hf, hb⟩
  have hm : Mem w.heap.size w (w6.alloc (.cells #[.bool (decide (vx.num < 0)), .slice E6 (qn vx).length (qn vx).length, .slice F6 (qd vx).length (qd vx).length] 45)) _ _ := (HM.out.call hf hb).alloc (qo E6 F6 vx)
  clear HK HM hb hf c2_0 c2_1 c2_2 c2_3 c2_4 c2_5 c5_0 c5_1 c5_2 c5_3 c5_4 c5_5
  go_upto_region 10 with (fail)
  generalize (World.alloc w6 _) = v6 at *
  have HM := Lib.hid hm
  clear hm
  obtain ⟨c3_0, c3_1, c3_2, c3_3, c3_4, c3_5⟩ := HM.out.qrow 3 rfl
  obtain ⟨c6_0, c6_1, c6_2, c6_3, c6_4, c6_5⟩ := HM.out.qrow 6 rfl
  have HK := Lib.hid (O4.out _ _ _ _ 0 _ v6 ((HM.out.arg HX.out.2.1 HX.out.2.2).wide (Nat.zero_le _) (Nat.le_refl _)) ((HM.out.ins 1 rfl).wide (Nat.zero_le _) (Nat.le_refl _)) (Nat.le_refl _))
  (try unfold qv at HK)
  (try unfold pt at HK)
  (try unfold mv at HK)
  ((try dsimp only); repeat (first | go_values | go_skip | go_guarded | go_step | go_upon))
  refine HK.out.mono ?_
  rintro e w7 ⟨E7, F7, rfl, hf, hb⟩
  have hm : Mem w.heap.size w (w7.alloc (.cells #[.bool (decide (vy.num < 0)), .slice E7 (qn vy).length (qn vy).length, .slice F7 (qd vy).length (qd vy).length] 45)) _ _ := (HM.out.call hf hb).alloc (qo E7 F7 vy)
  clear HK HM hb hf c3_0 c3_1 c3_2 c3_3 c3_4 c3_5 c6_0 c6_1 c6_2 c6_3 c6_4 c6_5
  go_upto_region 13 with (fail)
  generalize (World.alloc w7 _) = v7 at *
  have HM := Lib.hid hm
  clear hm
  obtain ⟨c9_0, c9_1, c9_2, c9_3, c9_4, c9_5⟩ := HM.out.qrow 9 rfl
  obtain ⟨c12_0, c12_1, c12_2, c12_3, c12_4, c12_5⟩ := HM.out.qrow 12 rfl
  have HK := Lib.hid (O5.out _ _ _ _ _ _ v7 (HM.out.ins 4 rfl) (HM.out.ins 7 rfl) (Nat.le_refl _))
  (try unfold qv at HK)
  (try unfold pt at HK)
  (try unfold mv at HK)
  ((try dsimp only); repeat (first | go_values | go_skip | go_guarded | go_step | go_upon))
  refine HK.out.mono ?_
  rintro e w8 ⟨E8, F8, rfl, hf, hb⟩
  have hm : Mem w.heap.size w (w8.alloc (.cells #[.bool (decide (p.num < 0)), .slice E8 (qn p).length (qn p).length, .slice F8 (qd p).length (qd p).length] 45)) _ _ := (HM.out.call hf hb).alloc (qo E8 F8 p)
  clear HK HM hb hf c9_0 c9_1 c9_2 c9_3 c9_4 c9_5 c12_0 c12_1 c12_2 c12_3 c12_4 c12_5
  go_upto_region 14 with (fail)
  generalize (World.alloc w8 _) = v8 at *
  have HM := Lib.hid hm
  clear hm
  obtain ⟨c10_0, c10_1, c10_2, c10_3, c10_4, c10_5⟩ := HM.out.qrow 10 rfl
  obtain ⟨c11_0, c11_1, c11_2, c11_3, c11_4, c11_5⟩ := HM.out.qrow 11 rfl
  have HK := Lib.hid (O6.out _ _ _ _ _ _ v8 (HM.out.ins 5 rfl) (HM.out.ins 6 rfl) (Nat.le_refl _))
  (try unfold qv at HK)
  (try unfold pt at HK)
  (try unfold mv at HK)
  ((try dsimp only); repeat (first | go_values | go_skip | go_guarded | go_step | go_upon))
  refine HK.out.mono ?_
  rintro e w9 ⟨E9, F9, rfl, hf, hb⟩
  have hm : Mem w.heap.size w (w9.alloc (.cells #[.bool (decide (q.num < 0)), .slice E9 (qn q).length (qn q).length, .slice F9 (qd q).length (qd q).length] 45)) _ _ := (HM.out.call hf hb).alloc (qo E9 F9 q)
  clear HK HM hb hf c10_0 c10_1 c10_2 c10_3 c10_4 c10_5 c11_0 c11_1 c11_2 c11_3 c11_4 c11_5
  go_upto_region 17 with (fail)
  generalize (World.alloc w9 _) = v9 at *
  have HM := Lib.hid hm
  clear hm
  obtain ⟨c13_0, c13_1, c13_2, c13_3, c13_4, c13_5⟩ := HM.out.qrow 13 rfl
  obtain ⟨c14_0, c14_1, c14_2, c14_3, c14_4, c14_5⟩ := HM.out.qrow 14 rfl
  have HK := Lib.hid (O7.out _ _ _ _ _ _ v9 (HM.out.ins 8 rfl) (HM.out.ins 9 rfl) (Nat.le_refl _))
  (try unfold qv at HK)
  (try unfold pt at HK)
  (try unfold mv at HK)
  ((try dsimp only); repeat (first | go_values | go_skip | go_guarded | go_step | go_upon))
  refine HK.out.mono ?_
  rintro e w10 ⟨E10, F10, rfl, hf, hb⟩
  have hm : Mem w.heap.size w (w10.alloc (.cells #[.bool (decide (r.num < 0)), .slice E10 (qn r).length (qn r).length, .slice F10 (qd r).length (qd r).length] 45)) _ _ := (HM.out.call hf hb).alloc (qo E10 F10 r)
  clear HK HM hb hf c13_0 c13_1 c13_2 c13_3 c13_4 c13_5 c14_0 c14_1 c14_2 c14_3 c14_4 c14_5
  go_upto_region 18 with (fail)
  generalize (World.alloc w10 _) = v10 at *
  have HM := Lib.hid hm
  clear hm
  obtain ⟨c15_0, c15_1, c15_2, c15_3, c15_4, c15_5⟩ := HM.out.qrow 15 rfl
  obtain ⟨c4_0, c4_1, c4_2, c4_3, c4_4, c4_5⟩ := row3 (HM.out.l 4 _ _ rfl)
  ((try dsimp only); repeat (first | go_values | go_skip | go_guarded | go_step | go_upon))
  have hg := heap_set_three (HM.out.l 4 _ _ rfl) (.bool (decide (r.num < 0))) (.slice E10 (qn r).length (qn r).length) (.slice F10 (qd r).length (qd r).length)
  refine bodyPost_ret (results_row_tmp rfl _ _ (w.heap.size + 1 + 1 + 1 + 1) _ _ _ _ rfl hg rfl rfl rfl) rfl ?_
  have hl := HM.out
  have g0 : ∀ k, w.heap.size + k ≠ w.heap.size + k + 1 := by intro k; omega
  refine ⟨E10, F10, rfl, ?_, (((hl.b.setCell (by show _ ≤ w.heap.size + 1 + 1 + 1 + 1; omega) _).setCell (by show _ ≤ w.heap.size + 1 + 1 + 1 + 1; omega) _).setCell (by show _ ≤ w.heap.size + 1 + 1 + 1 + 1; omega) _)⟩
  exact (hl.r 10 _ _ _ rfl).off3 (hl.l 4 _ _ rfl) (by decide) _ _ _
end Go.Proofs.YtggfppgjabembaaGreatDoor

namespace Go.Proofs.YtggfppgjabembaaGreatDoor
open Go.RowKit Go.Proofs.YtggfppgjabembaaGreatDoorW.PrintLast
set_option linter.unusedVariables false
set_option linter.unusedSimpArgs false
def CL (n : Nat) (a b c d : Pt) : List (Nat × Obj) := [(n, po a), (n + 1, po b), (n + 1 + 1, po c), (n + 1 + 1 + 1, po d), (n + 1 + 1 + 1 + 1, .cells #[.bool false, .slice none 0 0, .slice none 0 0] 45 (0, 0)), (n + 1 + 1 + 1 + 1 + 1, .cells #[.bool false, .slice none 0 0, .slice none 0 0] 45 (0, 0))]
def z4 : Obj := .cells #[.int .u64 0, .int .u64 0, .int .u64 0, .int .u64 0] 80 (0, 0)
structure CsI (w0 : World) (n : Nat) (a b c d : Pt) (o1 o2 : Option Nat) (w : World) : Prop where
  h : Mem n w0 w (CL n a b c d) []
  r1 : ∀ g, o1 = some g → n + 6 ≤ g ∧ w.heap[g]? = some z4
  r2 : ∀ g, o2 = some g → n + 6 ≤ g ∧ w.heap[g]? = some z4
  d : ∀ g g', o1 = some g → o2 = some g' → g ≠ g'
theorem CL_size {w0 w : World} {n : Nat} {a b c d : Pt} {R : List (Option Addr × Option Addr × Rat)} (h : Mem n w0 w (CL n a b c d) R) : n + 6 ≤ w.heap.size := h.lt 5 rfl
section
variable {w0 w w' : World} {n : Nat} {a b c d : Pt} {o1 o2 : Option Nat}
theorem CsI.keep (h : CsI w0 n a b c d o1 o2 w) (k : Below w.heap.size w w') : CsI w0 n a b c d o1 o2 w' :=
  ⟨h.h.keep k, fun g e => ⟨(h.r1 g e).1, (k.block _ (heap_lt (h.r1 g e).2)).trans (h.r1 g e).2⟩, fun g e => ⟨(h.r2 g e).1, (k.block _ (heap_lt (h.r2 g e).2)).trans (h.r2 g e).2⟩, h.d⟩
theorem Mem.bare {L : List (Nat × Obj)} {R : List (Option Addr × Option Addr × Rat)} (h : Mem n w0 w L R) (o : Obj) : Mem n w0 (w.alloc o) L R := h.keep ((Below.refl _ _).alloc (Nat.le_refl _) o)
theorem CsI.box1 (h : CsI w0 n a b c d o1 o2 w) : CsI w0 n a b c d (some w.heap.size) o2 (w.alloc (.cells #[.int .u64 0, .int .u64 0, .int .u64 0, .int .u64 0] 80)) :=
  have q := h.keep ((Below.refl _ _).alloc (Nat.le_refl _) (.cells #[.int .u64 0, .int .u64 0, .int .u64 0, .int .u64 0] 80))
  ⟨q.h, fun g e => by cases e; exact ⟨CL_size h.h, alloc_new _ _⟩, q.r2, fun g g' e e' => by cases e; exact (Nat.ne_of_lt (heap_lt (h.r2 g' e').2)).symm⟩
theorem CsI.box2 (h : CsI w0 n a b c d o1 o2 w) : CsI w0 n a b c d o1 (some w.heap.size) (w.alloc (.cells #[.int .u64 0, .int .u64 0, .int .u64 0, .int .u64 0] 80)) :=
  have q := h.keep ((Below.refl _ _).alloc (Nat.le_refl _) (.cells #[.int .u64 0, .int .u64 0, .int .u64 0, .int .u64 0] 80))
  ⟨q.h, q.r1, fun g e => by cases e; exact ⟨CL_size h.h, alloc_new _ _⟩, fun g g' e e' => by cases e'; exact Nat.ne_of_lt (heap_lt (h.r1 g e).2)⟩
theorem CsI.all {g1 g2 : Nat} (h : CsI w0 n a b c d (some g1) (some g2) w) : Mem n w0 w (CL n a b c d ++ [(g1, z4), (g2, z4)]) [] ∧ n + 6 ≤ g1 ∧ n + 6 ≤ g2 ∧ g1 ≠ g2 := by
  refine ⟨⟨h.h.b, h.h.z, fun i g o e => ?_, h.h.r⟩, (h.r1 _ rfl).1, (h.r2 _ rfl).1, h.d _ _ rfl rfl⟩
  match i, e with
  | 0, e => exact h.h.l 0 g o e
  | 1, e => exact h.h.l 1 g o e
  | 2, e => exact h.h.l 2 g o e
  | 3, e => exact h.h.l 3 g o e
  | 4, e => exact h.h.l 4 g o e
  | 5, e => exact h.h.l 5 g o e
  | 6, e => cases e; exact (h.r1 _ rfl).2
  | 7, e => cases e; exact (h.r2 _ rfl).2
def setFour (g : Nat) (x y z u : Value) (w : World) : World := (((w.setCell ⟨g, 0, none⟩ x).setCell ⟨g, 1, none⟩ y).setCell ⟨g, 2, none⟩ z).setCell ⟨g, 3, none⟩ u
theorem four_at {g : Nat} {p q r s : Value} {t : TypeId} (h : w.heap[g]? = some (.cells #[p, q, r, s] t (0, 0))) (x y z u : Value) : (setFour g x y z u w).heap[g]? = some (.cells #[x, y, z, u] t (0, 0)) :=
  heap_set_cell (heap_set_cell (heap_set_cell (heap_set_cell h 0 x) 1 y) 2 z) 3 u
theorem Mem.four {L : List (Nat × Obj)} {R : List (Option Addr × Option Addr × Rat)} (h : Mem n w0 w L R) (i : Nat) {g : Nat} {p q r s : Value} {t : TypeId} (e : L[i]? = some (g, .cells #[p, q, r, s] t (0, 0))) (ht : t ≠ 22) (hn : n ≤ g) (hd : ∀ (j : Nat) (o' : Obj), L[j]? = some (g, o') → j = i) (x y z u : Value) :
    Mem n w0 (setFour g x y z u w) (L.set i (g, .cells #[x, y, z, u] t (0, 0))) R :=
  h.setOther i e ht hn ((((h.b.setCell hn _).setCell hn _).setCell hn _).setCell hn _) (by unfold setFour; rw [setCell_size, setCell_size, setCell_size, setCell_size]) (four_at (h.l i g _ e) x y z u)
    (fun j hj => by unfold setFour; rw [Below.heap_setCell _ _ _ _ hj, Below.heap_setCell _ _ _ _ hj, Below.heap_setCell _ _ _ _ hj, Below.heap_setCell _ _ _ _ hj]) hd
theorem idx8 {g1 g2 : Nat} {o0 o1 o2 o3 o4 o5 o6 o7 : Obj} (h1 : n + 6 ≤ g1) (h2 : n + 6 ≤ g2) (h3 : g1 ≠ g2) (i j : Nat) (g : Nat) (o o' : Obj) (e : [(n, o0), (n + 1, o1), (n + 1 + 1, o2), (n + 1 + 1 + 1, o3), (n + 1 + 1 + 1 + 1, o4), (n + 1 + 1 + 1 + 1 + 1, o5), (g1, o6), (g2, o7)][i]? = some (g, o))
    (e' : [(n, o0), (n + 1, o1), (n + 1 + 1, o2), (n + 1 + 1 + 1, o3), (n + 1 + 1 + 1 + 1, o4), (n + 1 + 1 + 1 + 1 + 1, o5), (g1, o6), (g2, o7)][j]? = some (g, o')) : j = i := by
  have hi : i < 8 := (List.getElem?_eq_some_iff.1 e).1
  have hj : j < 8 := (List.getElem?_eq_some_iff.1 e').1
  match i, hi, e with
  | 0, _, e => cases e; match j, hj, e' with | 0, _, _ => rfl | 1, _, e' | 2, _, e' | 3, _, e' | 4, _, e' | 5, _, e' | 6, _, e' | 7, _, e' => first | (simp at e'; done) | (simp at e'; omega)
  | 1, _, e => cases e; match j, hj, e' with | 1, _, _ => rfl | 0, _, e' | 2, _, e' | 3, _, e' | 4, _, e' | 5, _, e' | 6, _, e' | 7, _, e' => first | (simp at e'; done) | (simp at e'; omega)
  | 2, _, e => cases e; match j, hj, e' with | 2, _, _ => rfl | 0, _, e' | 1, _, e' | 3, _, e' | 4, _, e' | 5, _, e' | 6, _, e' | 7, _, e' => first | (simp at e'; done) | (simp at e'; omega)
  | 3, _, e => cases e; match j, hj, e' with | 3, _, _ => rfl | 0, _, e' | 1, _, e' | 2, _, e' | 4, _, e' | 5, _, e' | 6, _, e' | 7, _, e' => first | (simp at e'; done) | (simp at e'; omega)
  | 4, _, e => cases e; match j, hj, e' with | 4, _, _ => rfl | 0, _, e' | 1, _, e' | 2, _, e' | 3, _, e' | 5, _, e' | 6, _, e' | 7, _, e' => first | (simp at e'; done) | (simp at e'; omega)
  | 5, _, e => cases e; match j, hj, e' with | 5, _, _ => rfl | 0, _, e' | 1, _, e' | 2, _, e' | 3, _, e' | 4, _, e' | 6, _, e' | 7, _, e' => first | (simp at e'; done) | (simp at e'; omega)
  | 6, _, e => cases e; match j, hj, e' with | 6, _, _ => rfl | 0, _, e' | 1, _, e' | 2, _, e' | 3, _, e' | 4, _, e' | 5, _, e' | 7, _, e' => first | (simp at e'; done) | (simp at e'; omega)
  | 7, _, e => cases e; match j, hj, e' with | 7, _, _ => rfl | 0, _, e' | 1, _, e' | 2, _, e' | 3, _, e' | 4, _, e' | 5, _, e' | 6, _, e' => first | (simp at e'; done) | (simp at e'; omega)
end
theorem results_rows_tmp {P : Program} {fn : Func} {p p' u : Tmp} {ty ty' : TypeId} (h : fn.results = #[.cell p ty, .cell p' ty', .tmp u]) (tmps : Array Value) (w : World) (g g' : Nat) (t : TypeId) (cs : Array Value) (fr : Nat × Nat) (d : TypeDesc) (t' : TypeId) (cs' : Array Value) (fr' : Nat × Nat) (d' : TypeDesc)
    (hp : tmps.getD p undef = .pointer (some ⟨g, 0, none⟩)) (hp' : tmps.getD p' undef = .pointer (some ⟨g', 0, none⟩)) (hg : w.heap[g]? = some (.cells cs t fr)) (hg' : w.heap[g']? = some (.cells cs' t' fr'))
    (hu : P.underlying ty = some d) (hd : (match d with | .struct _ | .array _ _ => true | _ => false) = true) (hi : (P.info? ty).map (·.size) = some cs.size)
    (hu' : P.underlying ty' = some d') (hd' : (match d' with | .struct _ | .array _ _ => true | _ => false) = true) (hi' : (P.info? ty').map (·.size) = some cs'.size) :
    (results fn tmps).run P w = .ok (.tuple #[.agg cs, .agg cs', tmps.getD u undef]) w := by
  have h1 : tmps[p]?.getD undef = .pointer (some ⟨g, 0, none⟩) := by simpa using hp
  have h2 : tmps[p']?.getD undef = .pointer (some ⟨g', 0, none⟩) := by simpa using hp'
  simp [results, h, h1, h2, asAddr, run_loadVar_row w g t ty cs fr d hg hu hd hi, run_loadVar_row w g' t' ty' cs' fr' d' hg' hu' hd' hi']
def CsL (n : Nat) (a b c d : Pt) (g1 g2 : Nat) : List (Nat × Obj) := [(n, po a), (n + 1, po b), (n + 1 + 1, po c), (n + 1 + 1 + 1, po d), (n + 1 + 1 + 1 + 1, .cells #[.bool false, .slice none 0 0, .slice none 0 0] 45 (0, 0)), (n + 1 + 1 + 1 + 1 + 1, .cells #[.bool false, .slice none 0 0, .slice none 0 0] 45 (0, 0)), (g1, .cells #[.int .u64 (zp a).1, .int .u64 (zp a).2, .int .u64 (zp b).1, .int .u64 (zp b).2] 80 (0, 0)), (g2, .cells #[.int .u64 (zp c).1, .int .u64 (zp c).2, .int .u64 (zp d).1, .int .u64 (zp d).2] 80 (0, 0))]
def CkL (n : Nat) (a b c d : Pt) (g : Nat) (E1 F1 E2 F2 : Option Addr) (C : Pl) : List (Nat × Obj) := [(n, po a), (n + 1, po b), (n + 1 + 1, po c), (n + 1 + 1 + 1, po d), (n + 1 + 1 + 1 + 1, .cells #[.bool false, .slice none 0 0, .slice none 0 0] 45 (0, 0)), (n + 1 + 1 + 1 + 1 + 1, .cells #[.bool false, .slice none 0 0, .slice none 0 0] 45 (0, 0)), (g, qo E1 F1 C.1), (g + 1, qo E2 F2 C.2)]
set_option maxRecDepth 100000 in
set_option maxHeartbeats 6400000 in
theorem lCrossIn (a b c d : Pt) (w : World) (fa : FinP a) (fb : FinP b) (fc : FinP c) (fd : FinP d) :
    Calls Tryz.prog 17 #[pt a, pt b, pt c, pt d] w fun e w' => (turnR (pl a) (pl b) (pl c) (pl d) = 0 → e = .returned (.tuple #[.agg #[.bool false, .slice none 0 0, .slice none 0 0], .agg #[.bool false, .slice none 0 0, .slice none 0 0], .int .i64 230])) ∧
      (turnR (pl a) (pl b) (pl c) (pl d) ≠ 0 → ∃ A B C D, e = .returned (.tuple #[qv A B (crR (pl a) (pl b) (pl c) (pl d)).1, qv C D (crR (pl a) (pl b) (pl c) (pl d)).2, .int .i64 0]) ∧ RatFresh w.heap.size w' A B (crR (pl a) (pl b) (pl c) (pl d)).1 ∧ RatFresh w.heap.size w' C D (crR (pl a) (pl b) (pl c) (pl d)).2 ∧ Sz 30000 (crR (pl a) (pl b) (pl c) (pl d)).1 ∧ Sz 30000 (crR (pl a) (pl b) (pl c) (pl d)).2) ∧ Below w.heap.size w w' := by
  have HA := Lib.hid (fun (p : Pt) wz => sAt p wz)
  have z : ∀ p : Pt, FinP p → FinP (zp p) := fun p h => ⟨zed_fin h.1, zed_fin h.2⟩
  have HW1 := Lib.hid (fun wz => sWay (zp a) (zp b) wz (z _ fa) (z _ fb))
  have HW2 := Lib.hid (fun wz => sWay (zp c) (zp d) wz (z _ fc) (z _ fd))
  have HX := Lib.hid (fun wz => crossC (zp a) (zp b) (zp c) (zp d) wz (z _ fa) (z _ fb) (z _ fc) (z _ fd))
  rw [pl_zp, pl_zp] at HW1 HW2
  rw [pl_zp, pl_zp, pl_zp, pl_zp] at HX
  have hfi : ∀ p ∈ [a, b, c, d], FinP p := by intro p h; simp at h; rcases h with rfl | rfl | rfl | rfl <;> assumption
  have HFI := Lib.hid (fun wz g hp hb => sFinite g 0 [a, b, c, d] wz hp hb (by simp) hfi)
  have s2 := (pl_sz fb).sub (pl_sz fa)
  have s3 := (pl_sz fd).sub (pl_sz fc)
  have s9 := turn_sz s2 s3
  have HT := Lib.hid (fun A B C D A2 B2 C2 D2 wz hu hv => vTurn A B C D A2 B2 C2 D2 0 wz.heap.size (1075 + 1075 + 1) (1075 + 1075 + 1) ((pl b).1 - (pl a).1, (pl b).2 - (pl a).2) ((pl d).1 - (pl c).1, (pl d).2 - (pl c).2) wz hu hv (Nat.le_refl _) s2 s3 (by omega))
  have HS := Lib.hid (fun A B wz hu => rSignQ A B 0 wz.heap.size _ wz hu (Nat.le_refl _) (s9.lens (by omega)).1)
  have eT : ((pl b).1 - (pl a).1) * ((pl d).2 - (pl c).2) - ((pl b).2 - (pl a).2) * ((pl d).1 - (pl c).1) = turnR (pl a) (pl b) (pl c) (pl d) := rfl
  simp only [eT] at HT HS
  clear s2 s3 s9 eT z
  generalize ((pl b).1 - (pl a).1, (pl b).2 - (pl a).2) = X1 at *
  generalize ((pl d).1 - (pl c).1, (pl d).2 - (pl c).2) = X2 at *
  generalize turnR (pl a) (pl b) (pl c) (pl d) = T at *
  generalize crR (pl a) (pl b) (pl c) (pl d) = C at *
  have hm0 := ((((((Mem.start w).alloc (po a)).alloc (po b)).alloc (po c)).alloc (po d)).alloc (.cells #[.bool false, .slice none 0 0, .slice none 0 0] 45 (0, 0))).alloc (.cells #[.bool false, .slice none 0 0, .slice none 0 0] 45 (0, 0))
  simp only [World.size_alloc] at hm0
  have hm1 : Mem w.heap.size w ((((((w.alloc (.cells #[.int .u64 a.1, .int .u64 a.2] 24)).alloc (.cells #[.int .u64 b.1, .int .u64 b.2] 24)).alloc (.cells #[.int .u64 c.1, .int .u64 c.2] 24)).alloc (.cells #[.int .u64 d.1, .int .u64 d.2] 24)).alloc (.cells #[.bool false, .slice none 0 0, .slice none 0 0] 45)).alloc (.cells #[.bool false, .slice none 0 0, .slice none 0 0] 45)) (CL w.heap.size a b c d) [] := hm0
  have HM := Lib.hid hm1
  clear hm0 hm1
  unfold pt st at *
  go_enter Tryz.func17, Tryz.ntmps17
  go_upto_region 1 with (fail)
  generalize (World.alloc (World.alloc (World.alloc (World.alloc (World.alloc (World.alloc w _) _) _) _) _) _) = v at *
  obtain ⟨c00, c01, _⟩ := HM.out.prow 0 rfl
  obtain ⟨c10, c11, _⟩ := HM.out.prow 1 rfl
  obtain ⟨c20, c21, _⟩ := HM.out.prow 2 rfl
  obtain ⟨c30, c31, _⟩ := HM.out.prow 3 rfl
  ((try dsimp only); repeat (first | go_values | go_skip | go_guarded | go_step | go_upon))
  have hm := HM.out.alloc (.cells #[.int .u64 a.1, .int .u64 a.2, .int .u64 b.1, .int .u64 b.2, .int .u64 c.1, .int .u64 c.2, .int .u64 d.1, .int .u64 d.2] 24)
  have hb0 := HM.out.bare (.cells #[.int .u64 a.1, .int .u64 a.2, .int .u64 b.1, .int .u64 b.2, .int .u64 c.1, .int .u64 c.2, .int .u64 d.1, .int .u64 d.2] 24)
  have hp := pts4 (hm.l 6 _ _ rfl)
  have hlt := hm.lt 6 rfl
  clear hm HM c00 c01 c10 c11 c20 c21 c30 c31
  generalize (World.alloc v _) = v1 at *
  refine (HFI.out _ _ hp hlt).mono ?_
  rintro e wb ⟨rfl, hb⟩
  have HM := Lib.hid (hb0.keep hb)
  clear hb0 hb hp hlt HFI
  go_upto_region 3 with (fail)
  have hSd := HM.out.drew
  clear HM
  refine start_ (n := 14) (S := fun w' => Mem w.heap.size w w' (CL w.heap.size a b c d) []) (ds := [12, 13]) #[false, false, false, false, false, false, false, false, false, false, false, false, false, false] (by kernel_rfl) rfl rfl (hSd) (fun hHeld => ?_)
  refine ld 0 24 ?_ ?_ rfl rfl (by kernel_rfl) (fun _ _ _ h => h) (by rfl) hHeld ?_ ?_ ?_; rotate_left 2
  · rintro w' hs
    obtain ⟨q0, q1, _⟩ := hs.prow 0 rfl
    obtain ⟨q2, q3, _⟩ := hs.prow 1 rfl
    obtain ⟨q4, q5, _⟩ := hs.prow 2 rfl
    obtain ⟨q6, q7, _⟩ := hs.prow 3 rfl
    clear hs
    go_simp; with_reducible rfl
  · simp only [pA, pB, pC, pD, i64_w, i32_w]; rfl
  refine ld 2 26 ?_ ?_ rfl rfl (by kernel_rfl) (fun _ _ _ h => h) (by rfl) hHeld ?_ ?_ ?_; rotate_left 2
  · rintro w' hs
    obtain ⟨q0, q1, _⟩ := hs.prow 0 rfl
    obtain ⟨q2, q3, _⟩ := hs.prow 1 rfl
    obtain ⟨q4, q5, _⟩ := hs.prow 2 rfl
    obtain ⟨q6, q7, _⟩ := hs.prow 3 rfl
    clear hs
    go_simp; with_reducible rfl
  · simp only [pA, pB, pC, pD, i64_w, i32_w]; rfl
  refine ld 5 29 ?_ ?_ rfl rfl (by kernel_rfl) (fun _ _ _ h => h) (by rfl) hHeld ?_ ?_ ?_; rotate_left 2
  · rintro w' hs
    obtain ⟨q0, q1, _⟩ := hs.prow 0 rfl
    obtain ⟨q2, q3, _⟩ := hs.prow 1 rfl
    obtain ⟨q4, q5, _⟩ := hs.prow 2 rfl
    obtain ⟨q6, q7, _⟩ := hs.prow 3 rfl
    clear hs
    go_simp; with_reducible rfl
  · simp only [pA, pB, pC, pD, i64_w, i32_w]; rfl
  refine ld 7 31 ?_ ?_ rfl rfl (by kernel_rfl) (fun _ _ _ h => h) (by rfl) hHeld ?_ ?_ ?_; rotate_left 2
  · rintro w' hs
    obtain ⟨q0, q1, _⟩ := hs.prow 0 rfl
    obtain ⟨q2, q3, _⟩ := hs.prow 1 rfl
    obtain ⟨q4, q5, _⟩ := hs.prow 2 rfl
    obtain ⟨q6, q7, _⟩ := hs.prow 3 rfl
    clear hs
    go_simp; with_reducible rfl
  · simp only [pA, pB, pC, pD, i64_w, i32_w]; rfl
  refine join_ (σ := Nat × Nat) 2 #[true, true, true, true, true, true, true, true, true, true, true, true, false, false] (fun s => [(25, .agg #[.int .u64 (zp a).1, .int .u64 (zp a).2]), (27, .agg #[.int .u64 (zp b).1, .int .u64 (zp b).2]), (28, .agg #[.int .u64 (zp a).1, .int .u64 (zp a).2, .int .u64 (zp b).1, .int .u64 (zp b).2]), (30, .agg #[.int .u64 (zp c).1, .int .u64 (zp c).2]), (32, .agg #[.int .u64 (zp d).1, .int .u64 (zp d).2]), (33, .agg #[.int .u64 (zp c).1, .int .u64 (zp c).2, .int .u64 (zp d).1, .int .u64 (zp d).2]), (11, .pointer (some ⟨s.1, 0, none⟩)), (12, .pointer (some ⟨s.2, 0, none⟩))]) (fun s w' => CsI w w.heap.size a b c d (some s.1) (some s.2) w') ?_ ?_
  rotate_left
  · intro J0
    refine join_ (σ := Nat × Nat) 3 #[true, true, true, true, true, true, true, true, true, true, true, false, false, false] (fun s => [(25, .agg #[.int .u64 (zp a).1, .int .u64 (zp a).2]), (27, .agg #[.int .u64 (zp b).1, .int .u64 (zp b).2]), (28, .agg #[.int .u64 (zp a).1, .int .u64 (zp a).2, .int .u64 (zp b).1, .int .u64 (zp b).2]), (30, .agg #[.int .u64 (zp c).1, .int .u64 (zp c).2]), (32, .agg #[.int .u64 (zp d).1, .int .u64 (zp d).2]), (33, .agg #[.int .u64 (zp c).1, .int .u64 (zp c).2, .int .u64 (zp d).1, .int .u64 (zp d).2]), (11, .pointer (some ⟨s.1, 0, none⟩))]) (fun s w' => CsI w w.heap.size a b c d (some s.1) none w') ?_ ?_
    · rintro ⟨g1, g2⟩ wj hF
      try dsimp only at hF ⊢
      refine nm ?_ ?_ ?_; rotate_left
      · simp only [putAll, pA, pB, pC, pD]
        rfl
      refine one_ (i := 11) (N := some 12) #[true, true, true, true, true, true, true, true, true, true, true, true, false, false] rfl rfl (by kernel_rfl) (by decide) ?_
      · intro K hK
        refine value_ (v := .pointer (some ⟨wj.heap.size, 0, none⟩)) (w1 := wj.alloc (.cells #[.int .u64 0, .int .u64 0, .int .u64 0, .int .u64 0] 80)) (by rfl) rfl ?_ ?_
        · go_simp; (try rfl)
        have hN := hF.box2
        refine hK.out _ _ (by exact hN.h) (fun hHeld => ?_)
        exact norm_ (by simp only [putAll, pA, pB, pC, pD]) (J0 (g1, wj.heap.size) _ hN)
    intro J1
    refine join_ (σ := Nat × Nat) 3 #[true, true, true, true, true, true, true, true, true, true, false, true, false, false] (fun s => [(25, .agg #[.int .u64 (zp a).1, .int .u64 (zp a).2]), (27, .agg #[.int .u64 (zp b).1, .int .u64 (zp b).2]), (28, .agg #[.int .u64 (zp a).1, .int .u64 (zp a).2, .int .u64 (zp b).1, .int .u64 (zp b).2]), (30, .agg #[.int .u64 (zp c).1, .int .u64 (zp c).2]), (32, .agg #[.int .u64 (zp d).1, .int .u64 (zp d).2]), (33, .agg #[.int .u64 (zp c).1, .int .u64 (zp c).2, .int .u64 (zp d).1, .int .u64 (zp d).2]), (12, .pointer (some ⟨s.2, 0, none⟩))]) (fun s w' => CsI w w.heap.size a b c d none (some s.2) w') ?_ ?_
    · rintro ⟨g1, g2⟩ wj hF
      try dsimp only at hF ⊢
      refine nm ?_ ?_ ?_; rotate_left
      · simp only [putAll, pA, pB, pC, pD]
        rfl
      refine one_ (i := 10) (N := some 11) #[true, true, true, true, true, true, true, true, true, true, true, true, false, false] rfl rfl (by kernel_rfl) (by decide) ?_
      · intro K hK
        refine value_ (v := .pointer (some ⟨wj.heap.size, 0, none⟩)) (w1 := wj.alloc (.cells #[.int .u64 0, .int .u64 0, .int .u64 0, .int .u64 0] 80)) (by rfl) rfl ?_ ?_
        · go_simp; (try rfl)
        have hN := hF.box1
        refine hK.out _ _ (by exact hN.h) (fun hHeld => ?_)
        exact norm_ (by simp only [putAll, pA, pB, pC, pD]) (J0 (wj.heap.size, g2) _ hN)
    intro J2
    refine join_ (σ := Nat × Nat) 3 #[true, true, true, true, true, true, true, true, true, false, true, true, false, false] (fun s => [(25, .agg #[.int .u64 (zp a).1, .int .u64 (zp a).2]), (27, .agg #[.int .u64 (zp b).1, .int .u64 (zp b).2]), (28, .agg #[.int .u64 (zp a).1, .int .u64 (zp a).2, .int .u64 (zp b).1, .int .u64 (zp b).2]), (30, .agg #[.int .u64 (zp c).1, .int .u64 (zp c).2]), (32, .agg #[.int .u64 (zp d).1, .int .u64 (zp d).2]), (11, .pointer (some ⟨s.1, 0, none⟩)), (12, .pointer (some ⟨s.2, 0, none⟩))]) (fun s w' => CsI w w.heap.size a b c d (some s.1) (some s.2) w') ?_ ?_
    · rintro ⟨g1, g2⟩ wj hF
      try dsimp only at hF ⊢
      refine nm ?_ ?_ ?_; rotate_left
      · simp only [putAll, pA, pB, pC, pD]
        rfl
      refine pure_ (i := 9) (N := some 33) (v := ?_) (a' := ?_) #[true, true, true, true, true, true, true, true, true, true, true, true, false, false] rfl rfl (by kernel_rfl) (fun _ _ _ h => h) (Or.inl ⟨by rfl, ?_⟩) ?_ ?_
      rotate_left
      · intro w'
        go_simp
        with_reducible rfl
      rotate_left
      · simp only [pA, pB, pC, pD, i64_w, i32_w]; rfl
      exact norm_ (by simp only [putAll, pA, pB, pC, pD]) (J0 (g1, g2) _ hF)
    intro J3
    refine join_ (σ := Nat × Nat) 4 #[true, true, true, true, true, true, true, true, true, true, false, false, false, false] (fun s => [(25, .agg #[.int .u64 (zp a).1, .int .u64 (zp a).2]), (27, .agg #[.int .u64 (zp b).1, .int .u64 (zp b).2]), (28, .agg #[.int .u64 (zp a).1, .int .u64 (zp a).2, .int .u64 (zp b).1, .int .u64 (zp b).2]), (30, .agg #[.int .u64 (zp c).1, .int .u64 (zp c).2]), (32, .agg #[.int .u64 (zp d).1, .int .u64 (zp d).2]), (33, .agg #[.int .u64 (zp c).1, .int .u64 (zp c).2, .int .u64 (zp d).1, .int .u64 (zp d).2])]) (fun s w' => CsI w w.heap.size a b c d none none w') ?_ ?_
    · rintro ⟨g1, g2⟩ wj hF
      try dsimp only at hF ⊢
      refine nm ?_ ?_ ?_; rotate_left
      · simp only [putAll, pA, pB, pC, pD]
        rfl
      refine two_ (i := 10) (j := 11) (Ni := some 11) (Nj := some 12) #[true, true, true, true, true, true, true, true, true, true, true, false, false, false] #[true, true, true, true, true, true, true, true, true, true, false, true, false, false] rfl rfl rfl rfl (by kernel_rfl) (by decide) (by decide) ?_ ?_
      · intro K hK
        refine value_ (v := .pointer (some ⟨wj.heap.size, 0, none⟩)) (w1 := wj.alloc (.cells #[.int .u64 0, .int .u64 0, .int .u64 0, .int .u64 0] 80)) (by rfl) rfl ?_ ?_
        · go_simp; (try rfl)
        have hN := hF.box1
        refine hK.out _ _ (by exact hN.h) (fun hHeld => ?_)
        exact norm_ (by simp only [putAll, pA, pB, pC, pD]) (J1 (wj.heap.size, g2) _ hN)
      · intro K hK
        refine value_ (v := .pointer (some ⟨wj.heap.size, 0, none⟩)) (w1 := wj.alloc (.cells #[.int .u64 0, .int .u64 0, .int .u64 0, .int .u64 0] 80)) (by rfl) rfl ?_ ?_
        · go_simp; (try rfl)
        have hN := hF.box2
        refine hK.out _ _ (by exact hN.h) (fun hHeld => ?_)
        exact norm_ (by simp only [putAll, pA, pB, pC, pD]) (J2 (g1, wj.heap.size) _ hN)
    intro J4
    refine join_ (σ := Nat × Nat) 4 #[true, true, true, true, true, true, true, true, true, false, true, false, false, false] (fun s => [(25, .agg #[.int .u64 (zp a).1, .int .u64 (zp a).2]), (27, .agg #[.int .u64 (zp b).1, .int .u64 (zp b).2]), (28, .agg #[.int .u64 (zp a).1, .int .u64 (zp a).2, .int .u64 (zp b).1, .int .u64 (zp b).2]), (30, .agg #[.int .u64 (zp c).1, .int .u64 (zp c).2]), (32, .agg #[.int .u64 (zp d).1, .int .u64 (zp d).2]), (11, .pointer (some ⟨s.1, 0, none⟩))]) (fun s w' => CsI w w.heap.size a b c d (some s.1) none w') ?_ ?_
    · rintro ⟨g1, g2⟩ wj hF
      try dsimp only at hF ⊢
      refine nm ?_ ?_ ?_; rotate_left
      · simp only [putAll, pA, pB, pC, pD]
        rfl
      refine pure_ (i := 9) (N := some 33) (v := ?_) (a' := ?_) #[true, true, true, true, true, true, true, true, true, true, true, false, false, false] rfl rfl (by kernel_rfl) (fun _ _ _ h => h) (Or.inl ⟨by rfl, ?_⟩) ?_ ?_
      rotate_left
      · intro w'
        go_simp
        with_reducible rfl
      rotate_left
      · simp only [pA, pB, pC, pD, i64_w, i32_w]; rfl
      exact norm_ (by simp only [putAll, pA, pB, pC, pD]) (J1 (g1, g2) _ hF)
    intro J5
    refine join_ (σ := Nat × Nat) 4 #[true, true, true, true, true, true, true, true, true, false, false, true, false, false] (fun s => [(25, .agg #[.int .u64 (zp a).1, .int .u64 (zp a).2]), (27, .agg #[.int .u64 (zp b).1, .int .u64 (zp b).2]), (28, .agg #[.int .u64 (zp a).1, .int .u64 (zp a).2, .int .u64 (zp b).1, .int .u64 (zp b).2]), (30, .agg #[.int .u64 (zp c).1, .int .u64 (zp c).2]), (32, .agg #[.int .u64 (zp d).1, .int .u64 (zp d).2]), (12, .pointer (some ⟨s.2, 0, none⟩))]) (fun s w' => CsI w w.heap.size a b c d none (some s.2) w') ?_ ?_
    · rintro ⟨g1, g2⟩ wj hF
      try dsimp only at hF ⊢
      refine nm ?_ ?_ ?_; rotate_left
      · simp only [putAll, pA, pB, pC, pD]
        rfl
      refine pure_ (i := 9) (N := some 33) (v := ?_) (a' := ?_) #[true, true, true, true, true, true, true, true, true, true, false, true, false, false] rfl rfl (by kernel_rfl) (fun _ _ _ h => h) (Or.inl ⟨by rfl, ?_⟩) ?_ ?_
      rotate_left
      · intro w'
        go_simp
        with_reducible rfl
      rotate_left
      · simp only [pA, pB, pC, pD, i64_w, i32_w]; rfl
      exact norm_ (by simp only [putAll, pA, pB, pC, pD]) (J2 (g1, g2) _ hF)
    intro J6
    refine join_ (σ := Nat × Nat) 4 #[true, true, true, true, true, true, true, true, false, false, true, true, false, false] (fun s => [(25, .agg #[.int .u64 (zp a).1, .int .u64 (zp a).2]), (27, .agg #[.int .u64 (zp b).1, .int .u64 (zp b).2]), (28, .agg #[.int .u64 (zp a).1, .int .u64 (zp a).2, .int .u64 (zp b).1, .int .u64 (zp b).2]), (30, .agg #[.int .u64 (zp c).1, .int .u64 (zp c).2]), (11, .pointer (some ⟨s.1, 0, none⟩)), (12, .pointer (some ⟨s.2, 0, none⟩))]) (fun s w' => CsI w w.heap.size a b c d (some s.1) (some s.2) w') ?_ ?_
    · rintro ⟨g1, g2⟩ wj hF
      try dsimp only at hF ⊢
      refine nm ?_ ?_ ?_; rotate_left
      · simp only [putAll, pA, pB, pC, pD]
        rfl
      refine one_ (i := 8) (N := some 32) #[true, true, true, true, true, true, true, true, true, false, true, true, false, false] rfl rfl (by kernel_rfl) (by decide) ?_
      · intro K hK
        refine goes_ Tryz.func36 (by kernel_rfl) rfl #[.agg #[.int .u64 d.1, .int .u64 d.2]] (by rfl) rfl rfl (by first | rfl | (simp [Act.eval]; done) | (simp [Act.eval]; done) | (go_simp; rfl)) ?_
        with_reducible refine (HA.out d _).mono ?_
        rintro e w' ⟨rfl, hb⟩
        refine ⟨_, rfl, ?_⟩
        have hN := hF.keep hb
        refine hK.out _ _ (by exact hN.h) (fun hHeld => ?_)
        exact norm_ (by simp only [putAll, pA, pB, pC, pD]) (J3 (g1, g2) _ hN)
    intro J7
    refine join_ (σ := Nat × Nat) 5 #[true, true, true, true, true, true, true, true, true, false, false, false, false, false] (fun s => [(25, .agg #[.int .u64 (zp a).1, .int .u64 (zp a).2]), (27, .agg #[.int .u64 (zp b).1, .int .u64 (zp b).2]), (28, .agg #[.int .u64 (zp a).1, .int .u64 (zp a).2, .int .u64 (zp b).1, .int .u64 (zp b).2]), (30, .agg #[.int .u64 (zp c).1, .int .u64 (zp c).2]), (32, .agg #[.int .u64 (zp d).1, .int .u64 (zp d).2])]) (fun s w' => CsI w w.heap.size a b c d none none w') ?_ ?_
    · rintro ⟨g1, g2⟩ wj hF
      try dsimp only at hF ⊢
      refine nm ?_ ?_ ?_; rotate_left
      · simp only [putAll, pA, pB, pC, pD]
        rfl
      refine pure_ (i := 9) (N := some 33) (v := ?_) (a' := ?_) #[true, true, true, true, true, true, true, true, true, true, false, false, false, false] rfl rfl (by kernel_rfl) (fun _ _ _ h => h) (Or.inl ⟨by rfl, ?_⟩) ?_ ?_
      rotate_left
      · intro w'
        go_simp
        with_reducible rfl
      rotate_left
      · simp only [pA, pB, pC, pD, i64_w, i32_w]; rfl
      exact norm_ (by simp only [putAll, pA, pB, pC, pD]) (J4 (g1, g2) _ hF)
    intro J8
    refine join_ (σ := Nat × Nat) 5 #[true, true, true, true, true, true, true, true, false, false, true, false, false, false] (fun s => [(25, .agg #[.int .u64 (zp a).1, .int .u64 (zp a).2]), (27, .agg #[.int .u64 (zp b).1, .int .u64 (zp b).2]), (28, .agg #[.int .u64 (zp a).1, .int .u64 (zp a).2, .int .u64 (zp b).1, .int .u64 (zp b).2]), (30, .agg #[.int .u64 (zp c).1, .int .u64 (zp c).2]), (11, .pointer (some ⟨s.1, 0, none⟩))]) (fun s w' => CsI w w.heap.size a b c d (some s.1) none w') ?_ ?_
    · rintro ⟨g1, g2⟩ wj hF
      try dsimp only at hF ⊢
      refine nm ?_ ?_ ?_; rotate_left
      · simp only [putAll, pA, pB, pC, pD]
        rfl
      refine two_ (i := 8) (j := 11) (Ni := some 32) (Nj := some 12) #[true, true, true, true, true, true, true, true, true, false, true, false, false, false] #[true, true, true, true, true, true, true, true, false, false, true, true, false, false] rfl rfl rfl rfl (by kernel_rfl) (by decide) (by decide) ?_ ?_
      · intro K hK
        refine goes_ Tryz.func36 (by kernel_rfl) rfl #[.agg #[.int .u64 d.1, .int .u64 d.2]] (by rfl) rfl rfl (by first | rfl | (simp [Act.eval]; done) | (simp [Act.eval]; done) | (go_simp; rfl)) ?_
        with_reducible refine (HA.out d _).mono ?_
        rintro e w' ⟨rfl, hb⟩
        refine ⟨_, rfl, ?_⟩
        have hN := hF.keep hb
        refine hK.out _ _ (by exact hN.h) (fun hHeld => ?_)
        exact norm_ (by simp only [putAll, pA, pB, pC, pD]) (J5 (g1, g2) _ hN)
      · intro K hK
        refine value_ (v := .pointer (some ⟨wj.heap.size, 0, none⟩)) (w1 := wj.alloc (.cells #[.int .u64 0, .int .u64 0, .int .u64 0, .int .u64 0] 80)) (by rfl) rfl ?_ ?_
        · go_simp; (try rfl)
        have hN := hF.box2
        refine hK.out _ _ (by exact hN.h) (fun hHeld => ?_)
        exact norm_ (by simp only [putAll, pA, pB, pC, pD]) (J7 (g1, wj.heap.size) _ hN)
    intro J9
    refine join_ (σ := Nat × Nat) 5 #[true, true, true, true, true, true, true, true, false, false, false, true, false, false] (fun s => [(25, .agg #[.int .u64 (zp a).1, .int .u64 (zp a).2]), (27, .agg #[.int .u64 (zp b).1, .int .u64 (zp b).2]), (28, .agg #[.int .u64 (zp a).1, .int .u64 (zp a).2, .int .u64 (zp b).1, .int .u64 (zp b).2]), (30, .agg #[.int .u64 (zp c).1, .int .u64 (zp c).2]), (12, .pointer (some ⟨s.2, 0, none⟩))]) (fun s w' => CsI w w.heap.size a b c d none (some s.2) w') ?_ ?_
    · rintro ⟨g1, g2⟩ wj hF
      try dsimp only at hF ⊢
      refine nm ?_ ?_ ?_; rotate_left
      · simp only [putAll, pA, pB, pC, pD]
        rfl
      refine two_ (i := 8) (j := 10) (Ni := some 32) (Nj := some 11) #[true, true, true, true, true, true, true, true, true, false, false, true, false, false] #[true, true, true, true, true, true, true, true, false, false, true, true, false, false] rfl rfl rfl rfl (by kernel_rfl) (by decide) (by decide) ?_ ?_
      · intro K hK
        refine goes_ Tryz.func36 (by kernel_rfl) rfl #[.agg #[.int .u64 d.1, .int .u64 d.2]] (by rfl) rfl rfl (by first | rfl | (simp [Act.eval]; done) | (simp [Act.eval]; done) | (go_simp; rfl)) ?_
        with_reducible refine (HA.out d _).mono ?_
        rintro e w' ⟨rfl, hb⟩
        refine ⟨_, rfl, ?_⟩
        have hN := hF.keep hb
        refine hK.out _ _ (by exact hN.h) (fun hHeld => ?_)
        exact norm_ (by simp only [putAll, pA, pB, pC, pD]) (J6 (g1, g2) _ hN)
      · intro K hK
        refine value_ (v := .pointer (some ⟨wj.heap.size, 0, none⟩)) (w1 := wj.alloc (.cells #[.int .u64 0, .int .u64 0, .int .u64 0, .int .u64 0] 80)) (by rfl) rfl ?_ ?_
        · go_simp; (try rfl)
        have hN := hF.box1
        refine hK.out _ _ (by exact hN.h) (fun hHeld => ?_)
        exact norm_ (by simp only [putAll, pA, pB, pC, pD]) (J7 (wj.heap.size, g2) _ hN)
    intro J10
    refine join_ (σ := Nat × Nat) 5 #[true, true, true, true, true, true, false, true, false, false, true, true, false, false] (fun s => [(25, .agg #[.int .u64 (zp a).1, .int .u64 (zp a).2]), (27, .agg #[.int .u64 (zp b).1, .int .u64 (zp b).2]), (28, .agg #[.int .u64 (zp a).1, .int .u64 (zp a).2, .int .u64 (zp b).1, .int .u64 (zp b).2]), (11, .pointer (some ⟨s.1, 0, none⟩)), (12, .pointer (some ⟨s.2, 0, none⟩))]) (fun s w' => CsI w w.heap.size a b c d (some s.1) (some s.2) w') ?_ ?_
    · rintro ⟨g1, g2⟩ wj hF
      try dsimp only at hF ⊢
      refine nm ?_ ?_ ?_; rotate_left
      · simp only [putAll, pA, pB, pC, pD]
        rfl
      refine one_ (i := 6) (N := some 30) #[true, true, true, true, true, true, true, true, false, false, true, true, false, false] rfl rfl (by kernel_rfl) (by decide) ?_
      · intro K hK
        refine goes_ Tryz.func36 (by kernel_rfl) rfl #[.agg #[.int .u64 c.1, .int .u64 c.2]] (by rfl) rfl rfl (by first | rfl | (simp [Act.eval]; done) | (simp [Act.eval]; done) | (go_simp; rfl)) ?_
        with_reducible refine (HA.out c _).mono ?_
        rintro e w' ⟨rfl, hb⟩
        refine ⟨_, rfl, ?_⟩
        have hN := hF.keep hb
        refine hK.out _ _ (by exact hN.h) (fun hHeld => ?_)
        exact norm_ (by simp only [putAll, pA, pB, pC, pD]) (J7 (g1, g2) _ hN)
    intro J11
    refine join_ (σ := Nat × Nat) 6 #[true, true, true, true, true, true, true, true, false, false, false, false, false, false] (fun s => [(25, .agg #[.int .u64 (zp a).1, .int .u64 (zp a).2]), (27, .agg #[.int .u64 (zp b).1, .int .u64 (zp b).2]), (28, .agg #[.int .u64 (zp a).1, .int .u64 (zp a).2, .int .u64 (zp b).1, .int .u64 (zp b).2]), (30, .agg #[.int .u64 (zp c).1, .int .u64 (zp c).2])]) (fun s w' => CsI w w.heap.size a b c d none none w') ?_ ?_
    · rintro ⟨g1, g2⟩ wj hF
      try dsimp only at hF ⊢
      refine nm ?_ ?_ ?_; rotate_left
      · simp only [putAll, pA, pB, pC, pD]
        rfl
      refine three_ (i := 8) (j := 10) (k := 11) (Ni := some 32) (Nj := some 11) (Nk := some 12) #[true, true, true, true, true, true, true, true, true, false, false, false, false, false] #[true, true, true, true, true, true, true, true, false, false, true, false, false, false] #[true, true, true, true, true, true, true, true, false, false, false, true, false, false] rfl rfl rfl rfl rfl rfl (by kernel_rfl) (by decide) (by decide) (by decide) ?_ ?_ ?_
      · intro K hK
        refine goes_ Tryz.func36 (by kernel_rfl) rfl #[.agg #[.int .u64 d.1, .int .u64 d.2]] (by rfl) rfl rfl (by first | rfl | (simp [Act.eval]; done) | (simp [Act.eval]; done) | (go_simp; rfl)) ?_
        with_reducible refine (HA.out d _).mono ?_
        rintro e w' ⟨rfl, hb⟩
        refine ⟨_, rfl, ?_⟩
        have hN := hF.keep hb
        refine hK.out _ _ (by exact hN.h) (fun hHeld => ?_)
        exact norm_ (by simp only [putAll, pA, pB, pC, pD]) (J8 (g1, g2) _ hN)
      · intro K hK
        refine value_ (v := .pointer (some ⟨wj.heap.size, 0, none⟩)) (w1 := wj.alloc (.cells #[.int .u64 0, .int .u64 0, .int .u64 0, .int .u64 0] 80)) (by rfl) rfl ?_ ?_
        · go_simp; (try rfl)
        have hN := hF.box1
        refine hK.out _ _ (by exact hN.h) (fun hHeld => ?_)
        exact norm_ (by simp only [putAll, pA, pB, pC, pD]) (J9 (wj.heap.size, g2) _ hN)
      · intro K hK
        refine value_ (v := .pointer (some ⟨wj.heap.size, 0, none⟩)) (w1 := wj.alloc (.cells #[.int .u64 0, .int .u64 0, .int .u64 0, .int .u64 0] 80)) (by rfl) rfl ?_ ?_
        · go_simp; (try rfl)
        have hN := hF.box2
        refine hK.out _ _ (by exact hN.h) (fun hHeld => ?_)
        exact norm_ (by simp only [putAll, pA, pB, pC, pD]) (J10 (g1, wj.heap.size) _ hN)
    intro J12
    refine join_ (σ := Nat × Nat) 6 #[true, true, true, true, true, true, false, true, false, false, true, false, false, false] (fun s => [(25, .agg #[.int .u64 (zp a).1, .int .u64 (zp a).2]), (27, .agg #[.int .u64 (zp b).1, .int .u64 (zp b).2]), (28, .agg #[.int .u64 (zp a).1, .int .u64 (zp a).2, .int .u64 (zp b).1, .int .u64 (zp b).2]), (11, .pointer (some ⟨s.1, 0, none⟩))]) (fun s w' => CsI w w.heap.size a b c d (some s.1) none w') ?_ ?_
    · rintro ⟨g1, g2⟩ wj hF
      try dsimp only at hF ⊢
      refine nm ?_ ?_ ?_; rotate_left
      · simp only [putAll, pA, pB, pC, pD]
        rfl
      refine two_ (i := 6) (j := 11) (Ni := some 30) (Nj := some 12) #[true, true, true, true, true, true, true, true, false, false, true, false, false, false] #[true, true, true, true, true, true, false, true, false, false, true, true, false, false] rfl rfl rfl rfl (by kernel_rfl) (by decide) (by decide) ?_ ?_
      · intro K hK
        refine goes_ Tryz.func36 (by kernel_rfl) rfl #[.agg #[.int .u64 c.1, .int .u64 c.2]] (by rfl) rfl rfl (by first | rfl | (simp [Act.eval]; done) | (simp [Act.eval]; done) | (go_simp; rfl)) ?_
        with_reducible refine (HA.out c _).mono ?_
        rintro e w' ⟨rfl, hb⟩
        refine ⟨_, rfl, ?_⟩
        have hN := hF.keep hb
        refine hK.out _ _ (by exact hN.h) (fun hHeld => ?_)
        exact norm_ (by simp only [putAll, pA, pB, pC, pD]) (J9 (g1, g2) _ hN)
      · intro K hK
        refine value_ (v := .pointer (some ⟨wj.heap.size, 0, none⟩)) (w1 := wj.alloc (.cells #[.int .u64 0, .int .u64 0, .int .u64 0, .int .u64 0] 80)) (by rfl) rfl ?_ ?_
        · go_simp; (try rfl)
        have hN := hF.box2
        refine hK.out _ _ (by exact hN.h) (fun hHeld => ?_)
        exact norm_ (by simp only [putAll, pA, pB, pC, pD]) (J11 (g1, wj.heap.size) _ hN)
    intro J13
    refine join_ (σ := Nat × Nat) 6 #[true, true, true, true, true, true, false, true, false, false, false, true, false, false] (fun s => [(25, .agg #[.int .u64 (zp a).1, .int .u64 (zp a).2]), (27, .agg #[.int .u64 (zp b).1, .int .u64 (zp b).2]), (28, .agg #[.int .u64 (zp a).1, .int .u64 (zp a).2, .int .u64 (zp b).1, .int .u64 (zp b).2]), (12, .pointer (some ⟨s.2, 0, none⟩))]) (fun s w' => CsI w w.heap.size a b c d none (some s.2) w') ?_ ?_
    · rintro ⟨g1, g2⟩ wj hF
      try dsimp only at hF ⊢
      refine nm ?_ ?_ ?_; rotate_left
      · simp only [putAll, pA, pB, pC, pD]
        rfl
      refine two_ (i := 6) (j := 10) (Ni := some 30) (Nj := some 11) #[true, true, true, true, true, true, true, true, false, false, false, true, false, false] #[true, true, true, true, true, true, false, true, false, false, true, true, false, false] rfl rfl rfl rfl (by kernel_rfl) (by decide) (by decide) ?_ ?_
      · intro K hK
        refine goes_ Tryz.func36 (by kernel_rfl) rfl #[.agg #[.int .u64 c.1, .int .u64 c.2]] (by rfl) rfl rfl (by first | rfl | (simp [Act.eval]; done) | (simp [Act.eval]; done) | (go_simp; rfl)) ?_
        with_reducible refine (HA.out c _).mono ?_
        rintro e w' ⟨rfl, hb⟩
        refine ⟨_, rfl, ?_⟩
        have hN := hF.keep hb
        refine hK.out _ _ (by exact hN.h) (fun hHeld => ?_)
        exact norm_ (by simp only [putAll, pA, pB, pC, pD]) (J10 (g1, g2) _ hN)
      · intro K hK
        refine value_ (v := .pointer (some ⟨wj.heap.size, 0, none⟩)) (w1 := wj.alloc (.cells #[.int .u64 0, .int .u64 0, .int .u64 0, .int .u64 0] 80)) (by rfl) rfl ?_ ?_
        · go_simp; (try rfl)
        have hN := hF.box1
        refine hK.out _ _ (by exact hN.h) (fun hHeld => ?_)
        exact norm_ (by simp only [putAll, pA, pB, pC, pD]) (J11 (wj.heap.size, g2) _ hN)
    intro J14
    refine join_ (σ := Nat × Nat) 6 #[true, true, true, true, false, true, false, true, false, false, true, true, false, false] (fun s => [(25, .agg #[.int .u64 (zp a).1, .int .u64 (zp a).2]), (27, .agg #[.int .u64 (zp b).1, .int .u64 (zp b).2]), (11, .pointer (some ⟨s.1, 0, none⟩)), (12, .pointer (some ⟨s.2, 0, none⟩))]) (fun s w' => CsI w w.heap.size a b c d (some s.1) (some s.2) w') ?_ ?_
    · rintro ⟨g1, g2⟩ wj hF
      try dsimp only at hF ⊢
      refine nm ?_ ?_ ?_; rotate_left
      · simp only [putAll, pA, pB, pC, pD]
        rfl
      refine pure_ (i := 4) (N := some 28) (v := ?_) (a' := ?_) #[true, true, true, true, true, true, false, true, false, false, true, true, false, false] rfl rfl (by kernel_rfl) (fun _ _ _ h => h) (Or.inl ⟨by rfl, ?_⟩) ?_ ?_
      rotate_left
      · intro w'
        go_simp
        with_reducible rfl
      rotate_left
      · simp only [pA, pB, pC, pD, i64_w, i32_w]; rfl
      exact norm_ (by simp only [putAll, pA, pB, pC, pD]) (J11 (g1, g2) _ hF)
    intro J15
    refine join_ (σ := Nat × Nat) 7 #[true, true, true, true, true, true, false, true, false, false, false, false, false, false] (fun s => [(25, .agg #[.int .u64 (zp a).1, .int .u64 (zp a).2]), (27, .agg #[.int .u64 (zp b).1, .int .u64 (zp b).2]), (28, .agg #[.int .u64 (zp a).1, .int .u64 (zp a).2, .int .u64 (zp b).1, .int .u64 (zp b).2])]) (fun s w' => CsI w w.heap.size a b c d none none w') ?_ ?_
    · rintro ⟨g1, g2⟩ wj hF
      try dsimp only at hF ⊢
      refine nm ?_ ?_ ?_; rotate_left
      · simp only [putAll, pA, pB, pC, pD]
        rfl
      refine three_ (i := 6) (j := 10) (k := 11) (Ni := some 30) (Nj := some 11) (Nk := some 12) #[true, true, true, true, true, true, true, true, false, false, false, false, false, false] #[true, true, true, true, true, true, false, true, false, false, true, false, false, false] #[true, true, true, true, true, true, false, true, false, false, false, true, false, false] rfl rfl rfl rfl rfl rfl (by kernel_rfl) (by decide) (by decide) (by decide) ?_ ?_ ?_
      · intro K hK
        refine goes_ Tryz.func36 (by kernel_rfl) rfl #[.agg #[.int .u64 c.1, .int .u64 c.2]] (by rfl) rfl rfl (by first | rfl | (simp [Act.eval]; done) | (simp [Act.eval]; done) | (go_simp; rfl)) ?_
        with_reducible refine (HA.out c _).mono ?_
        rintro e w' ⟨rfl, hb⟩
        refine ⟨_, rfl, ?_⟩
        have hN := hF.keep hb
        refine hK.out _ _ (by exact hN.h) (fun hHeld => ?_)
        exact norm_ (by simp only [putAll, pA, pB, pC, pD]) (J12 (g1, g2) _ hN)
      · intro K hK
        refine value_ (v := .pointer (some ⟨wj.heap.size, 0, none⟩)) (w1 := wj.alloc (.cells #[.int .u64 0, .int .u64 0, .int .u64 0, .int .u64 0] 80)) (by rfl) rfl ?_ ?_
        · go_simp; (try rfl)
        have hN := hF.box1
        refine hK.out _ _ (by exact hN.h) (fun hHeld => ?_)
        exact norm_ (by simp only [putAll, pA, pB, pC, pD]) (J13 (wj.heap.size, g2) _ hN)
      · intro K hK
        refine value_ (v := .pointer (some ⟨wj.heap.size, 0, none⟩)) (w1 := wj.alloc (.cells #[.int .u64 0, .int .u64 0, .int .u64 0, .int .u64 0] 80)) (by rfl) rfl ?_ ?_
        · go_simp; (try rfl)
        have hN := hF.box2
        refine hK.out _ _ (by exact hN.h) (fun hHeld => ?_)
        exact norm_ (by simp only [putAll, pA, pB, pC, pD]) (J14 (g1, wj.heap.size) _ hN)
    intro J16
    refine join_ (σ := Nat × Nat) 7 #[true, true, true, true, false, true, false, true, false, false, true, false, false, false] (fun s => [(25, .agg #[.int .u64 (zp a).1, .int .u64 (zp a).2]), (27, .agg #[.int .u64 (zp b).1, .int .u64 (zp b).2]), (11, .pointer (some ⟨s.1, 0, none⟩))]) (fun s w' => CsI w w.heap.size a b c d (some s.1) none w') ?_ ?_
    · rintro ⟨g1, g2⟩ wj hF
      try dsimp only at hF ⊢
      refine nm ?_ ?_ ?_; rotate_left
      · simp only [putAll, pA, pB, pC, pD]
        rfl
      refine pure_ (i := 4) (N := some 28) (v := ?_) (a' := ?_) #[true, true, true, true, true, true, false, true, false, false, true, false, false, false] rfl rfl (by kernel_rfl) (fun _ _ _ h => h) (Or.inl ⟨by rfl, ?_⟩) ?_ ?_
      rotate_left
      · intro w'
        go_simp
        with_reducible rfl
      rotate_left
      · simp only [pA, pB, pC, pD, i64_w, i32_w]; rfl
      exact norm_ (by simp only [putAll, pA, pB, pC, pD]) (J13 (g1, g2) _ hF)
    intro J17
    refine join_ (σ := Nat × Nat) 7 #[true, true, true, true, false, true, false, true, false, false, false, true, false, false] (fun s => [(25, .agg #[.int .u64 (zp a).1, .int .u64 (zp a).2]), (27, .agg #[.int .u64 (zp b).1, .int .u64 (zp b).2]), (12, .pointer (some ⟨s.2, 0, none⟩))]) (fun s w' => CsI w w.heap.size a b c d none (some s.2) w') ?_ ?_
    · rintro ⟨g1, g2⟩ wj hF
      try dsimp only at hF ⊢
      refine nm ?_ ?_ ?_; rotate_left
      · simp only [putAll, pA, pB, pC, pD]
        rfl
      refine pure_ (i := 4) (N := some 28) (v := ?_) (a' := ?_) #[true, true, true, true, true, true, false, true, false, false, false, true, false, false] rfl rfl (by kernel_rfl) (fun _ _ _ h => h) (Or.inl ⟨by rfl, ?_⟩) ?_ ?_
      rotate_left
      · intro w'
        go_simp
        with_reducible rfl
      rotate_left
      · simp only [pA, pB, pC, pD, i64_w, i32_w]; rfl
      exact norm_ (by simp only [putAll, pA, pB, pC, pD]) (J14 (g1, g2) _ hF)
    intro J18
    refine join_ (σ := Nat × Nat) 7 #[true, true, true, false, false, true, false, true, false, false, true, true, false, false] (fun s => [(25, .agg #[.int .u64 (zp a).1, .int .u64 (zp a).2]), (11, .pointer (some ⟨s.1, 0, none⟩)), (12, .pointer (some ⟨s.2, 0, none⟩))]) (fun s w' => CsI w w.heap.size a b c d (some s.1) (some s.2) w') ?_ ?_
    · rintro ⟨g1, g2⟩ wj hF
      try dsimp only at hF ⊢
      refine nm ?_ ?_ ?_; rotate_left
      · simp only [putAll, pA, pB, pC, pD]
        rfl
      refine one_ (i := 3) (N := some 27) #[true, true, true, true, false, true, false, true, false, false, true, true, false, false] rfl rfl (by kernel_rfl) (by decide) ?_
      · intro K hK
        refine goes_ Tryz.func36 (by kernel_rfl) rfl #[.agg #[.int .u64 b.1, .int .u64 b.2]] (by rfl) rfl rfl (by first | rfl | (simp [Act.eval]; done) | (simp [Act.eval]; done) | (go_simp; rfl)) ?_
        with_reducible refine (HA.out b _).mono ?_
        rintro e w' ⟨rfl, hb⟩
        refine ⟨_, rfl, ?_⟩
        have hN := hF.keep hb
        refine hK.out _ _ (by exact hN.h) (fun hHeld => ?_)
        exact norm_ (by simp only [putAll, pA, pB, pC, pD]) (J15 (g1, g2) _ hN)
    intro J19
    refine join_ (σ := Nat × Nat) 8 #[true, true, true, true, false, true, false, true, false, false, false, false, false, false] (fun s => [(25, .agg #[.int .u64 (zp a).1, .int .u64 (zp a).2]), (27, .agg #[.int .u64 (zp b).1, .int .u64 (zp b).2])]) (fun s w' => CsI w w.heap.size a b c d none none w') ?_ ?_
    · rintro ⟨g1, g2⟩ wj hF
      try dsimp only at hF ⊢
      refine nm ?_ ?_ ?_; rotate_left
      · simp only [putAll, pA, pB, pC, pD]
        rfl
      refine pure_ (i := 4) (N := some 28) (v := ?_) (a' := ?_) #[true, true, true, true, true, true, false, true, false, false, false, false, false, false] rfl rfl (by kernel_rfl) (fun _ _ _ h => h) (Or.inl ⟨by rfl, ?_⟩) ?_ ?_
      rotate_left
      · intro w'
        go_simp
        with_reducible rfl
      rotate_left
      · simp only [pA, pB, pC, pD, i64_w, i32_w]; rfl
      exact norm_ (by simp only [putAll, pA, pB, pC, pD]) (J16 (g1, g2) _ hF)
    intro J20
    refine join_ (σ := Nat × Nat) 8 #[true, true, true, false, false, true, false, true, false, false, true, false, false, false] (fun s => [(25, .agg #[.int .u64 (zp a).1, .int .u64 (zp a).2]), (11, .pointer (some ⟨s.1, 0, none⟩))]) (fun s w' => CsI w w.heap.size a b c d (some s.1) none w') ?_ ?_
    · rintro ⟨g1, g2⟩ wj hF
      try dsimp only at hF ⊢
      refine nm ?_ ?_ ?_; rotate_left
      · simp only [putAll, pA, pB, pC, pD]
        rfl
      refine two_ (i := 3) (j := 11) (Ni := some 27) (Nj := some 12) #[true, true, true, true, false, true, false, true, false, false, true, false, false, false] #[true, true, true, false, false, true, false, true, false, false, true, true, false, false] rfl rfl rfl rfl (by kernel_rfl) (by decide) (by decide) ?_ ?_
      · intro K hK
        refine goes_ Tryz.func36 (by kernel_rfl) rfl #[.agg #[.int .u64 b.1, .int .u64 b.2]] (by rfl) rfl rfl (by first | rfl | (simp [Act.eval]; done) | (simp [Act.eval]; done) | (go_simp; rfl)) ?_
        with_reducible refine (HA.out b _).mono ?_
        rintro e w' ⟨rfl, hb⟩
        refine ⟨_, rfl, ?_⟩
        have hN := hF.keep hb
        refine hK.out _ _ (by exact hN.h) (fun hHeld => ?_)
        exact norm_ (by simp only [putAll, pA, pB, pC, pD]) (J17 (g1, g2) _ hN)
      · intro K hK
        refine value_ (v := .pointer (some ⟨wj.heap.size, 0, none⟩)) (w1 := wj.alloc (.cells #[.int .u64 0, .int .u64 0, .int .u64 0, .int .u64 0] 80)) (by rfl) rfl ?_ ?_
        · go_simp; (try rfl)
        have hN := hF.box2
        refine hK.out _ _ (by exact hN.h) (fun hHeld => ?_)
        exact norm_ (by simp only [putAll, pA, pB, pC, pD]) (J19 (g1, wj.heap.size) _ hN)
    intro J21
    refine join_ (σ := Nat × Nat) 8 #[true, true, true, false, false, true, false, true, false, false, false, true, false, false] (fun s => [(25, .agg #[.int .u64 (zp a).1, .int .u64 (zp a).2]), (12, .pointer (some ⟨s.2, 0, none⟩))]) (fun s w' => CsI w w.heap.size a b c d none (some s.2) w') ?_ ?_
    · rintro ⟨g1, g2⟩ wj hF
      try dsimp only at hF ⊢
      refine nm ?_ ?_ ?_; rotate_left
      · simp only [putAll, pA, pB, pC, pD]
        rfl
      refine two_ (i := 3) (j := 10) (Ni := some 27) (Nj := some 11) #[true, true, true, true, false, true, false, true, false, false, false, true, false, false] #[true, true, true, false, false, true, false, true, false, false, true, true, false, false] rfl rfl rfl rfl (by kernel_rfl) (by decide) (by decide) ?_ ?_
      · intro K hK
        refine goes_ Tryz.func36 (by kernel_rfl) rfl #[.agg #[.int .u64 b.1, .int .u64 b.2]] (by rfl) rfl rfl (by first | rfl | (simp [Act.eval]; done) | (simp [Act.eval]; done) | (go_simp; rfl)) ?_
        with_reducible refine (HA.out b _).mono ?_
        rintro e w' ⟨rfl, hb⟩
        refine ⟨_, rfl, ?_⟩
        have hN := hF.keep hb
        refine hK.out _ _ (by exact hN.h) (fun hHeld => ?_)
        exact norm_ (by simp only [putAll, pA, pB, pC, pD]) (J18 (g1, g2) _ hN)
      · intro K hK
        refine value_ (v := .pointer (some ⟨wj.heap.size, 0, none⟩)) (w1 := wj.alloc (.cells #[.int .u64 0, .int .u64 0, .int .u64 0, .int .u64 0] 80)) (by rfl) rfl ?_ ?_
        · go_simp; (try rfl)
        have hN := hF.box1
        refine hK.out _ _ (by exact hN.h) (fun hHeld => ?_)
        exact norm_ (by simp only [putAll, pA, pB, pC, pD]) (J19 (wj.heap.size, g2) _ hN)
    intro J22
    refine join_ (σ := Nat × Nat) 8 #[true, false, true, false, false, true, false, true, false, false, true, true, false, false] (fun s => [(11, .pointer (some ⟨s.1, 0, none⟩)), (12, .pointer (some ⟨s.2, 0, none⟩))]) (fun s w' => CsI w w.heap.size a b c d (some s.1) (some s.2) w') ?_ ?_
    · rintro ⟨g1, g2⟩ wj hF
      try dsimp only at hF ⊢
      refine nm ?_ ?_ ?_; rotate_left
      · simp only [putAll, pA, pB, pC, pD]
        rfl
      refine one_ (i := 1) (N := some 25) #[true, true, true, false, false, true, false, true, false, false, true, true, false, false] rfl rfl (by kernel_rfl) (by decide) ?_
      · intro K hK
        refine goes_ Tryz.func36 (by kernel_rfl) rfl #[.agg #[.int .u64 a.1, .int .u64 a.2]] (by rfl) rfl rfl (by first | rfl | (simp [Act.eval]; done) | (simp [Act.eval]; done) | (go_simp; rfl)) ?_
        with_reducible refine (HA.out a _).mono ?_
        rintro e w' ⟨rfl, hb⟩
        refine ⟨_, rfl, ?_⟩
        have hN := hF.keep hb
        refine hK.out _ _ (by exact hN.h) (fun hHeld => ?_)
        exact norm_ (by simp only [putAll, pA, pB, pC, pD]) (J19 (g1, g2) _ hN)
    intro J23
    refine join_ (σ := Nat × Nat) 9 #[true, true, true, false, false, true, false, true, false, false, false, false, false, false] (fun s => [(25, .agg #[.int .u64 (zp a).1, .int .u64 (zp a).2])]) (fun s w' => CsI w w.heap.size a b c d none none w') ?_ ?_
    · rintro ⟨g1, g2⟩ wj hF
      try dsimp only at hF ⊢
      refine nm ?_ ?_ ?_; rotate_left
      · simp only [putAll, pA, pB, pC, pD]
        rfl
      refine three_ (i := 3) (j := 10) (k := 11) (Ni := some 27) (Nj := some 11) (Nk := some 12) #[true, true, true, true, false, true, false, true, false, false, false, false, false, false] #[true, true, true, false, false, true, false, true, false, false, true, false, false, false] #[true, true, true, false, false, true, false, true, false, false, false, true, false, false] rfl rfl rfl rfl rfl rfl (by kernel_rfl) (by decide) (by decide) (by decide) ?_ ?_ ?_
      · intro K hK
        refine goes_ Tryz.func36 (by kernel_rfl) rfl #[.agg #[.int .u64 b.1, .int .u64 b.2]] (by rfl) rfl rfl (by first | rfl | (simp [Act.eval]; done) | (simp [Act.eval]; done) | (go_simp; rfl)) ?_
        with_reducible refine (HA.out b _).mono ?_
        rintro e w' ⟨rfl, hb⟩
        refine ⟨_, rfl, ?_⟩
        have hN := hF.keep hb
        refine hK.out _ _ (by exact hN.h) (fun hHeld => ?_)
        exact norm_ (by simp only [putAll, pA, pB, pC, pD]) (J20 (g1, g2) _ hN)
      · intro K hK
        refine value_ (v := .pointer (some ⟨wj.heap.size, 0, none⟩)) (w1 := wj.alloc (.cells #[.int .u64 0, .int .u64 0, .int .u64 0, .int .u64 0] 80)) (by rfl) rfl ?_ ?_
        · go_simp; (try rfl)
        have hN := hF.box1
        refine hK.out _ _ (by exact hN.h) (fun hHeld => ?_)
        exact norm_ (by simp only [putAll, pA, pB, pC, pD]) (J21 (wj.heap.size, g2) _ hN)
      · intro K hK
        refine value_ (v := .pointer (some ⟨wj.heap.size, 0, none⟩)) (w1 := wj.alloc (.cells #[.int .u64 0, .int .u64 0, .int .u64 0, .int .u64 0] 80)) (by rfl) rfl ?_ ?_
        · go_simp; (try rfl)
        have hN := hF.box2
        refine hK.out _ _ (by exact hN.h) (fun hHeld => ?_)
        exact norm_ (by simp only [putAll, pA, pB, pC, pD]) (J22 (g1, wj.heap.size) _ hN)
    intro J24
    refine join_ (σ := Nat × Nat) 9 #[true, false, true, false, false, true, false, true, false, false, true, false, false, false] (fun s => [(11, .pointer (some ⟨s.1, 0, none⟩))]) (fun s w' => CsI w w.heap.size a b c d (some s.1) none w') ?_ ?_
    · rintro ⟨g1, g2⟩ wj hF
      try dsimp only at hF ⊢
      refine nm ?_ ?_ ?_; rotate_left
      · simp only [putAll, pA, pB, pC, pD]
        rfl
      refine two_ (i := 1) (j := 11) (Ni := some 25) (Nj := some 12) #[true, true, true, false, false, true, false, true, false, false, true, false, false, false] #[true, false, true, false, false, true, false, true, false, false, true, true, false, false] rfl rfl rfl rfl (by kernel_rfl) (by decide) (by decide) ?_ ?_
      · intro K hK
        refine goes_ Tryz.func36 (by kernel_rfl) rfl #[.agg #[.int .u64 a.1, .int .u64 a.2]] (by rfl) rfl rfl (by first | rfl | (simp [Act.eval]; done) | (simp [Act.eval]; done) | (go_simp; rfl)) ?_
        with_reducible refine (HA.out a _).mono ?_
        rintro e w' ⟨rfl, hb⟩
        refine ⟨_, rfl, ?_⟩
        have hN := hF.keep hb
        refine hK.out _ _ (by exact hN.h) (fun hHeld => ?_)
        exact norm_ (by simp only [putAll, pA, pB, pC, pD]) (J21 (g1, g2) _ hN)
      · intro K hK
        refine value_ (v := .pointer (some ⟨wj.heap.size, 0, none⟩)) (w1 := wj.alloc (.cells #[.int .u64 0, .int .u64 0, .int .u64 0, .int .u64 0] 80)) (by rfl) rfl ?_ ?_
        · go_simp; (try rfl)
        have hN := hF.box2
        refine hK.out _ _ (by exact hN.h) (fun hHeld => ?_)
        exact norm_ (by simp only [putAll, pA, pB, pC, pD]) (J23 (g1, wj.heap.size) _ hN)
    intro J25
    refine join_ (σ := Nat × Nat) 9 #[true, false, true, false, false, true, false, true, false, false, false, true, false, false] (fun s => [(12, .pointer (some ⟨s.2, 0, none⟩))]) (fun s w' => CsI w w.heap.size a b c d none (some s.2) w') ?_ ?_
    · rintro ⟨g1, g2⟩ wj hF
      try dsimp only at hF ⊢
      refine nm ?_ ?_ ?_; rotate_left
      · simp only [putAll, pA, pB, pC, pD]
        rfl
      refine two_ (i := 1) (j := 10) (Ni := some 25) (Nj := some 11) #[true, true, true, false, false, true, false, true, false, false, false, true, false, false] #[true, false, true, false, false, true, false, true, false, false, true, true, false, false] rfl rfl rfl rfl (by kernel_rfl) (by decide) (by decide) ?_ ?_
      · intro K hK
        refine goes_ Tryz.func36 (by kernel_rfl) rfl #[.agg #[.int .u64 a.1, .int .u64 a.2]] (by rfl) rfl rfl (by first | rfl | (simp [Act.eval]; done) | (simp [Act.eval]; done) | (go_simp; rfl)) ?_
        with_reducible refine (HA.out a _).mono ?_
        rintro e w' ⟨rfl, hb⟩
        refine ⟨_, rfl, ?_⟩
        have hN := hF.keep hb
        refine hK.out _ _ (by exact hN.h) (fun hHeld => ?_)
        exact norm_ (by simp only [putAll, pA, pB, pC, pD]) (J22 (g1, g2) _ hN)
      · intro K hK
        refine value_ (v := .pointer (some ⟨wj.heap.size, 0, none⟩)) (w1 := wj.alloc (.cells #[.int .u64 0, .int .u64 0, .int .u64 0, .int .u64 0] 80)) (by rfl) rfl ?_ ?_
        · go_simp; (try rfl)
        have hN := hF.box1
        refine hK.out _ _ (by exact hN.h) (fun hHeld => ?_)
        exact norm_ (by simp only [putAll, pA, pB, pC, pD]) (J23 (wj.heap.size, g2) _ hN)
    intro J26
    refine join_ (σ := Nat × Nat) 10 #[true, false, true, false, false, true, false, true, false, false, false, false, false, false] (fun s => []) (fun s w' => CsI w w.heap.size a b c d none none w') ?_ ?_
    · rintro ⟨g1, g2⟩ wj hF
      try dsimp only at hF ⊢
      refine nm ?_ ?_ ?_; rotate_left
      · simp only [putAll, pA, pB, pC, pD]
        rfl
      refine three_ (i := 1) (j := 10) (k := 11) (Ni := some 25) (Nj := some 11) (Nk := some 12) #[true, true, true, false, false, true, false, true, false, false, false, false, false, false] #[true, false, true, false, false, true, false, true, false, false, true, false, false, false] #[true, false, true, false, false, true, false, true, false, false, false, true, false, false] rfl rfl rfl rfl rfl rfl (by kernel_rfl) (by decide) (by decide) (by decide) ?_ ?_ ?_
      · intro K hK
        refine goes_ Tryz.func36 (by kernel_rfl) rfl #[.agg #[.int .u64 a.1, .int .u64 a.2]] (by rfl) rfl rfl (by first | rfl | (simp [Act.eval]; done) | (simp [Act.eval]; done) | (go_simp; rfl)) ?_
        with_reducible refine (HA.out a _).mono ?_
        rintro e w' ⟨rfl, hb⟩
        refine ⟨_, rfl, ?_⟩
        have hN := hF.keep hb
        refine hK.out _ _ (by exact hN.h) (fun hHeld => ?_)
        exact norm_ (by simp only [putAll, pA, pB, pC, pD]) (J24 (g1, g2) _ hN)
      · intro K hK
        refine value_ (v := .pointer (some ⟨wj.heap.size, 0, none⟩)) (w1 := wj.alloc (.cells #[.int .u64 0, .int .u64 0, .int .u64 0, .int .u64 0] 80)) (by rfl) rfl ?_ ?_
        · go_simp; (try rfl)
        have hN := hF.box1
        refine hK.out _ _ (by exact hN.h) (fun hHeld => ?_)
        exact norm_ (by simp only [putAll, pA, pB, pC, pD]) (J25 (wj.heap.size, g2) _ hN)
      · intro K hK
        refine value_ (v := .pointer (some ⟨wj.heap.size, 0, none⟩)) (w1 := wj.alloc (.cells #[.int .u64 0, .int .u64 0, .int .u64 0, .int .u64 0] 80)) (by rfl) rfl ?_ ?_
        · go_simp; (try rfl)
        have hN := hF.box2
        refine hK.out _ _ (by exact hN.h) (fun hHeld => ?_)
        exact norm_ (by simp only [putAll, pA, pB, pC, pD]) (J26 (g1, wj.heap.size) _ hN)
    intro J27
    exact norm_ (by simp only [putAll]) (J27 (0, 0) _ ⟨hHeld, nofun, nofun, nofun⟩)
  rintro ⟨g1, g2⟩ wj hF
  obtain ⟨hF, hg1, hg2, hg12⟩ := hF.all
  dsimp only at hF hg1 hg2 hg12 ⊢
  clear hSd hHeld
  refine nm ?_ ?_ ?_; rotate_left
  · simp only [putAll, pA, pB, pC, pD]
    rfl
  refine last_ (i := 12) (N := none) #[true, true, true, true, true, true, true, true, true, true, true, true, true, false] rfl rfl (by kernel_rfl) (by decide) (fun K hK => ?_)
  obtain ⟨y0, y1, y2, y3, z0, z1, z2, z3⟩ := row4f (hF.l 6 _ _ rfl)
  refine skip_ (w1 := setFour g1 (.int .u64 (zp a).1) (.int .u64 (zp a).2) (.int .u64 (zp b).1) (.int .u64 (zp b).2) wj) (by rfl) rfl ?_ ?_
  · go_simp
    rfl
  refine hK.out _ _ ?_
  clear hK K
  replace hF := hF.four 6 rfl (by decide) (by omega) (fun j o e => idx8 hg1 hg2 hg12 6 j _ _ _ rfl e) (.int .u64 (zp a).1) (.int .u64 (zp a).2) (.int .u64 (zp b).1) (.int .u64 (zp b).2)
  clear y0 y1 y2 y3 z0 z1 z2 z3
  generalize setFour g1 _ _ _ _ wj = wk at *
  refine last_ (i := 13) (N := none) #[true, true, true, true, true, true, true, true, true, true, true, true, true, true] rfl rfl (by kernel_rfl) (by decide) (fun K hK => ?_)
  obtain ⟨y0, y1, y2, y3, z0, z1, z2, z3⟩ := row4f (hF.l 7 _ _ rfl)
  refine skip_ (w1 := setFour g2 (.int .u64 (zp c).1) (.int .u64 (zp c).2) (.int .u64 (zp d).1) (.int .u64 (zp d).2) wk) (by rfl) rfl ?_ ?_
  · go_simp
    rfl
  refine hK.out _ _ ?_
  clear hK K
  replace hF := hF.four 7 rfl (by decide) (by omega) (fun j o e => idx8 hg1 hg2 hg12 7 j _ _ _ rfl e) (.int .u64 (zp c).1) (.int .u64 (zp c).2) (.int .u64 (zp d).1) (.int .u64 (zp d).2)
  clear y0 y1 y2 y3 z0 z1 z2 z3
  generalize setFour g2 _ _ _ _ wk = wl at *
  refine done_ (by kernel_rfl) ?_
  have hG : Mem w.heap.size w wl (CsL w.heap.size a b c d g1 g2) [] := hF
  clear hF
  go_upto_region 4 with (fail)
  have hSd := hG.drew
  clear hG
  by_cases hT : T = 0
  · have hq : (qsgn T == 0) = true := beq_iff_eq.2 (qsgn_zero.2 hT)
    as_aux_lemma =>
    refine start_ (n := 7) (S := fun w' => Mem w.heap.size w w' (CsL w.heap.size a b c d g1 g2) []) (ds := []) #[false, false, false, false, false, false, false] (by kernel_rfl) rfl rfl (hSd) (fun hHeld => ?_)
    refine ld 0 34 ?_ ?_ rfl rfl (by kernel_rfl) (fun _ _ _ h => h) (by rfl) hHeld ?_ ?_ ?_; rotate_left 2
    · rintro w' hs
      obtain ⟨q0, q1, q2, q3, _⟩ := row4f (hs.l 6 _ _ rfl)
      obtain ⟨q4, q5, q6, q7, _⟩ := row4f (hs.l 7 _ _ rfl)
      clear hs
      go_simp; with_reducible rfl
    · simp only [pA, pB, pC, pD, i64_w, i32_w]; rfl
    refine ld 2 36 ?_ ?_ rfl rfl (by kernel_rfl) (fun _ _ _ h => h) (by rfl) hHeld ?_ ?_ ?_; rotate_left 2
    · rintro w' hs
      obtain ⟨q0, q1, q2, q3, _⟩ := row4f (hs.l 6 _ _ rfl)
      obtain ⟨q4, q5, q6, q7, _⟩ := row4f (hs.l 7 _ _ rfl)
      clear hs
      go_simp; with_reducible rfl
    · simp only [pA, pB, pC, pD, i64_w, i32_w]; rfl
    refine ca 1 35 Tryz.func40 rfl rfl (by kernel_rfl) (by decide) (by kernel_rfl) rfl #[.agg #[.int .u64 (zp a).1, .int .u64 (zp a).2, .int .u64 (zp b).1, .int .u64 (zp b).2]] (by rfl) rfl (by first | rfl | (simp [Act.eval]; done) | (simp [Act.eval]; done) | (go_simp; rfl)) ?_
    with_reducible refine (HW1.out _).mono ?_
    rintro e w' ⟨E1, F1, G1, I1, rfl, hf1, hb1⟩
    refine ⟨_, rfl, (by first | exact hHeld.keep hb4 | exact hHeld.keep hb3 | exact hHeld.keep hb2 | exact hHeld.keep hb1), fun hHeld => ?_⟩
    refine nm ?_ ?_ ?_; rotate_left
    · simp only [pA, pB, pC, pD, i64_w, i32_w]; rfl
    refine ca 3 37 Tryz.func40 rfl rfl (by kernel_rfl) (by decide) (by kernel_rfl) rfl #[.agg #[.int .u64 (zp c).1, .int .u64 (zp c).2, .int .u64 (zp d).1, .int .u64 (zp d).2]] (by rfl) rfl (by first | rfl | (simp [Act.eval]; done) | (simp [Act.eval]; done) | (go_simp; rfl)) ?_
    with_reducible refine (HW2.out _).mono ?_
    rintro e w' ⟨E2, F2, G2, I2, rfl, hf2, hb2⟩
    replace hf1 := hf1.keep (Keep.of hb2 (Nat.le_refl _)) (Nat.le_refl _)
    refine ⟨_, rfl, (by first | exact hHeld.keep hb4 | exact hHeld.keep hb3 | exact hHeld.keep hb2 | exact hHeld.keep hb1), fun hHeld => ?_⟩
    refine nm ?_ ?_ ?_; rotate_left
    · simp only [pA, pB, pC, pD, i64_w, i32_w]; rfl
    refine ca 4 38 Tryz.func41 rfl rfl (by kernel_rfl) (by decide) (by kernel_rfl) rfl #[pv E1 F1 G1 I1 X1, pv E2 F2 G2 I2 X2] (by rfl) rfl (by first | rfl | (simp [Act.eval]; done) | (simp [Act.eval]; done) | (go_simp; rfl)) ?_
    with_reducible refine (HT.out E1 F1 G1 I1 E2 F2 G2 I2 _ (hf1.ins.wide (Nat.zero_le _) (Nat.le_refl _)) (hf2.ins.wide (Nat.zero_le _) (Nat.le_refl _))).mono ?_
    rintro e w' ⟨E3, F3, rfl, hf3, hb3⟩
    refine ⟨_, rfl, (by first | exact hHeld.keep hb4 | exact hHeld.keep hb3 | exact hHeld.keep hb2 | exact hHeld.keep hb1), fun hHeld => ?_⟩
    refine nm ?_ ?_ ?_; rotate_left
    · simp only [pA, pB, pC, pD, i64_w, i32_w]; rfl
    refine ca 5 39 Tryz.func21 rfl rfl (by kernel_rfl) (by decide) (by kernel_rfl) rfl #[qv E3 F3 T] (by rfl) rfl (by first | rfl | (simp [Act.eval]; done) | (simp [Act.eval]; done) | (go_simp; rfl)) ?_
    with_reducible refine (HS.out E3 F3 _ (hf3.ins.wide (Nat.zero_le _) (Nat.le_refl _))).mono ?_
    rintro e w' ⟨rfl, hb4⟩
    refine ⟨_, rfl, (by first | exact hHeld.keep hb4 | exact hHeld.keep hb3 | exact hHeld.keep hb2 | exact hHeld.keep hb1), fun hHeld => ?_⟩
    refine nm ?_ ?_ ?_; rotate_left
    · simp only [pA, pB, pC, pD, i64_w, i32_w]; rfl
    refine pu 6 40 ?_ ?_ rfl rfl (by kernel_rfl) (fun _ _ _ h => h) (by rfl) (fun _ => ?_) ?_ ?_; rotate_left 2
    · go_simp; with_reducible rfl
    · simp only [pA, pB, pC, pD, i64_w, i32_w]; rfl
    refine done_ (by kernel_rfl) ?_
    have hU := hHeld
    clear hHeld hSd hf1 hf2 hf3 hb1 hb2 hb3 hb4
    generalize w' = wm at *
    obtain ⟨y0, y1, y2, y3, y4, y5⟩ := row3 (hU.l 4 _ _ rfl)
    obtain ⟨z0, z1, z2, z3, z4, z5⟩ := row3 (hU.l 5 _ _ rfl)
    have HU := Lib.hid hU
    clear hU
    ((try dsimp only); repeat (first | go_values | go_skip | go_guarded | go_step | go_upon))
    have hV := (HU.out.three 4 rfl (by decide) (by omega) (fun j o e => idx8 hg1 hg2 hg12 4 j _ _ _ rfl e) (.bool false) (.slice none 0 0) (.slice none 0 0)).three 5 rfl (by decide) (by omega) (fun j o e => idx8 hg1 hg2 hg12 5 j _ _ _ rfl e) (.bool false) (.slice none 0 0) (.slice none 0 0)
    refine bodyPost_ret (results_rows_tmp rfl _ _ (w.heap.size + 1 + 1 + 1 + 1) (w.heap.size + 1 + 1 + 1 + 1 + 1) _ _ _ _ _ _ _ _ rfl rfl (hV.l 4 _ _ rfl) (hV.l 5 _ _ rfl) rfl rfl rfl rfl rfl rfl) rfl ?_
    exact ⟨fun _ => rfl, fun h => absurd hT h, hV.b⟩
  · have hq : (qsgn T == 0) = false := beq_eq_false_iff_ne.2 fun h => hT (qsgn_zero.1 h)
    as_aux_lemma =>
    refine start_ (n := 7) (S := fun w' => Mem w.heap.size w w' (CsL w.heap.size a b c d g1 g2) []) (ds := []) #[false, false, false, false, false, false, false] (by kernel_rfl) rfl rfl (hSd) (fun hHeld => ?_)
    refine ld 0 34 ?_ ?_ rfl rfl (by kernel_rfl) (fun _ _ _ h => h) (by rfl) hHeld ?_ ?_ ?_; rotate_left 2
    · rintro w' hs
      obtain ⟨q0, q1, q2, q3, _⟩ := row4f (hs.l 6 _ _ rfl)
      obtain ⟨q4, q5, q6, q7, _⟩ := row4f (hs.l 7 _ _ rfl)
      clear hs
      go_simp; with_reducible rfl
    · simp only [pA, pB, pC, pD, i64_w, i32_w]; rfl
    refine ld 2 36 ?_ ?_ rfl rfl (by kernel_rfl) (fun _ _ _ h => h) (by rfl) hHeld ?_ ?_ ?_; rotate_left 2
    · rintro w' hs
      obtain ⟨q0, q1, q2, q3, _⟩ := row4f (hs.l 6 _ _ rfl)
      obtain ⟨q4, q5, q6, q7, _⟩ := row4f (hs.l 7 _ _ rfl)
      clear hs
      go_simp; with_reducible rfl
    · simp only [pA, pB, pC, pD, i64_w, i32_w]; rfl
    refine ca 1 35 Tryz.func40 rfl rfl (by kernel_rfl) (by decide) (by kernel_rfl) rfl #[.agg #[.int .u64 (zp a).1, .int .u64 (zp a).2, .int .u64 (zp b).1, .int .u64 (zp b).2]] (by rfl) rfl (by first | rfl | (simp [Act.eval]; done) | (simp [Act.eval]; done) | (go_simp; rfl)) ?_
    with_reducible refine (HW1.out _).mono ?_
    rintro e w' ⟨E1, F1, G1, I1, rfl, hf1, hb1⟩
    refine ⟨_, rfl, (by first | exact hHeld.keep hb4 | exact hHeld.keep hb3 | exact hHeld.keep hb2 | exact hHeld.keep hb1), fun hHeld => ?_⟩
    refine nm ?_ ?_ ?_; rotate_left
    · simp only [pA, pB, pC, pD, i64_w, i32_w]; rfl
    refine ca 3 37 Tryz.func40 rfl rfl (by kernel_rfl) (by decide) (by kernel_rfl) rfl #[.agg #[.int .u64 (zp c).1, .int .u64 (zp c).2, .int .u64 (zp d).1, .int .u64 (zp d).2]] (by rfl) rfl (by first | rfl | (simp [Act.eval]; done) | (simp [Act.eval]; done) | (go_simp; rfl)) ?_
    with_reducible refine (HW2.out _).mono ?_
    rintro e w' ⟨E2, F2, G2, I2, rfl, hf2, hb2⟩
    replace hf1 := hf1.keep (Keep.of hb2 (Nat.le_refl _)) (Nat.le_refl _)
    refine ⟨_, rfl, (by first | exact hHeld.keep hb4 | exact hHeld.keep hb3 | exact hHeld.keep hb2 | exact hHeld.keep hb1), fun hHeld => ?_⟩
    refine nm ?_ ?_ ?_; rotate_left
    · simp only [pA, pB, pC, pD, i64_w, i32_w]; rfl
    refine ca 4 38 Tryz.func41 rfl rfl (by kernel_rfl) (by decide) (by kernel_rfl) rfl #[pv E1 F1 G1 I1 X1, pv E2 F2 G2 I2 X2] (by rfl) rfl (by first | rfl | (simp [Act.eval]; done) | (simp [Act.eval]; done) | (go_simp; rfl)) ?_
    with_reducible refine (HT.out E1 F1 G1 I1 E2 F2 G2 I2 _ (hf1.ins.wide (Nat.zero_le _) (Nat.le_refl _)) (hf2.ins.wide (Nat.zero_le _) (Nat.le_refl _))).mono ?_
    rintro e w' ⟨E3, F3, rfl, hf3, hb3⟩
    refine ⟨_, rfl, (by first | exact hHeld.keep hb4 | exact hHeld.keep hb3 | exact hHeld.keep hb2 | exact hHeld.keep hb1), fun hHeld => ?_⟩
    refine nm ?_ ?_ ?_; rotate_left
    · simp only [pA, pB, pC, pD, i64_w, i32_w]; rfl
    refine ca 5 39 Tryz.func21 rfl rfl (by kernel_rfl) (by decide) (by kernel_rfl) rfl #[qv E3 F3 T] (by rfl) rfl (by first | rfl | (simp [Act.eval]; done) | (simp [Act.eval]; done) | (go_simp; rfl)) ?_
    with_reducible refine (HS.out E3 F3 _ (hf3.ins.wide (Nat.zero_le _) (Nat.le_refl _))).mono ?_
    rintro e w' ⟨rfl, hb4⟩
    refine ⟨_, rfl, (by first | exact hHeld.keep hb4 | exact hHeld.keep hb3 | exact hHeld.keep hb2 | exact hHeld.keep hb1), fun hHeld => ?_⟩
    refine nm ?_ ?_ ?_; rotate_left
    · simp only [pA, pB, pC, pD, i64_w, i32_w]; rfl
    refine pu 6 40 ?_ ?_ rfl rfl (by kernel_rfl) (fun _ _ _ h => h) (by rfl) (fun _ => ?_) ?_ ?_; rotate_left 2
    · go_simp; with_reducible rfl
    · simp only [pA, pB, pC, pD, i64_w, i32_w]; rfl
    refine done_ (by kernel_rfl) ?_
    have hU := hHeld
    clear hHeld hSd hf1 hf2 hf3 hb1 hb2 hb3 hb4
    generalize w' = wm at *
    obtain ⟨y0, y1, y2, y3, _⟩ := row4f (hU.l 6 _ _ rfl)
    obtain ⟨z0, z1, z2, z3, _⟩ := row4f (hU.l 7 _ _ rfl)
    have HU := Lib.hid hU
    have HK := Lib.hid (HX.out wm hT)
    clear hU HX
    unfold qv at HK
    ((try dsimp only); repeat (first | go_values | go_skip | go_guarded | go_step | go_upon))
    refine HK.out.mono ?_
    rintro e wn ⟨E1, F1, E2, F2, rfl, hf1, hf2, sx, sy, hb⟩
    have hz := HU.out.z
    have hm : Mem w.heap.size w ((wn.alloc (.cells #[.bool (decide (C.1.num < 0)), .slice E1 (qn C.1).length (qn C.1).length, .slice F1 (qd C.1).length (qd C.1).length] 45)).alloc (.cells #[.bool (decide (C.2.num < 0)), .slice E2 (qn C.2).length (qn C.2).length, .slice F2 (qd C.2).length (qd C.2).length] 45)) _ _ := ((((HU.out.keep hb).rat hz hf1).rat hz hf2).alloc (qo E1 F1 C.1)).alloc (qo E2 F2 C.2)
    rw [World.size_alloc] at hm
    have hgz := HU.out.lt 7 rfl
    have hgy := HU.out.lt 6 rfl
    have hbs := hb.size
    clear HK HU hb hf1 hf2 y0 y1 y2 y3 z0 z1 z2 z3 hz
    have HSZ := Lib.hid (And.intro sx sy)
    clear sx sy
    go_upto_region 7 with (fail)
    generalize (World.alloc (World.alloc wn _) _) = wo at *
    have hSd := hm.drew
    clear hm
    have hSk : Mem w.heap.size w wo.drew (CkL w.heap.size a b c d wn.heap.size E1 F1 E2 F2 C) [(E1, F1, C.1), (E2, F2, C.2)] :=
      ⟨hSd.b, hSd.z, fun i g o e => match i, e with | 0, e => hSd.l 0 g o e | 1, e => hSd.l 1 g o e | 2, e => hSd.l 2 g o e | 3, e => hSd.l 3 g o e | 4, e => hSd.l 4 g o e | 5, e => hSd.l 5 g o e | 6, e => hSd.l 8 g o e | 7, e => hSd.l 9 g o e, hSd.r⟩
    clear hSd
    have hn1 : w.heap.size + 6 ≤ wn.heap.size := by omega
    have hn2 : w.heap.size + 6 ≤ wn.heap.size + 1 := by omega
    have hn3 : wn.heap.size ≠ wn.heap.size + 1 := by omega
    refine start_ (n := 5) (S := fun w' => w'.heap[wn.heap.size]? = some (qo E1 F1 C.1) ∧ w'.heap[wn.heap.size + 1]? = some (qo E2 F2 C.2)) (ds := [3]) #[false, false, false, false, false] (by kernel_rfl) rfl rfl (⟨hSk.l 6 _ _ rfl, hSk.l 7 _ _ rfl⟩) (fun hHeld => ?_)
    refine ld 0 49 ?_ ?_ rfl rfl (by kernel_rfl) (fun _ _ _ h => h) (by rfl) hHeld ?_ ?_ ?_; rotate_left 2
    · rintro w' ⟨hs1, hs2⟩
      obtain ⟨q0, q1, q2, _⟩ := row3 hs1
      obtain ⟨q4, q5, q6, _⟩ := row3 hs2
      clear hs1 hs2
      go_simp; with_reducible rfl
    · simp only [pA, pB, pC, pD, i64_w, i32_w]; rfl
    refine ld 1 50 ?_ ?_ rfl rfl (by kernel_rfl) (fun _ _ _ h => h) (by rfl) hHeld ?_ ?_ ?_; rotate_left 2
    · rintro w' ⟨hs1, hs2⟩
      obtain ⟨q0, q1, q2, _⟩ := row3 hs1
      obtain ⟨q4, q5, q6, _⟩ := row3 hs2
      clear hs1 hs2
      go_simp; with_reducible rfl
    · simp only [pA, pB, pC, pD, i64_w, i32_w]; rfl
    generalize wo.drew = wq at *
    obtain ⟨y0, y1, y2, y3, y4, y5⟩ := row3 (hSk.l 4 _ _ rfl)
    refine one_ (i := 2) (N := none) #[true, true, true, false, false] rfl rfl (by kernel_rfl) (by decide) (fun K hK => ?_)
    refine skip_ (w1 := triSet (w.heap.size + 1 + 1 + 1 + 1) (.bool (decide (C.1.num < 0))) (.slice E1 (qn C.1).length (qn C.1).length) (.slice F1 (qd C.1).length (qd C.1).length) wq) (by rfl) rfl ?_ ?_
    · go_simp
      rfl
    refine hK.out _ _ (by exact ⟨(triSet_other _ (by omega)).trans hHeld.1, (triSet_other _ (by omega)).trans hHeld.2⟩) (fun hHeld => ?_)
    clear hK K
    have hG : Mem w.heap.size w (triSet (w.heap.size + 1 + 1 + 1 + 1) (.bool (decide (C.1.num < 0))) (.slice E1 (qn C.1).length (qn C.1).length) (.slice F1 (qd C.1).length (qd C.1).length) wq) _ _ := hSk.three 4 rfl (by decide) (by omega) (fun j o e => idx8 hn1 hn2 hn3 4 j _ _ _ rfl e) (.bool (decide (C.1.num < 0))) (.slice E1 (qn C.1).length (qn C.1).length) (.slice F1 (qd C.1).length (qd C.1).length)
    clear y0 y1 y2 y3 y4 y5 hSk
    generalize triSet _ _ _ _ wq = wr at *
    obtain ⟨y0, y1, y2, y3, y4, y5⟩ := row3 (hG.l 5 _ _ rfl)
    refine last_ (i := 3) (N := none) #[true, true, true, true, false] rfl rfl (by kernel_rfl) (by decide) (fun K hK => ?_)
    refine skip_ (w1 := triSet (w.heap.size + 1 + 1 + 1 + 1 + 1) (.bool (decide (C.2.num < 0))) (.slice E2 (qn C.2).length (qn C.2).length) (.slice F2 (qd C.2).length (qd C.2).length) wr) (by rfl) rfl ?_ ?_
    · go_simp
      rfl
    refine hK.out _ _ ?_
    clear hK K
    replace hG : Mem w.heap.size w (triSet (w.heap.size + 1 + 1 + 1 + 1 + 1) (.bool (decide (C.2.num < 0))) (.slice E2 (qn C.2).length (qn C.2).length) (.slice F2 (qd C.2).length (qd C.2).length) wr) _ _ := hG.three 5 rfl (by decide) (by omega) (fun j o e => idx8 hn1 hn2 hn3 5 j _ _ _ rfl e) (.bool (decide (C.2.num < 0))) (.slice E2 (qn C.2).length (qn C.2).length) (.slice F2 (qd C.2).length (qd C.2).length)
    clear y0 y1 y2 y3 y4 y5
    generalize triSet _ _ _ _ wr = ws at *
    refine pu 4 10 ?_ ?_ rfl rfl (by kernel_rfl) (fun _ _ _ h => h) (by rfl) (fun _ => ?_) ?_ ?_; rotate_left 2
    · go_simp; with_reducible rfl
    · simp only [pA, pB, pC, pD, i64_w, i32_w]; rfl
    refine done_ (by kernel_rfl) ?_
    have HG := Lib.hid hG
    clear hG
    ((try dsimp only); repeat (first | go_values | go_skip | go_guarded | go_step | go_upon))
    refine bodyPost_ret (results_rows_tmp rfl _ _ (w.heap.size + 1 + 1 + 1 + 1) (w.heap.size + 1 + 1 + 1 + 1 + 1) _ _ _ _ _ _ _ _ rfl rfl (HG.out.l 4 _ _ rfl) (HG.out.l 5 _ _ rfl) rfl rfl rfl rfl rfl rfl) rfl ?_
    exact ⟨fun h => absurd h hT, fun _ => ⟨E1, F1, E2, F2, rfl, HG.out.r 0 _ _ _ rfl, HG.out.r 1 _ _ _ rfl, HSZ.out.1, HSZ.out.2⟩, HG.out.b⟩
end Go.Proofs.YtggfppgjabembaaGreatDoor

namespace Go.Proofs.YtggfppgjabembaaGreatDoor
open Go.RowKit
set_option linter.unusedVariables false
theorem dvd_two_pow : ∀ {j d : Nat}, d ∣ 2 ^ j → ∃ i, d = 2 ^ i
  | 0, d, h => ⟨0, by simpa using h⟩
  | j + 1, d, h => by
    rcases Nat.mod_two_eq_zero_or_one d with e | e
    · obtain ⟨c, rfl⟩ := Nat.dvd_of_mod_eq_zero e
      rw [Nat.pow_succ, Nat.mul_comm (2 ^ j)] at h
      obtain ⟨i, hi⟩ := dvd_two_pow (Nat.dvd_of_mul_dvd_mul_left (by decide) h)
      exact ⟨i + 1, by rw [hi, Nat.pow_succ, Nat.mul_comm]⟩
    · have hc : Nat.Coprime d 2 := by
        rw [Nat.coprime_iff_gcd_eq_one, Nat.gcd_comm, Nat.gcd_rec, e]
        decide
      rw [Nat.pow_succ] at h
      exact dvd_two_pow (hc.dvd_of_dvd_mul_right h)
theorem blen_two_pow (k : Nat) : blen ((2:Int) ^ k) = k + 1 := blen_unique (Int.le_refl _) (ipow_lt (Nat.lt_succ_self _))
theorem pos_of_mul {X P : Int} (hP : 0 < P) (h : 0 < X * P) : 0 < X := by
  rcases Int.lt_trichotomy X 0 with e | e | e
  · have := Int.mul_neg_of_neg_of_pos e hP; omega
  · rw [e, Int.zero_mul] at h; omega
  · exact e
theorem finR_whole {neg : Bool} {m x : Int} (h0 : 0 < m) (h1 : m < 9007199254740992) (hx : -1074 ≤ x) (hx1 : x ≤ 971) (hc : 4503599627370496 ≤ m ∨ x = -1074) :
    finR neg (m * 2 ^ (63 - blen m).toNat) (blen m + x - 63) false = (jn neg m x, 0) := by
  have n1 := blen_pos h0
  have n2 : blen m ≤ 53 := blen_le_of_lt (n := 53) (by show m < 9007199254740992; omega)
  have n3 : 4503599627370496 ≤ m → (52 : Int) < blen m := fun h => blen_gt_of_le (n := 52) h
  obtain ⟨k, hk⟩ : ∃ k : Nat, 63 - blen m = k := ⟨(63 - blen m).toNat, by omega⟩
  rw [hk, Int.toNat_natCast]
  have hb : blen (m * 2 ^ k) = 63 := by rw [blen_mul_pow k h0]; omega
  have p := ipow_pos k
  have hM : m * 2 ^ k ≠ 0 := fun e => by rcases Int.mul_eq_zero.1 e with e | e <;> omega
  have hM0 : 0 ≤ m * 2 ^ k := Int.mul_nonneg (by omega) (by omega)
  have hM1 : m * 2 ^ k ≤ 18446744073709551615 := by
    have := blen_lt (m * 2 ^ k)
    rw [hb] at this
    have e : (2:Int) ^ (63:Int).toNat = 9223372036854775808 := by decide
    omega
  have hL : lastR (m * 2 ^ k) (blen m + x - 63) = x := by
    unfold lastR
    rw [if_neg hM, hb]
    rcases hc with hc | hc
    · have := n3 hc
      rw [if_neg (by omega)]; omega
    · by_cases h : blen m + x - 63 + 63 - 53 < -1074
      · rw [if_pos h]; omega
      · rw [if_neg h]; omega
  have hS : stepR (m * 2 ^ k) (blen m + x - 63) = (m, 0) := by
    have e1 : (stepR (m * 2 ^ k) (blen m + x - 63)) = cutR (m * 2 ^ k) k := by
      unfold stepR
      rw [hL, if_pos (by omega)]
      congr 1
      omega
    rw [e1]
    have hd : (m * 2 ^ k) % 2 ^ ((k : Int)).toNat = 0 := by rw [Int.toNat_natCast]; exact Int.mul_emod_left _ _
    have f1 := cutR_fst hM0 hM1 (show (0 : Int) < k by omega)
    have f2 := cutR_exact hM0 (show (0 : Int) < k by omega) (by omega) hd
    rw [Int.toNat_natCast, Int.mul_ediv_cancel _ (by omega)] at f1
    exact Prod.ext f1 f2
  have hF : finM (m * 2 ^ k) (blen m + x - 63) false = (m, x) := by
    unfold finM
    rw [hS, hL]
    have hr : roundR m (tailR 0 false) = m := by
      have : tailR 0 false = 0 := by decide
      rw [this]
      unfold roundR upR
      simp
    rw [show (m, (0:Int)).1 = m from rfl, show (m, (0:Int)).2 = 0 from rfl, hr, if_neg (by omega)]
  unfold finR
  rw [hF, if_neg (show ¬ 971 < (m, x).2 by show ¬ 971 < x; omega)]
theorem quotR_whole {neg : Bool} {X m x : Int} {k a c : Nat} (h0 : 0 < m) (h1 : m < 9007199254740992) (hx : -1074 ≤ x) (hx1 : x ≤ 971) (hc : 4503599627370496 ≤ m ∨ x = -1074) (hac : (a : Int) - c = x)
    (hX : X * 2 ^ c = m * 2 ^ a * 2 ^ k) : quotR neg X (2 ^ k) = (jn neg m x, 0) := by
  have n1 := blen_pos h0
  have n2 : blen m ≤ 53 := blen_le_of_lt (n := 53) (by show m < 9007199254740992; omega)
  have hpos : 0 < X := by
    have := Int.mul_pos (Int.mul_pos h0 (ipow_pos a)) (ipow_pos k)
    rw [← hX] at this
    exact pos_of_mul (ipow_pos c) this
  have hb : blen X + c = blen m + a + k := by
    rw [← blen_mul_pow c hpos, hX, blen_mul_pow k (Int.mul_pos h0 (ipow_pos a)), blen_mul_pow a h0]
  have hs : blen X - blen ((2:Int) ^ k) = blen m + x - 1 := by rw [blen_two_pow]; omega
  have hq : ∀ (e : Nat), (e : Int) = 63 - blen m → X * 2 ^ c = m * 2 ^ a * 2 ^ k := fun _ _ => hX
  obtain ⟨d, hd⟩ : ∃ d : Nat, 63 - blen m = d := ⟨(63 - blen m).toNat, by omega⟩
  have hf := finR_whole (neg := neg) h0 h1 hx hx1 hc
  rw [hd, Int.toNat_natCast] at hf
  unfold quotR
  rw [if_neg (by omega), hs, if_neg (by omega), if_neg (by omega)]
  have eE : blen m + x - 1 - 62 = blen m + x - 63 := by omega
  rw [eE]
  by_cases he : 0 < blen m + x - 63
  · obtain ⟨e, hee⟩ : ∃ e : Nat, blen m + x - 63 = e := ⟨(blen m + x - 63).toNat, by omega⟩
    rw [if_pos he, hee, Int.toNat_natCast]
    have hval : X = m * 2 ^ d * (2 ^ k * 2 ^ e) := by
      have h2 : X * 2 ^ c = m * 2 ^ d * (2 ^ k * 2 ^ e) * 2 ^ c := by
        rw [hX]
        have : (2:Int) ^ a = 2 ^ d * 2 ^ e * 2 ^ c := by rw [← Int.pow_add, ← Int.pow_add]; congr 1; omega
        rw [this]
        generalize (2:Int) ^ d = D
        generalize (2:Int) ^ e = E
        generalize (2:Int) ^ c = C
        generalize (2:Int) ^ k = K
        grind
      exact Int.eq_of_mul_eq_mul_right (Int.ne_of_gt (ipow_pos c)) h2
    have hp : (0:Int) < 2 ^ k * 2 ^ e := Int.mul_pos (ipow_pos k) (ipow_pos e)
    rw [hval, Int.mul_ediv_cancel _ (by omega), Int.mul_emod_left]
    rw [hee] at hf
    simpa using hf
  · obtain ⟨e, hee⟩ : ∃ e : Nat, -(blen m + x - 63) = e := ⟨(-(blen m + x - 63)).toNat, by omega⟩
    rw [if_neg he, hee, Int.toNat_natCast]
    have hval : X * 2 ^ e = m * 2 ^ d * 2 ^ k := by
      have h2 : X * 2 ^ e * 2 ^ c = m * 2 ^ d * 2 ^ k * 2 ^ c := by
        have e1 : X * 2 ^ e * 2 ^ c = X * 2 ^ c * 2 ^ e := by
          generalize (2:Int) ^ e = E
          generalize (2:Int) ^ c = C
          grind
        have e2 : (2:Int) ^ a * 2 ^ e = 2 ^ d * 2 ^ c := by rw [← Int.pow_add, ← Int.pow_add]; congr 1; omega
        rw [e1, hX]
        have e3 : m * 2 ^ a * 2 ^ k * 2 ^ e = m * 2 ^ k * (2 ^ a * 2 ^ e) := by
          generalize (2:Int) ^ e = E
          generalize (2:Int) ^ a = A
          generalize (2:Int) ^ k = K
          grind
        rw [e3, e2]
        generalize (2:Int) ^ d = D
        generalize (2:Int) ^ c = C
        generalize (2:Int) ^ k = K
        grind
      exact Int.eq_of_mul_eq_mul_right (Int.ne_of_gt (ipow_pos c)) h2
    rw [hval, Int.mul_ediv_cancel _ (Int.ne_of_gt (ipow_pos k)), Int.mul_emod_left]
    simpa using hf
theorem jn_back {b : Int} (h : Fin64 b) : jn (fneg b) (fm b) (fx b) = b := by
  obtain ⟨h0, h1, h2⟩ := h
  unfold jn fneg fm fx fe ff at *
  by_cases e : b / 4503599627370496 % 2048 = 0
  · rw [if_pos e, if_pos e]
    by_cases n : 9223372036854775808 ≤ b
    · rw [decide_eq_true n]; simp only [if_true]; omega
    · rw [decide_eq_false n]; simp only [Bool.false_eq_true, if_false]; omega
  · rw [if_neg e, if_neg e]
    by_cases n : 9223372036854775808 ≤ b
    · rw [decide_eq_true n]; simp only [if_true]; omega
    · rw [decide_eq_false n]; simp only [Bool.false_eq_true, if_false]; omega
theorem fm_zero {b : Int} (h : Fin64 b) (hz : fm b = 0) (hn : b ≠ 9223372036854775808) : b = 0 := by
  obtain ⟨h0, h1, h2⟩ := h
  unfold fm fe ff at *
  split at hz <;> omega
theorem fm_norm {b : Int} : 4503599627370496 ≤ fm b ∨ fx b = -1074 := by
  have := ff_range b
  unfold fm fx
  split
  · exact Or.inr rfl
  · exact Or.inl (by omega)
theorem nearR_fval {b : Int} (h : Fin64 b) (hn : b ≠ 9223372036854775808) : nearR (fval b) = (b, 0) := by
  have hr := fm_range b
  have hxr := fx_range h
  by_cases hz : fm b = 0
  · rw [fval_of_fm hz, fm_zero h hz hn]
    decide +kernel
  · obtain ⟨p1, p2, p3⟩ := quo_parts (fneg b) (fnum_nonneg b) (fden_pos b)
    have hm0 : 0 < fm b := by omega
    have hnp : 0 < fnum b := Int.mul_pos hm0 (ipow_pos _)
    have hg : (0 : Int) < (Int.gcd (fnum b) (fden b) : Nat) := by
      have := Int.gcd_pos_of_ne_zero_right (fnum b) (show fden b ≠ 0 by have := fden_pos b; omega)
      omega
    have d1 : ((Int.gcd (fnum b) (fden b) : Nat) : Int) ∣ fnum b := Int.gcd_dvd_left ..
    have d2 : ((Int.gcd (fnum b) (fden b) : Nat) : Int) ∣ fden b := Int.gcd_dvd_right ..
    have hY : ∃ k : Nat, (((fval b).den : Nat) : Int) = 2 ^ k := by
      have hdv : (((fval b).den : Nat) : Int) ∣ fden b := by
        show (((quo (fneg b) (fnum b) (fden b)).den : Nat) : Int) ∣ fden b
        rw [p2]
        exact Int.ediv_dvd_of_dvd d2
      have e : fden b = ((2 ^ (-(fx b)).toNat : Nat) : Int) := by unfold fden; rw [ipow_cast]
      rw [e] at hdv
      obtain ⟨i, hi⟩ := dvd_two_pow (Int.natCast_dvd_natCast.1 hdv)
      exact ⟨i, by rw [hi, ipow_cast]⟩
    obtain ⟨k, hk⟩ := hY
    have hX : (((fval b).num.natAbs : Nat) : Int) * 2 ^ (-(fx b)).toNat = fm b * 2 ^ (fx b).toNat * 2 ^ k := by
      rw [← hk]
      show (((quo (fneg b) (fnum b) (fden b)).num.natAbs : Nat) : Int) * fden b = fnum b * (((quo (fneg b) (fnum b) (fden b)).den : Nat) : Int)
      rw [p1, p2]
      generalize ((Int.gcd (fnum b) (fden b) : Nat) : Int) = g at *
      obtain ⟨u, hu⟩ := d1
      obtain ⟨v, hv⟩ := d2
      rw [hu, hv, Int.mul_ediv_cancel_left _ (by omega), Int.mul_ediv_cancel_left _ (by omega)]
      grind
    have hs : decide ((fval b).num < 0) = fneg b := by
      show decide ((quo (fneg b) (fnum b) (fden b)).num < 0) = fneg b
      rw [p3]
      have hpos : 0 < fnum b / ((Int.gcd (fnum b) (fden b) : Nat) : Int) := by
        refine pos_of_mul hg ?_
        rw [Int.ediv_mul_cancel d1]
        exact hnp
      have := limbs_len_zero (Int.le_of_lt hpos)
      rw [decide_eq_true (show 0 < (limbs (fnum b / ((Int.gcd (fnum b) (fden b) : Nat) : Int))).length by omega), Bool.and_true]
    unfold nearR
    rw [hs, hk, quotR_whole (a := (fx b).toNat) (c := (-(fx b)).toNat) hm0 hr.2 hxr.1 hxr.2 fm_norm (by omega) hX, jn_back h]
end Go.Proofs.YtggfppgjabembaaGreatDoor

namespace Go.Proofs.YtggfppgjabembaaGreatDoor
open Go.RowKit
set_option linter.unusedVariables false
theorem area_diff (a b c d : Pl) : area2 a b d - area2 a b c = turnR a b c d := by unfold area2 turnR; grind
theorem cross_on1 (a b c d : Pl) : area2 a b (crR a b c d) = 0 := by
  unfold area2 crR
  generalize crK a b c d = k
  grind
theorem crK_turn {a b c d : Pl} (h : turnR a b c d ≠ 0) : crK a b c d * turnR a b c d = (c.1 - a.1) * (d.2 - c.2) - (c.2 - a.2) * (d.1 - c.1) := Rat.div_mul_cancel h
theorem cross_on2 {a b c d : Pl} (h : turnR a b c d ≠ 0) : area2 c d (crR a b c d) = 0 := by
  have e := crK_turn h
  unfold area2 crR
  generalize crK a b c d = k at *
  unfold turnR at e
  grind
theorem cross_one {a b c d p : Pl} (h : turnR a b c d ≠ 0) (h1 : area2 a b p = 0) (h2 : area2 c d p = 0) : crR a b c d = p := by
  have e := crK_turn h
  have g1 : ((crR a b c d).1 - p.1) * turnR a b c d = 0 := by
    unfold crR
    generalize crK a b c d = k at *
    unfold area2 at h1 h2
    unfold turnR at *
    grind
  have g2 : ((crR a b c d).2 - p.2) * turnR a b c d = 0 := by
    unfold crR
    generalize crK a b c d = k at *
    unfold area2 at h1 h2
    unfold turnR at *
    grind
  refine Prod.ext ?_ ?_
  · rcases Rat.mul_eq_zero.1 g1 with g | g
    · grind
    · exact absurd g h
  · rcases Rat.mul_eq_zero.1 g2 with g | g
    · grind
    · exact absurd g h
theorem cross_sz {a b c d : Pt} (fa : FinP a) (fb : FinP b) (fc : FinP c) (fd : FinP d) (ht : turnR (pl a) (pl b) (pl c) (pl d) ≠ 0) : Sz 30000 (crR (pl a) (pl b) (pl c) (pl d)).1 ∧ Sz 30000 (crR (pl a) (pl b) (pl c) (pl d)).2 := by
  have s1 := pl_sz fa
  have s2 := (pl_sz fb).sub (pl_sz fa)
  have s3 := (pl_sz fd).sub (pl_sz fc)
  have s4 := (pl_sz fc).sub (pl_sz fa)
  have s6 := turn_sz s4 s3
  have s9 := turn_sz s2 s3
  have hq : (turnR (pl a) (pl b) (pl c) (pl d)).num ≠ 0 := fun h => ht (Rat.num_eq_zero.1 h)
  have s10 : Sz 17210 (crK (pl a) (pl b) (pl c) (pl d)) := (s6.div s9 hq).mono (by omega)
  exact ⟨(s1.1.add (s10.mul s2.1)).mono (by omega), (s1.2.add (s10.mul s2.2)).mono (by omega)⟩
theorem meetM_proper {a b c d : Pt} (fa : FinP a) (fb : FinP b) (fc : FinP c) (fd : FinP d) (h : (meetM a b c d).proper = true) : turnR (pl a) (pl b) (pl c) (pl d) ≠ 0 := by
  have hz : ∀ p, pl (zp p) = pl p := pl_zp
  have h0 : (loops (zp a) (zp b) (zp c) (zp d)).proper = false := by unfold loops touch apartM; (repeat' split) <;> rfl
  have h1 : ∀ r0 r1 q0 q1, (alongR r0 r1 q0 q1).proper = false := by intro r0 r1 q0 q1; unfold alongR touch apartM; (repeat' split) <;> rfl
  unfold meetM meetR at h
  split at h
  · rw [h0] at h; cases h
  · split at h
    · rw [h1] at h; cases h
    · split at h
      · rename_i hh
        have := turn_ne hh.1
        rw [hz, hz, hz, hz] at this
        exact this
      · rw [h0] at h; cases h
theorem meetM_kinds (a b c d : Pt) : (meetM a b c d).kind = 0 ∨ (meetM a b c d).kind = 1 ∨ (meetM a b c d).kind = 2 := by
  have h0 : (loops (zp a) (zp b) (zp c) (zp d)).kind = 0 ∨ (loops (zp a) (zp b) (zp c) (zp d)).kind = 1 ∨ (loops (zp a) (zp b) (zp c) (zp d)).kind = 2 := by unfold loops touch apartM; (repeat' split) <;> simp
  have h1 : ∀ r0 r1 q0 q1, (alongR r0 r1 q0 q1).kind = 0 ∨ (alongR r0 r1 q0 q1).kind = 1 ∨ (alongR r0 r1 q0 q1).kind = 2 := by intro r0 r1 q0 q1; unfold alongR touch apartM; (repeat' split) <;> simp
  unfold meetM meetR
  split
  · exact h0
  · split
    · exact h1 _ _ _ _
    · split
      · simp
      · exact h0
theorem meetM_properP {a b c d : Pt} (h : (meetM a b c d).proper = true) : (meetM a b c d).P = meetX (zp a) (zp b) (zp c) (zp d) ∧ sideP a b c * sideP a b d < 0 ∧ sideP c d a * sideP c d b < 0 := by
  have h0 : (loops (zp a) (zp b) (zp c) (zp d)).proper = false := by unfold loops touch apartM; (repeat' split) <;> rfl
  have h1 : ∀ r0 r1 q0 q1, (alongR r0 r1 q0 q1).proper = false := by intro r0 r1 q0 q1; unfold alongR touch apartM; (repeat' split) <;> rfl
  unfold meetM meetR at h ⊢
  split at h
  · rw [h0] at h; cases h
  · rename_i k1
    split at h
    · rw [h1] at h; cases h
    · rename_i k2
      split at h
      · rename_i hh
        rw [if_neg k1, if_neg k2, if_pos hh]
        refine ⟨rfl, ?_⟩
        unfold sideP at hh ⊢
        simp only [pl_zp] at hh
        exact hh
      · rw [h0] at h; cases h
theorem touch_law {a b c d p : Pt} (fp : FinP p) (ht : turnR (pl a) (pl b) (pl c) (pl d) ≠ 0) (h1 : area2 (pl a) (pl b) (pl p) = 0) (h2 : area2 (pl c) (pl d) (pl p) = 0) :
    FitQ (crR (pl a) (pl b) (pl c) (pl d)).1 ∧ FitQ (crR (pl a) (pl b) (pl c) (pl d)).2 ∧ zp p = ((nearR (crR (pl a) (pl b) (pl c) (pl d)).1).1, (nearR (crR (pl a) (pl b) (pl c) (pl d)).2).1) := by
  rw [cross_one ht h1 h2]
  refine ⟨fval_fit fp.1, fval_fit fp.2, ?_⟩
  have g := good_zp fp.1 fp.2
  have e1 := nearR_fval g.f1 g.n1
  have e2 := nearR_fval g.f2 g.n2
  have p1 : fval (zp p).1 = (pl p).1 := fval_zed _
  have p2 : fval (zp p).2 = (pl p).2 := fval_zed _
  rw [p1] at e1
  rw [p2] at e2
  rw [e1, e2]
theorem area_ends (a b : Pl) : area2 a b a = 0 ∧ area2 a b b = 0 := by unfold area2; exact ⟨by grind, by grind⟩
theorem btwP_area {a b p : Pt} (h : btwP a b p = true) : area2 (pl a) (pl b) (pl p) = 0 := qsgn_zero.1 (btw_side h)
theorem meetM_point_law {a b c d : Pt} (fa : FinP a) (fb : FinP b) (fc : FinP c) (fd : FinP d) (ht : turnR (pl a) (pl b) (pl c) (pl d) ≠ 0) (hk : (meetM a b c d).kind ≠ 0) :
    (meetM a b c d).kind = 1 ∧ FitQ (crR (pl a) (pl b) (pl c) (pl d)).1 ∧ FitQ (crR (pl a) (pl b) (pl c) (pl d)).2 ∧ (meetM a b c d).P = ((nearR (crR (pl a) (pl b) (pl c) (pl d)).1).1, (nearR (crR (pl a) (pl b) (pl c) (pl d)).2).1) := by
  have ML : MeetLaw (meetM a b c d) (zp a) (zp b) (zp c) (zp d) := meet_law (good_zp fa.1 fa.2) (good_zp fb.1 fb.2) (good_zp fc.1 fc.2) (good_zp fd.1 fd.2)
  obtain ⟨l1, l2, l3, l4, l5⟩ := ML
  have sz : ∀ p q r : Pt, sideP (zp p) (zp q) (zp r) = sideP p q r := fun p q r => by unfold sideP; rw [pl_zp, pl_zp, pl_zp]
  have bz : ∀ p q r : Pt, btwP (zp p) (zp q) (zp r) = btwP p q r := fun p q r => by unfold btwP; rw [pl_zp, pl_zp, pl_zp]
  simp only [sz, bz] at l1 l2 l3 l4 l5
  have k1 : (meetM a b c d).kind = 1 := by
    rcases meetM_kinds a b c d with k | k | k
    · exact absurd k hk
    · exact k
    · obtain ⟨_, _, _, _, _, s3, s4⟩ := l5 k
      have e1 := qsgn_zero.1 s3
      have e2 := qsgn_zero.1 s4
      have := area_diff (pl a) (pl b) (pl c) (pl d)
      rw [e1, e2] at this
      exact absurd (by grind) ht
  refine ⟨k1, ?_⟩
  cases hp : (meetM a b c d).proper
  · have hs : (btwP a b c || btwP a b d || btwP c d a || btwP c d b) = true := by
      cases hx : (btwP a b c || btwP a b d || btwP c d a || btwP c d b)
      · exact absurd (l3 hx hp) hk
      · rfl
    obtain ⟨_, hP, _⟩ := l4 hs
    rcases hP with ⟨g, gp⟩ | ⟨g, gp⟩ | ⟨g, gp⟩ | ⟨g, gp⟩ <;> rw [gp]
    · exact touch_law fc ht (btwP_area g) (area_ends _ _).1
    · exact touch_law fd ht (btwP_area g) (area_ends _ _).2
    · exact touch_law fa ht (area_ends _ _).1 (btwP_area g)
    · exact touch_law fb ht (area_ends _ _).2 (btwP_area g)
  · obtain ⟨hP, s1, s2⟩ := meetM_properP hp
    obtain ⟨f1, f2⟩ := crossFit a b c d fa fb fc fd s1 s2
    refine ⟨f1, f2, ?_⟩
    rw [hP]
    unfold meetX
    rw [pl_zp, pl_zp, pl_zp, pl_zp]
end Go.Proofs.YtggfppgjabembaaGreatDoor
