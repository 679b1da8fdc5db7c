/- Plain: rings: edges, areas, moments; their sizes. -/
import Derived.Test.YtfpofmifmapmfaaGreatDoorKC
import Derived.Test.YtfpofmifmapmfaaGreatDoorKE
import Derived.Test.YtfpofmifmapmfaaGreatDoorNF
import Derived.Test.YtfpofmifmapmfaaGreatDoorKA
import Derived.Maps.AppendAt
import Derived.OrdersIn
import Derived.RangeFuncNested
import Derived.RangeFuncBound
import Derived.RangeFuncCalls
import Derived.RangeFuncLeaves
import Derived.LoopNIn
import Derived.LoopIn
namespace Go.Proofs.YtfpofmifmapmfaaGreatDoor
open Go
variable {P : Program} {ops : Array Oper} {Q : Exit → Act → World → Prop} {md : Region.Mode}
def toCome (listed : Array Bool) : Nat := (listed.toList.filter fun b => !b).length
theorem toCome_set {listed : Array Bool} {i : Nat} (h : i < listed.size) (hf : listed.getD i true = false) : toCome (listed.setIfInBounds i true) + 1 = toCome listed := by
  obtain ⟨l⟩ := listed
  simp only [toCome, Array.setIfInBounds, List.size_toArray] at *
  rw [dif_pos h]
  simp only [List.set_toArray]
  replace hf : l.getD i true = false := by simpa using hf
  induction l generalizing i with
  | nil => simp at h
  | cons b l ih =>
    cases i with
    | zero =>
      have : b = false := by simpa using hf
      subst this
      simp
    | succ i =>
      have h' : i < l.length := by simpa using h
      have hf' : l.getD i true = false := by simpa using hf
      have := ih h' hf'
      cases b <;> simp at this ⊢ <;> omega
theorem ready_mem {listed : Array Bool} {i : Nat} (h : i ∈ Region.ready md ops listed) :
    i < ops.size ∧ listed.getD i true = false ∧ ∀ o, ops[i]? = some o → ∀ e ∈ o.after, Region.binds md e = true → listed.getD e.on false = true := by
  unfold Region.ready at h
  rw [List.mem_filter, List.mem_range, Bool.and_eq_true] at h
  obtain ⟨h1, h2, h3⟩ := h
  refine ⟨h1, by simpa using h2, fun o ho e he hb => ?_⟩
  rw [ho] at h3
  simp only [Option.map_some, Option.getD_some] at h3
  rw [Array.all_eq_true_iff_forall_mem] at h3
  have := h3 e he
  rw [hb] at this
  simpa using this
theorem ready_nil {listed : Array Bool} (hs : listed.size = ops.size) (h : toCome listed = 0) : Region.ready md ops listed = [] := by
  rw [List.eq_nil_iff_forall_not_mem]
  intro i hi
  obtain ⟨h1, h2, -⟩ := ready_mem hi
  have := toCome_set (by omega) h2
  omega
theorem wpAny_free (I : Array Bool → Act → World → Prop)
    (hstep : ∀ (listed : Array Bool) a w i, listed.size = ops.size → I listed a w → i ∈ Region.ready md ops listed → wpOp P ops Q i (fun a' w' => I (listed.setIfInBounds i true) a' w') a w)
    (hend : ∀ (listed : Array Bool) a w, listed.size = ops.size → I listed a w → Region.ready md ops listed = [] → Q .normal a w) :
    ∀ (fuel : Nat) (listed : Array Bool) a w, listed.size = ops.size → toCome listed ≤ fuel → I listed a w → wpAny P md ops Q fuel listed a w
  | 0, listed, a, w, hs, hf, h => ⟨ready_nil hs (by omega), hend listed a w hs h (ready_nil hs (by omega))⟩
  | fuel + 1, listed, a, w, hs, hf, h => ⟨hend listed a w hs h, fun i hi => by
      obtain ⟨h1, h2, -⟩ := ready_mem hi
      have h3 := toCome_set (by omega) h2
      exact wpOp_mono (fun a' w' h' => wpAny_free I hstep hend fuel _ a' w' (by simpa using hs) (by omega) h') (hstep listed a w i hs h hi)⟩
structure FreeI (ops : Array Oper) (a0 : Act) (B : Nat) (w0 : World) (V : Nat → Value → World → Prop) (listed : Array Bool) (a : Act) (w : World) : Prop where
  defers : a.defers = a0.defers
  size : a.tmps.size = a0.tmps.size
  below : Go.RowKit.Below B w0 w
  big : B ≤ w.heap.size
  old : ∀ k, (∀ i o, ops[i]? = some o → o.dst = some k → listed.getD i false = false) → a.tmps.getD k undef = a0.tmps.getD k undef
  new : ∀ i o d, ops[i]? = some o → o.dst = some d → listed.getD i false = true → V i (a.tmps.getD d undef) w
theorem getD_setIf (xs : Array Value) (d k : Nat) (v : Value) (hd : d < xs.size) : (xs.setIfInBounds d v).getD k undef = if k = d then v else xs.getD k undef := by
  by_cases h : k = d
  · subst h; simp [Array.getD, hd]
  · rw [if_neg h]
    simp only [Array.getD_eq_getD_getElem?]
    rw [Array.getElem?_setIfInBounds_ne (by omega)]
theorem getD_setB (xs : Array Bool) (d k : Nat) : (xs.setIfInBounds d true).getD k false = true → k = d ∨ xs.getD k false = true := by
  intro h
  by_cases e : k = d
  · exact Or.inl e
  · right
    simp only [Array.getD_eq_getD_getElem?] at h ⊢
    rwa [Array.getElem?_setIfInBounds_ne (by omega)] at h
theorem getD_setB' (xs : Array Bool) (d k : Nat) : (xs.setIfInBounds d true).getD k false = false → xs.getD k false = false := by
  intro h
  by_cases e : k = d
  · subst e
    by_cases hk : k < xs.size
    · simp [Array.getD, hk] at h
    · simp [Array.getD, hk]
  · simp only [Array.getD_eq_getD_getElem?] at h ⊢
    rwa [Array.getElem?_setIfInBounds_ne (by omega)] at h
theorem FreeI.put {a0 : Act} {B : Nat} {w0 : World} {V : Nat → Value → World → Prop} {listed : Array Bool} {a : Act} {w w' : World} (h : FreeI ops a0 B w0 V listed a w)
    (hV : ∀ i v w w', V i v w → Go.RowKit.Below w.heap.size w w' → V i v w') {i : Nat} {o : Oper} {d : Nat} {v : Value} (hi : ops[i]? = some o) (hd : o.dst = some d) (hdl : d < a0.tmps.size)
    (hdist : ∀ j o', ops[j]? = some o' → o'.dst = some d → j = i) (hil : i < listed.size) (hb : Go.RowKit.Below w.heap.size w w') (hv : V i v w') :
    FreeI ops a0 B w0 V (listed.setIfInBounds i true) (a.put o.dst v) w' := by
  have hs := hb.size
  have e : a.put o.dst v = { a with tmps := a.tmps.setIfInBounds d v } := by rw [hd]; rfl
  rw [e]
  refine ⟨h.defers, by simpa using h.size, h.below.trans (hb.mono h.big), by have := h.big; omega, fun k hk => ?_, fun j o' d' hj hd' hl => ?_⟩
  · show (a.tmps.setIfInBounds d v).getD k undef = _
    rw [getD_setIf _ _ _ _ (by rw [h.size]; exact hdl)]
    by_cases ek : k = d
    · subst ek
      have := hk i o hi hd
      simp [Array.getD, hil] at this
    · rw [if_neg ek]
      exact h.old k fun j o' hj hd' => getD_setB' _ _ _ (hk j o' hj hd')
  · show V j ((a.tmps.setIfInBounds d v).getD d' undef) w'
    rw [getD_setIf _ _ _ _ (by rw [h.size]; exact hdl)]
    by_cases ed : d' = d
    · subst ed
      rw [if_pos rfl, hdist j o' hj hd']
      exact hv
    · rw [if_neg ed]
      rcases getD_setB _ _ _ hl with rfl | hl'
      · rw [hi] at hj
        injection hj with hj
        subst hj
        rw [hd] at hd'
        injection hd' with hd'
        exact absurd hd'.symm ed
      · exact hV _ _ _ _ (h.new j o' d' hj hd' hl') hb
end Go.Proofs.YtfpofmifmapmfaaGreatDoor

namespace Go.Proofs.YtfpofmifmapmfaaGreatDoor
open Go.RowKit Go.Proofs.YtfpofmifmapmfaaGreatDoorW.PrintLast
set_option linter.unusedVariables false
set_option linter.unusedSimpArgs false
def pt (p : Pt) : Value := .agg #[.int .u64 p.1, .int .u64 p.2]
def st (a b : Pt) : Value := .agg #[.int .u64 a.1, .int .u64 a.2, .int .u64 b.1, .int .u64 b.2]
theorem row2f {w : World} {g : Nat} {x y : Value} {t : TypeId} (h : w.heap[g]? = some (.cells #[x, y] t (0, 0))) : w.cell? ⟨g, 0, none⟩ = some x ∧ w.cell? ⟨g, 1, none⟩ = some y ∧ w.frozen? ⟨g, 0, none⟩ = false ∧ w.frozen? ⟨g, 1, none⟩ = false :=
  ⟨by rw [cell_of_cells h]; rfl, by rw [cell_of_cells h]; rfl, free_of_cells h 0, free_of_cells h 1⟩
theorem row4f {w : World} {g : Nat} {a b c d : Value} {t : TypeId} (h : w.heap[g]? = some (.cells #[a, b, c, d] t (0, 0))) : w.cell? ⟨g, 0, none⟩ = some a ∧ w.cell? ⟨g, 1, none⟩ = some b ∧ w.cell? ⟨g, 2, none⟩ = some c ∧ w.cell? ⟨g, 3, none⟩ = some d ∧
    w.frozen? ⟨g, 0, none⟩ = false ∧ w.frozen? ⟨g, 1, none⟩ = false ∧ w.frozen? ⟨g, 2, none⟩ = false ∧ w.frozen? ⟨g, 3, none⟩ = false :=
  ⟨by rw [cell_of_cells h]; rfl, by rw [cell_of_cells h]; rfl, by rw [cell_of_cells h]; rfl, by rw [cell_of_cells h]; rfl, free_of_cells h 0, free_of_cells h 1, free_of_cells h 2, free_of_cells h 3⟩
theorem heap_set_two {w : World} {g : Nat} {a b : Value} {t : TypeId} {f : Nat × Nat} (h : w.heap[g]? = some (.cells #[a, b] t f)) (x y : Value) :
    ((w.setCell ⟨g, 0, none⟩ x).setCell ⟨g, 1, none⟩ y).heap[g]? = some (.cells #[x, y] t f) := heap_set_cell (heap_set_cell h 0 x) 1 y
theorem cells_keep {w w1 w2 : World} {n : Nat} {x1 x2 y1 y2 : Value} (h : (w1.cell? ⟨n, 0, none⟩ = some x1 ∧ w1.cell? ⟨n, 1, none⟩ = some x2) ∧ (w1.cell? ⟨n + 1, 0, none⟩ = some y1 ∧ w1.cell? ⟨n + 1, 1, none⟩ = some y2) ∧ n + 1 < w1.heap.size ∧ Below n w w1) (k : Below w1.heap.size w1 w2) :
    (w2.cell? ⟨n, 0, none⟩ = some x1 ∧ w2.cell? ⟨n, 1, none⟩ = some x2) ∧ (w2.cell? ⟨n + 1, 0, none⟩ = some y1 ∧ w2.cell? ⟨n + 1, 1, none⟩ = some y2) ∧ n + 1 < w2.heap.size ∧ Below n w w2 := by
  obtain ⟨⟨a, b⟩, ⟨c, d⟩, e, f⟩ := h
  have e' : n < w1.heap.size := by omega
  exact ⟨⟨(k.cell (p := ⟨n, 0, none⟩) e').trans a, (k.cell (p := ⟨n, 1, none⟩) e').trans b⟩, ⟨(k.cell (p := ⟨n + 1, 0, none⟩) e).trans c, (k.cell (p := ⟨n + 1, 1, none⟩) e).trans d⟩, Nat.lt_of_lt_of_le e k.size, f.trans (k.mono (by omega))⟩
theorem fcl_fin {b : Int} (h : Fin64 b) : fcl b ≤ 2 := by
  obtain ⟨k1, k2, _⟩ := fcl_cases b
  by_cases e : fe b = 0
  · rcases k1 e with h | h <;> omega
  · have := k2 e h.2.2; omega
theorem fitQ_iff {q : Rat} : FitQ q ↔ -(maxQ : Rat) ≤ q ∧ q ≤ (maxQ : Rat) := by
  unfold FitQ
  have h := q.den_pos
  rw [Rat.le_iff, Rat.le_iff]
  simp only [Rat.neg_num, Rat.neg_den, Rat.num_intCast, Rat.den_intCast]
  generalize maxQ = M
  have e : -M * (q.den : Int) = -(M * q.den) := by grind
  rw [e]
  omega
theorem quo_fit {neg : Bool} {x y : Int} (hx : 0 ≤ x) (hy : 0 < y) (h : x ≤ maxQ * y) : FitQ (quo neg x y) := by
  obtain ⟨p1, p2, p3⟩ := quo_parts neg hx hy
  unfold FitQ
  rw [p1, p2]
  have hg : (0 : Int) < (Int.gcd x y : Nat) := by
    have := Int.gcd_pos_of_ne_zero_right x (show y ≠ 0 by omega)
    omega
  have d1 : ((Int.gcd x y : Nat) : Int) ∣ x := Int.gcd_dvd_left x y
  have d2 : ((Int.gcd x y : Nat) : Int) ∣ y := Int.gcd_dvd_right x y
  generalize ((Int.gcd x y : Nat) : Int) = g at *
  obtain ⟨a, rfl⟩ := d1
  obtain ⟨b, rfl⟩ := d2
  rw [Int.mul_ediv_cancel_left _ (by omega), Int.mul_ediv_cancel_left _ (by omega)]
  rw [show maxQ * (g * b) = g * (maxQ * b) by grind] at h
  exact Int.le_of_mul_le_mul_left h hg
theorem fval_fit {b : Int} (h : Fin64 b) : FitQ (fval b) := by
  refine quo_fit (fnum_nonneg b) (fden_pos b) ?_
  have m := fm_range b
  have r := fx_range h
  have d := fden_pos b
  have e : fnum b ≤ maxQ := by
    unfold fnum maxQ
    refine Int.le_trans (Int.mul_le_mul_of_nonneg_right (show fm b ≤ 9007199254740991 by omega) (Int.le_of_lt (ipow_pos _))) ?_
    exact Int.mul_le_mul_of_nonneg_left (ipow_le (by omega)) (by decide)
  have e2 : maxQ * 1 ≤ maxQ * fden b := Int.mul_le_mul_of_nonneg_left (by omega) (by unfold maxQ; decide +kernel)
  omega
theorem qsgn_pos {a : Rat} : qsgn a = 1 ↔ 0 < a := by
  unfold qsgn
  rw [Rat.lt_iff]
  have e0 : (0:Rat).num = 0 := rfl
  have e1 : (0:Rat).den = 1 := rfl
  rw [e0, e1, Int.zero_mul]
  constructor
  · intro h
    split at h
    · cases h
    · split at h
      · cases h
      · omega
  · intro h
    rw [if_neg (by omega), if_neg (by omega)]
theorem qsgn_neg {a : Rat} : qsgn a = -1 ↔ a < 0 := by
  unfold qsgn
  rw [Rat.lt_iff]
  have e0 : (0:Rat).num = 0 := rfl
  have e1 : (0:Rat).den = 1 := rfl
  rw [e0, e1, Int.zero_mul]
  constructor
  · intro h
    split at h
    · cases h
    · split at h
      · omega
      · cases h
  · intro h
    rw [if_neg (by omega), if_pos (by omega)]
theorem PSz.sub {m n : Nat} {x y : Pl} (h : PSz m x) (k : PSz n y) : PSz (m + n + 1) (x.1 - y.1, x.2 - y.2) := ⟨h.1.sub k.1, h.2.sub k.2⟩
def U64 (b : Int) : Prop := 0 ≤ b ∧ b ≤ 18446744073709551615
def PtU (p : Pt) : Prop := U64 p.1 ∧ U64 p.2
theorem fcl_inf {b : Int} (hu : U64 b) (h : ¬ Fin64 b) : 3 ≤ fcl b := by
  have he : fe b = 2047 := Classical.byContradiction fun e => h ⟨hu.1, hu.2, e⟩
  unfold fcl
  rw [he]
  simp
  split <;> omega
def PtsIn (w : World) (A : Option Addr) (ps : List Pt) : Prop := ps = [] ∨ ∃ b o, A = some ⟨b, o, none⟩ ∧ b < w.heap.size ∧ PtsAt w b o ps
theorem PtsIn.keep {w w' : World} {A : Option Addr} {ps : List Pt} (h : PtsIn w A ps) (k : Below w.heap.size w w') : PtsIn w' A ps := by
  rcases h with rfl | ⟨b, o, rfl, hb, hp⟩
  · exact Or.inl rfl
  · exact Or.inr ⟨b, o, rfl, Nat.lt_of_lt_of_le hb k.size, fun i hi => ⟨(k.cell (p := ⟨b, o + i * 2, none⟩) hb).trans (hp i hi).1, (k.cell (p := ⟨b, o + i * 2 + 1, none⟩) hb).trans (hp i hi).2⟩⟩
theorem PtsIn.open {w : World} {A : Option Addr} {ps : List Pt} (h : PtsIn w A ps) {k : Nat} (hk : k < ps.length) : ∃ b o, A = some ⟨b, o, none⟩ ∧ b < w.heap.size ∧ PtsAt w b o ps := by
  rcases h with rfl | h
  · simp at hk
  · exact h
theorem getD_mem {ps : List Pt} {k : Nat} (h : k < ps.length) : ps.getD k (0, 0) ∈ ps := by rw [List.getD_eq_getElem?_getD, List.getElem?_eq_getElem h]; exact List.getElem_mem h
theorem ownsRow_keep {w w' : World} {base : Nat} {e : TypeId} {size : Nat} {v : Value} {n : Nat} {xs : List Value} (h : w.ownsRow base e size v n xs) (k : Below w.heap.size w w') : w'.ownsRow base e size v n xs := by
  refine ⟨h.1, ?_⟩
  rcases h.2 with h | ⟨g, cap, cur, h1, h2, h3, h4⟩
  · exact Or.inl h
  · exact Or.inr ⟨g, cap, cur, h1, h2, (k.block g (heap_lt h3)).trans h3, h4⟩
theorem ownsRow_below {w0 w w' : World} {base : Nat} {e : TypeId} {size : Nat} {v : Value} {n : Nat} {xs : List Value} (h : w.ownsRow base e size v n xs) (k : Below base w0 w) (hb : base ≤ w.heap.size) (g : w.grownBy w' v.ownBlock) : Below base w0 w' :=
  k.grown g hb (fun j e => (h.lt j e).1)
theorem own_form {w : World} {base : Nat} {e : TypeId} {size n : Nat} {v : Value} {xs : List Value} (h : w.ownsRow base e size v n xs) : ∃ A c, v = .slice A n c := by
  rcases h.2 with ⟨rfl, rfl⟩ | ⟨g, cap, cur, h1, h2, h3, h4, h5⟩
  · exact ⟨_, _, rfl⟩
  · exact ⟨_, _, h1⟩
theorem own_value {w : World} {base : Nat} {e : TypeId} {size n : Nat} {v : Value} {xs : List Value} (h : w.ownsRow base e size v n xs) (hn : 0 < n) : ∃ g c, v = .slice (some ⟨g, 0, none⟩) n c ∧ base ≤ g ∧ g < w.heap.size ∧ n ≤ c := by
  rcases h.2 with ⟨_, h⟩ | ⟨g, cap, cur, h1, h2, h3, h4, h5⟩
  · omega
  · exact ⟨g, cap, h1, h2, heap_lt h3, h4⟩
theorem ite_pl {w : World} (p q : Pt) : (if p.1 = q.1 then if p.2 = q.2 then Result.ok (Next.value (Value.bool true)) w else Result.ok (Next.value (Value.bool false)) w else Result.ok (Next.value (Value.bool false)) w) = Result.ok (Next.value (Value.bool (decide (p = q)))) w := by
  obtain ⟨a, b⟩ := p
  obtain ⟨c, d⟩ := q
  by_cases h1 : a = c <;> by_cases h2 : b = d <;> simp [h1, h2]
theorem cells_row {w : World} {g : Nat} {cs : List Value} {t : TypeId} (h : w.heap[g]? = some (.cells cs.toArray t (0, 0))) (j : Nat) (u : Value) (hu : cs[j]? = some u) : w.cell? ((⟨g, 0, none⟩ : Addr).add j) = some u := by
  have e : (⟨g, 0, none⟩ : Addr).add j = ⟨g, j, none⟩ := by
    unfold Addr.add
    split
    · rename_i h; simp [h]
    · simp
  rw [e, cell_of_cells h, List.getElem?_toArray]
  exact hu
theorem info_pt : (Tryz.prog.info? 38).map (fun i => (i.zero, i.size, i.bytes)) = some (some (.agg #[.int .u64 0, .int .u64 0]), 2, 16) := by kernel_rfl
end Go.Proofs.YtfpofmifmapmfaaGreatDoor

namespace Go.Proofs.YtfpofmifmapmfaaGreatDoor
open Go.RowKit
set_option linter.unusedVariables false
def qo (A B : Option Addr) (q : Rat) : Obj := .cells #[.bool (decide (q.num < 0)), .slice A (qn q).length (qn q).length, .slice B (qd q).length (qd q).length] 26 (0, 0)
structure Mem (n : Nat) (w0 w : World) (L : List (Nat × Obj)) (R : List (Option Addr × Option Addr × Rat)) : Prop where
  b : Below n w0 w
  z : n ≤ w.heap.size
  l : ∀ (i g : Nat) (o : Obj), L[i]? = some (g, o) → w.heap[g]? = some o
  r : ∀ (i : Nat) (A B : Option Addr) (q : Rat), R[i]? = some (A, B, q) → RatFresh n w A B q
theorem Mem.start (w : World) : Mem w.heap.size w w [] [] := ⟨Below.refl _ _, Nat.le_refl _, fun i g o h => by simp at h, fun i A B q h => by simp at h⟩
section
variable {n : Nat} {w0 w w' : World} {L : List (Nat × Obj)} {R : List (Option Addr × Option Addr × Rat)}
theorem Mem.keep (h : Mem n w0 w L R) (k : Below w.heap.size w w') : Mem n w0 w' L R :=
  ⟨h.b.trans (k.mono h.z), Nat.le_trans h.z k.size, fun i g o e => (k.block _ (heap_lt (h.l i g o e))).trans (h.l i g o e), fun i A B q e => (h.r i A B q e).keep (Keep.of k (Nat.le_refl _)) (Nat.le_refl _)⟩
theorem Mem.drewN (h : Mem n w0 w L R) (k : Nat) : Mem n w0 (w.drewN k) L R := h.keep (belowN (Below.refl _ _) k)
theorem Mem.drew (h : Mem n w0 w L R) : Mem n w0 w.drew L R := h.keep (Below.refl _ _).drew
theorem getElem?_snoc {α : Type} {l : List α} {a b : α} {i : Nat} (h : (l ++ [a])[i]? = some b) : l[i]? = some b ∨ (i = l.length ∧ b = a) := by
  by_cases hi : i < l.length
  · rw [List.getElem?_append_left hi] at h; exact Or.inl h
  · rw [List.getElem?_append_right (by omega)] at h
    have : i - l.length = 0 := by
      rcases Nat.eq_zero_or_pos (i - l.length) with e | e
      · exact e
      · rw [List.getElem?_eq_none (by simp; omega)] at h; cases h
    rw [this] at h
    simp at h
    exact Or.inr ⟨by omega, h.symm⟩
theorem Mem.alloc (h : Mem n w0 w L R) (o : Obj) : Mem n w0 (w.alloc o) (L ++ [(w.heap.size, o)]) R := by
  have k := h.keep ((Below.refl _ _).alloc (Nat.le_refl _) o)
  refine ⟨k.b, k.z, fun i g o' e => ?_, k.r⟩
  rcases getElem?_snoc e with e | ⟨_, e⟩
  · exact k.l i g o' e
  · cases e; exact alloc_new w o
theorem Mem.rat (h : Mem n w0 w L R) {lo : Nat} {A B : Option Addr} {q : Rat} (hl : n ≤ lo) (f : RatFresh lo w A B q) : Mem n w0 w L (R ++ [(A, B, q)]) := by
  refine ⟨h.b, h.z, h.l, fun i A' B' q' e => ?_⟩
  rcases getElem?_snoc e with e | ⟨_, e⟩
  · exact h.r i A' B' q' e
  · cases e; exact f.wide hl
theorem Mem.call (h : Mem n w0 w L R) {A B : Option Addr} {q : Rat} (f : RatFresh w.heap.size w' A B q) (k : Below w.heap.size w w') : Mem n w0 w' L (R ++ [(A, B, q)]) := (h.keep k).rat h.z f
theorem Mem.ins (h : Mem n w0 w L R) (i : Nat) {A B : Option Addr} {q : Rat} (e : R[i]? = some (A, B, q)) : RatIn n w.heap.size w A B q := (h.r i A B q e).ins
theorem Mem.arg (h : Mem n w0 w L R) {lo up : Nat} {A B : Option Addr} {q : Rat} (a : RatIn lo up w0 A B q) (hu : up ≤ n) : RatIn lo w.heap.size w A B q := (a.keep (Keep.of h.b hu)).wide (Nat.le_refl _) (Nat.le_trans hu h.z)
theorem Mem.qrow (h : Mem n w0 w L R) (i : Nat) {g : Nat} {A B : Option Addr} {q : Rat} (e : L[i]? = some (g, qo A B q)) :
    w.cell? ⟨g, 0, none⟩ = some (.bool (decide (q.num < 0))) ∧ w.cell? ⟨g, 1, none⟩ = some (.slice A (qn q).length (qn q).length) ∧ w.cell? ⟨g, 2, none⟩ = some (.slice B (qd q).length (qd q).length) ∧ w.frozen? ⟨g, 0, none⟩ = false ∧ w.frozen? ⟨g, 1, none⟩ = false ∧ w.frozen? ⟨g, 2, none⟩ = false := row3 (h.l i g _ e)
def po (p : Pt) : Obj := .cells #[.int .u64 p.1, .int .u64 p.2] 38 (0, 0)
theorem Mem.prow (h : Mem n w0 w L R) (i : Nat) {g : Nat} {p : Pt} (e : L[i]? = some (g, po p)) :
    w.cell? ⟨g, 0, none⟩ = some (.int .u64 p.1) ∧ w.cell? ⟨g, 1, none⟩ = some (.int .u64 p.2) ∧ w.frozen? ⟨g, 0, none⟩ = false ∧ w.frozen? ⟨g, 1, none⟩ = false := row2f (h.l i g _ e)
theorem Mem.lt (h : Mem n w0 w L R) (i : Nat) {g : Nat} {o : Obj} (e : L[i]? = some (g, o)) : g < w.heap.size := heap_lt (h.l i g o e)
theorem RatFresh.off3 {A B : Option Addr} {q : Rat} {g : Nat} {C : Array Value} {t : TypeId} {f : Nat × Nat} (h : RatFresh n w A B q) (row : w.heap[g]? = some (.cells C t f)) (ht : t ≠ 36) (x y z : Value) : RatFresh n (((w.setCell ⟨g, 0, none⟩ x).setCell ⟨g, 1, none⟩ y).setCell ⟨g, 2, none⟩ z) A B q :=
  h.off row ht (fun j hj => by rw [Below.heap_setCell _ _ _ _ hj, Below.heap_setCell _ _ _ _ hj, Below.heap_setCell _ _ _ _ hj])
theorem Mem.setOther (h : Mem n w0 w L R) (i : Nat) {g : Nat} {C : Array Value} {t : TypeId} {f : Nat × Nat} {o : Obj} {w2 : World} (e : L[i]? = some (g, .cells C t f)) (ht : t ≠ 36) (hn : n ≤ g)
    (hb : Below n w0 w2) (hz : w2.heap.size = w.heap.size) (hg : w2.heap[g]? = some o) (ho : ∀ j, j ≠ g → w2.heap[j]? = w.heap[j]?) (hd : ∀ (j : Nat) (o' : Obj), L[j]? = some (g, o') → j = i) : Mem n w0 w2 (L.set i (g, o)) R := by
  refine ⟨hb, by rw [hz]; exact h.z, fun j g' o' e' => ?_, fun j A B q e' => ?_⟩
  · by_cases hj : j = i
    · subst hj
      have hlt : j < L.length := (List.getElem?_eq_some_iff.1 e).1
      rw [List.getElem?_set_self hlt] at e'
      cases e'
      exact hg
    · rw [List.getElem?_set_ne (fun k => hj k.symm)] at e'
      by_cases hgg : g' = g
      · subst hgg; exact absurd (hd j o' e') hj
      · rw [ho g' hgg]; exact h.l j g' o' e'
  · exact (h.r j A B q e').off (h.l i g _ e) ht ho
theorem heap_three_other {g : Nat} {x y z : Value} (j : Nat) (h : j ≠ g) : (((w.setCell ⟨g, 0, none⟩ x).setCell ⟨g, 1, none⟩ y).setCell ⟨g, 2, none⟩ z).heap[j]? = w.heap[j]? := by
  rw [Below.heap_setCell _ _ _ _ h, Below.heap_setCell _ _ _ _ h, Below.heap_setCell _ _ _ _ h]
theorem setCell_size (w : World) (a : Addr) (v : Value) : (w.setCell a v).heap.size = w.heap.size := by unfold World.setCell; simp
theorem Mem.three (h : Mem n w0 w L R) (i : Nat) {g : Nat} {a b c : Value} {t : TypeId} (e : L[i]? = some (g, .cells #[a, b, c] t (0, 0))) (ht : t ≠ 36) (hn : n ≤ g) (hd : ∀ (j : Nat) (o' : Obj), L[j]? = some (g, o') → j = i) (x y z : Value) :
    Mem n w0 (((w.setCell ⟨g, 0, none⟩ x).setCell ⟨g, 1, none⟩ y).setCell ⟨g, 2, none⟩ z) (L.set i (g, .cells #[x, y, z] t (0, 0))) R :=
  h.setOther i e ht hn (((h.b.setCell hn _).setCell hn _).setCell hn _) (by rw [setCell_size, setCell_size, setCell_size]) (heap_set_three (h.l i g _ e) x y z) (fun j hj => heap_three_other j hj) hd
end
end Go.Proofs.YtfpofmifmapmfaaGreatDoor

namespace Go.Proofs.YtfpofmifmapmfaaGreatDoor
open Go.RowKit
set_option linter.unusedVariables false
theorem rw1 {w : World} {g : Nat} {x0 : Value} {t : TypeId} (h : w.heap[g]? = some (.cells #[x0] t (0, 0))) : w.cell? ⟨g, 0, none⟩ = some x0 ∧ w.frozen? ⟨g, 0, none⟩ = false :=
  ⟨(cell_of_cells h 0).trans rfl, free_of_cells h 0⟩
theorem rw2 {w : World} {g : Nat} {x0 x1 : Value} {t : TypeId} (h : w.heap[g]? = some (.cells #[x0, x1] t (0, 0))) : w.cell? ⟨g, 0, none⟩ = some x0 ∧ w.cell? ⟨g, 1, none⟩ = some x1 ∧ w.frozen? ⟨g, 0, none⟩ = false ∧ w.frozen? ⟨g, 1, none⟩ = false :=
  ⟨(cell_of_cells h 0).trans rfl, (cell_of_cells h 1).trans rfl, free_of_cells h 0, free_of_cells h 1⟩
theorem rw3 {w : World} {g : Nat} {x0 x1 x2 : Value} {t : TypeId} (h : w.heap[g]? = some (.cells #[x0, x1, x2] t (0, 0))) : w.cell? ⟨g, 0, none⟩ = some x0 ∧ w.cell? ⟨g, 1, none⟩ = some x1 ∧ w.cell? ⟨g, 2, none⟩ = some x2 ∧ w.frozen? ⟨g, 0, none⟩ = false ∧ w.frozen? ⟨g, 1, none⟩ = false ∧ w.frozen? ⟨g, 2, none⟩ = false :=
  ⟨(cell_of_cells h 0).trans rfl, (cell_of_cells h 1).trans rfl, (cell_of_cells h 2).trans rfl, free_of_cells h 0, free_of_cells h 1, free_of_cells h 2⟩
theorem rw4 {w : World} {g : Nat} {x0 x1 x2 x3 : Value} {t : TypeId} (h : w.heap[g]? = some (.cells #[x0, x1, x2, x3] t (0, 0))) : w.cell? ⟨g, 0, none⟩ = some x0 ∧ w.cell? ⟨g, 1, none⟩ = some x1 ∧ w.cell? ⟨g, 2, none⟩ = some x2 ∧ w.cell? ⟨g, 3, none⟩ = some x3 ∧ w.frozen? ⟨g, 0, none⟩ = false ∧ w.frozen? ⟨g, 1, none⟩ = false ∧ w.frozen? ⟨g, 2, none⟩ = false ∧ w.frozen? ⟨g, 3, none⟩ = false :=
  ⟨(cell_of_cells h 0).trans rfl, (cell_of_cells h 1).trans rfl, (cell_of_cells h 2).trans rfl, (cell_of_cells h 3).trans rfl, free_of_cells h 0, free_of_cells h 1, free_of_cells h 2, free_of_cells h 3⟩
theorem rw5 {w : World} {g : Nat} {x0 x1 x2 x3 x4 : Value} {t : TypeId} (h : w.heap[g]? = some (.cells #[x0, x1, x2, x3, x4] t (0, 0))) : w.cell? ⟨g, 0, none⟩ = some x0 ∧ w.cell? ⟨g, 1, none⟩ = some x1 ∧ w.cell? ⟨g, 2, none⟩ = some x2 ∧ w.cell? ⟨g, 3, none⟩ = some x3 ∧ w.cell? ⟨g, 4, none⟩ = some x4 ∧ w.frozen? ⟨g, 0, none⟩ = false ∧ w.frozen? ⟨g, 1, none⟩ = false ∧ w.frozen? ⟨g, 2, none⟩ = false ∧ w.frozen? ⟨g, 3, none⟩ = false ∧ w.frozen? ⟨g, 4, none⟩ = false :=
  ⟨(cell_of_cells h 0).trans rfl, (cell_of_cells h 1).trans rfl, (cell_of_cells h 2).trans rfl, (cell_of_cells h 3).trans rfl, (cell_of_cells h 4).trans rfl, free_of_cells h 0, free_of_cells h 1, free_of_cells h 2, free_of_cells h 3, free_of_cells h 4⟩
theorem rw6 {w : World} {g : Nat} {x0 x1 x2 x3 x4 x5 : Value} {t : TypeId} (h : w.heap[g]? = some (.cells #[x0, x1, x2, x3, x4, x5] t (0, 0))) : w.cell? ⟨g, 0, none⟩ = some x0 ∧ w.cell? ⟨g, 1, none⟩ = some x1 ∧ w.cell? ⟨g, 2, none⟩ = some x2 ∧ w.cell? ⟨g, 3, none⟩ = some x3 ∧ w.cell? ⟨g, 4, none⟩ = some x4 ∧ w.cell? ⟨g, 5, none⟩ = some x5 ∧ w.frozen? ⟨g, 0, none⟩ = false ∧ w.frozen? ⟨g, 1, none⟩ = false ∧ w.frozen? ⟨g, 2, none⟩ = false ∧ w.frozen? ⟨g, 3, none⟩ = false ∧ w.frozen? ⟨g, 4, none⟩ = false ∧ w.frozen? ⟨g, 5, none⟩ = false :=
  ⟨(cell_of_cells h 0).trans rfl, (cell_of_cells h 1).trans rfl, (cell_of_cells h 2).trans rfl, (cell_of_cells h 3).trans rfl, (cell_of_cells h 4).trans rfl, (cell_of_cells h 5).trans rfl, free_of_cells h 0, free_of_cells h 1, free_of_cells h 2, free_of_cells h 3, free_of_cells h 4, free_of_cells h 5⟩
theorem rw7 {w : World} {g : Nat} {x0 x1 x2 x3 x4 x5 x6 : Value} {t : TypeId} (h : w.heap[g]? = some (.cells #[x0, x1, x2, x3, x4, x5, x6] t (0, 0))) : w.cell? ⟨g, 0, none⟩ = some x0 ∧ w.cell? ⟨g, 1, none⟩ = some x1 ∧ w.cell? ⟨g, 2, none⟩ = some x2 ∧ w.cell? ⟨g, 3, none⟩ = some x3 ∧ w.cell? ⟨g, 4, none⟩ = some x4 ∧ w.cell? ⟨g, 5, none⟩ = some x5 ∧ w.cell? ⟨g, 6, none⟩ = some x6 ∧ w.frozen? ⟨g, 0, none⟩ = false ∧ w.frozen? ⟨g, 1, none⟩ = false ∧ w.frozen? ⟨g, 2, none⟩ = false ∧ w.frozen? ⟨g, 3, none⟩ = false ∧ w.frozen? ⟨g, 4, none⟩ = false ∧ w.frozen? ⟨g, 5, none⟩ = false ∧ w.frozen? ⟨g, 6, none⟩ = false :=
  ⟨(cell_of_cells h 0).trans rfl, (cell_of_cells h 1).trans rfl, (cell_of_cells h 2).trans rfl, (cell_of_cells h 3).trans rfl, (cell_of_cells h 4).trans rfl, (cell_of_cells h 5).trans rfl, (cell_of_cells h 6).trans rfl, free_of_cells h 0, free_of_cells h 1, free_of_cells h 2, free_of_cells h 3, free_of_cells h 4, free_of_cells h 5, free_of_cells h 6⟩
theorem rw8 {w : World} {g : Nat} {x0 x1 x2 x3 x4 x5 x6 x7 : Value} {t : TypeId} (h : w.heap[g]? = some (.cells #[x0, x1, x2, x3, x4, x5, x6, x7] t (0, 0))) : w.cell? ⟨g, 0, none⟩ = some x0 ∧ w.cell? ⟨g, 1, none⟩ = some x1 ∧ w.cell? ⟨g, 2, none⟩ = some x2 ∧ w.cell? ⟨g, 3, none⟩ = some x3 ∧ w.cell? ⟨g, 4, none⟩ = some x4 ∧ w.cell? ⟨g, 5, none⟩ = some x5 ∧ w.cell? ⟨g, 6, none⟩ = some x6 ∧ w.cell? ⟨g, 7, none⟩ = some x7 ∧ w.frozen? ⟨g, 0, none⟩ = false ∧ w.frozen? ⟨g, 1, none⟩ = false ∧ w.frozen? ⟨g, 2, none⟩ = false ∧ w.frozen? ⟨g, 3, none⟩ = false ∧ w.frozen? ⟨g, 4, none⟩ = false ∧ w.frozen? ⟨g, 5, none⟩ = false ∧ w.frozen? ⟨g, 6, none⟩ = false ∧ w.frozen? ⟨g, 7, none⟩ = false :=
  ⟨(cell_of_cells h 0).trans rfl, (cell_of_cells h 1).trans rfl, (cell_of_cells h 2).trans rfl, (cell_of_cells h 3).trans rfl, (cell_of_cells h 4).trans rfl, (cell_of_cells h 5).trans rfl, (cell_of_cells h 6).trans rfl, (cell_of_cells h 7).trans rfl, free_of_cells h 0, free_of_cells h 1, free_of_cells h 2, free_of_cells h 3, free_of_cells h 4, free_of_cells h 5, free_of_cells h 6, free_of_cells h 7⟩
theorem rw9 {w : World} {g : Nat} {x0 x1 x2 x3 x4 x5 x6 x7 x8 : Value} {t : TypeId} (h : w.heap[g]? = some (.cells #[x0, x1, x2, x3, x4, x5, x6, x7, x8] t (0, 0))) : w.cell? ⟨g, 0, none⟩ = some x0 ∧ w.cell? ⟨g, 1, none⟩ = some x1 ∧ w.cell? ⟨g, 2, none⟩ = some x2 ∧ w.cell? ⟨g, 3, none⟩ = some x3 ∧ w.cell? ⟨g, 4, none⟩ = some x4 ∧ w.cell? ⟨g, 5, none⟩ = some x5 ∧ w.cell? ⟨g, 6, none⟩ = some x6 ∧ w.cell? ⟨g, 7, none⟩ = some x7 ∧ w.cell? ⟨g, 8, none⟩ = some x8 ∧ w.frozen? ⟨g, 0, none⟩ = false ∧ w.frozen? ⟨g, 1, none⟩ = false ∧ w.frozen? ⟨g, 2, none⟩ = false ∧ w.frozen? ⟨g, 3, none⟩ = false ∧ w.frozen? ⟨g, 4, none⟩ = false ∧ w.frozen? ⟨g, 5, none⟩ = false ∧ w.frozen? ⟨g, 6, none⟩ = false ∧ w.frozen? ⟨g, 7, none⟩ = false ∧ w.frozen? ⟨g, 8, none⟩ = false :=
  ⟨(cell_of_cells h 0).trans rfl, (cell_of_cells h 1).trans rfl, (cell_of_cells h 2).trans rfl, (cell_of_cells h 3).trans rfl, (cell_of_cells h 4).trans rfl, (cell_of_cells h 5).trans rfl, (cell_of_cells h 6).trans rfl, (cell_of_cells h 7).trans rfl, (cell_of_cells h 8).trans rfl, free_of_cells h 0, free_of_cells h 1, free_of_cells h 2, free_of_cells h 3, free_of_cells h 4, free_of_cells h 5, free_of_cells h 6, free_of_cells h 7, free_of_cells h 8⟩
theorem rw10 {w : World} {g : Nat} {x0 x1 x2 x3 x4 x5 x6 x7 x8 x9 : Value} {t : TypeId} (h : w.heap[g]? = some (.cells #[x0, x1, x2, x3, x4, x5, x6, x7, x8, x9] t (0, 0))) : w.cell? ⟨g, 0, none⟩ = some x0 ∧ w.cell? ⟨g, 1, none⟩ = some x1 ∧ w.cell? ⟨g, 2, none⟩ = some x2 ∧ w.cell? ⟨g, 3, none⟩ = some x3 ∧ w.cell? ⟨g, 4, none⟩ = some x4 ∧ w.cell? ⟨g, 5, none⟩ = some x5 ∧ w.cell? ⟨g, 6, none⟩ = some x6 ∧ w.cell? ⟨g, 7, none⟩ = some x7 ∧ w.cell? ⟨g, 8, none⟩ = some x8 ∧ w.cell? ⟨g, 9, none⟩ = some x9 ∧ w.frozen? ⟨g, 0, none⟩ = false ∧ w.frozen? ⟨g, 1, none⟩ = false ∧ w.frozen? ⟨g, 2, none⟩ = false ∧ w.frozen? ⟨g, 3, none⟩ = false ∧ w.frozen? ⟨g, 4, none⟩ = false ∧ w.frozen? ⟨g, 5, none⟩ = false ∧ w.frozen? ⟨g, 6, none⟩ = false ∧ w.frozen? ⟨g, 7, none⟩ = false ∧ w.frozen? ⟨g, 8, none⟩ = false ∧ w.frozen? ⟨g, 9, none⟩ = false :=
  ⟨(cell_of_cells h 0).trans rfl, (cell_of_cells h 1).trans rfl, (cell_of_cells h 2).trans rfl, (cell_of_cells h 3).trans rfl, (cell_of_cells h 4).trans rfl, (cell_of_cells h 5).trans rfl, (cell_of_cells h 6).trans rfl, (cell_of_cells h 7).trans rfl, (cell_of_cells h 8).trans rfl, (cell_of_cells h 9).trans rfl, free_of_cells h 0, free_of_cells h 1, free_of_cells h 2, free_of_cells h 3, free_of_cells h 4, free_of_cells h 5, free_of_cells h 6, free_of_cells h 7, free_of_cells h 8, free_of_cells h 9⟩
theorem rw12 {w : World} {g : Nat} {x0 x1 x2 x3 x4 x5 x6 x7 x8 x9 x10 x11 : Value} {t : TypeId} (h : w.heap[g]? = some (.cells #[x0, x1, x2, x3, x4, x5, x6, x7, x8, x9, x10, x11] t (0, 0))) : w.cell? ⟨g, 0, none⟩ = some x0 ∧ w.cell? ⟨g, 1, none⟩ = some x1 ∧ w.cell? ⟨g, 2, none⟩ = some x2 ∧ w.cell? ⟨g, 3, none⟩ = some x3 ∧ w.cell? ⟨g, 4, none⟩ = some x4 ∧ w.cell? ⟨g, 5, none⟩ = some x5 ∧ w.cell? ⟨g, 6, none⟩ = some x6 ∧ w.cell? ⟨g, 7, none⟩ = some x7 ∧ w.cell? ⟨g, 8, none⟩ = some x8 ∧ w.cell? ⟨g, 9, none⟩ = some x9 ∧ w.cell? ⟨g, 10, none⟩ = some x10 ∧ w.cell? ⟨g, 11, none⟩ = some x11 ∧ w.frozen? ⟨g, 0, none⟩ = false ∧ w.frozen? ⟨g, 1, none⟩ = false ∧ w.frozen? ⟨g, 2, none⟩ = false ∧ w.frozen? ⟨g, 3, none⟩ = false ∧ w.frozen? ⟨g, 4, none⟩ = false ∧ w.frozen? ⟨g, 5, none⟩ = false ∧ w.frozen? ⟨g, 6, none⟩ = false ∧ w.frozen? ⟨g, 7, none⟩ = false ∧ w.frozen? ⟨g, 8, none⟩ = false ∧ w.frozen? ⟨g, 9, none⟩ = false ∧ w.frozen? ⟨g, 10, none⟩ = false ∧ w.frozen? ⟨g, 11, none⟩ = false :=
  ⟨(cell_of_cells h 0).trans rfl, (cell_of_cells h 1).trans rfl, (cell_of_cells h 2).trans rfl, (cell_of_cells h 3).trans rfl, (cell_of_cells h 4).trans rfl, (cell_of_cells h 5).trans rfl, (cell_of_cells h 6).trans rfl, (cell_of_cells h 7).trans rfl, (cell_of_cells h 8).trans rfl, (cell_of_cells h 9).trans rfl, (cell_of_cells h 10).trans rfl, (cell_of_cells h 11).trans rfl, free_of_cells h 0, free_of_cells h 1, free_of_cells h 2, free_of_cells h 3, free_of_cells h 4, free_of_cells h 5, free_of_cells h 6, free_of_cells h 7, free_of_cells h 8, free_of_cells h 9, free_of_cells h 10, free_of_cells h 11⟩
theorem results_rows2 {P : Program} {fn : Func} {p p' u : Tmp} {ty ty' : TypeId} (h : fn.results = #[.cell p ty, .cell p' ty', .tmp u]) (tmps : Array Value) (w : World) (g g' : Nat) (t : TypeId) (cs : Array Value) (fr : Nat × Nat) (d : TypeDesc) (t' : TypeId) (cs' : Array Value) (fr' : Nat × Nat) (d' : TypeDesc)
    (hp : tmps.getD p undef = .pointer (some ⟨g, 0, none⟩)) (hp' : tmps.getD p' undef = .pointer (some ⟨g', 0, none⟩)) (hg : w.heap[g]? = some (.cells cs t fr)) (hg' : w.heap[g']? = some (.cells cs' t' fr'))
    (hu : P.underlying ty = some d) (hd : (match d with | .struct _ | .array _ _ => true | _ => false) = true) (hi : (P.info? ty).map (·.size) = some cs.size)
    (hu' : P.underlying ty' = some d') (hd' : (match d' with | .struct _ | .array _ _ => true | _ => false) = true) (hi' : (P.info? ty').map (·.size) = some cs'.size) :
    (results fn tmps).run P w = .ok (.tuple #[.agg cs, .agg cs', tmps.getD u undef]) w := by
  have h1 : tmps[p]?.getD undef = .pointer (some ⟨g, 0, none⟩) := by simpa using hp
  have h2 : tmps[p']?.getD undef = .pointer (some ⟨g', 0, none⟩) := by simpa using hp'
  simp [results, h, h1, h2, asAddr, run_loadVar_row w g t ty cs fr d hg hu hd hi, run_loadVar_row w g' t' ty' cs' fr' d' hg' hu' hd' hi']
section
open Go.Proofs.YtfpofmifmapmfaaGreatDoorW.PrintLast
theorem nx {P : Program} {ops : Array Oper} {Q : Exit → Act → World → Prop} {md : Region.Mode} {S : World → Prop} {ds : List Nat} {a' : Act} {fuel : Nat} {l : Array Bool} {a : Act} {w : World} (h : wpAnyLast P md ops Q S ds fuel l a' w)
    (ha : a = a' := by simp only [putAll, pA, pB, pC, pD, qv, pv, pt, st]; rfl) : wpAnyLast P md ops Q S ds fuel l a w := norm_ ha h
end
def zR : Obj := .cells #[.bool false, .slice none 0 0, .slice none 0 0] 26 (0, 0)
structure Bx (n : Nat) (w0 w : World) (L : List (Nat × Obj)) (R : List (Option Addr × Option Addr × Rat)) : Prop where
  m : Mem n w0 w L R
  g : ∀ (i g : Nat) (o : Obj), L[i]? = some (g, o) → n ≤ g
  d : ∀ (i j g : Nat) (o o' : Obj), L[i]? = some (g, o) → L[j]? = some (g, o') → i = j
def puts (g : Nat) : List (Nat × Value) → World → World
  | [], w => w
  | (k, v) :: r, w => puts g r (w.setCell ⟨g, k, none⟩ v)
def putsC : List (Nat × Value) → Array Value → Array Value
  | [], C => C
  | (k, v) :: r, C => putsC r (C.setIfInBounds k v)
theorem puts_size (g : Nat) : ∀ (vs : List (Nat × Value)) (w : World), (puts g vs w).heap.size = w.heap.size
  | [], w => rfl
  | (k, v) :: r, w => (puts_size g r _).trans (setCell_size _ _ _)
theorem puts_other {g j : Nat} (h : j ≠ g) : ∀ (vs : List (Nat × Value)) (w : World), (puts g vs w).heap[j]? = w.heap[j]?
  | [], w => rfl
  | (k, v) :: r, w => (puts_other h r _).trans (Below.heap_setCell _ _ _ _ h)
theorem puts_at {g : Nat} {t : TypeId} {f : Nat × Nat} : ∀ (vs : List (Nat × Value)) (w : World) (C : Array Value), w.heap[g]? = some (.cells C t f) → (puts g vs w).heap[g]? = some (.cells (putsC vs C) t f)
  | [], w, C, h => h
  | (k, v) :: r, w, C, h => puts_at r _ _ (heap_set_cell h k v)
theorem puts_below {n g : Nat} {w0 : World} (hn : n ≤ g) : ∀ (vs : List (Nat × Value)) (w : World), Below n w0 w → Below n w0 (puts g vs w)
  | [], w, h => h
  | (k, v) :: r, w, h => puts_below hn r _ (h.setCell hn _)
section
variable {n : Nat} {w0 w w' : World} {L L' : List (Nat × Obj)} {R R' : List (Option Addr × Option Addr × Rat)}
theorem Bx.start (w : World) : Bx w.heap.size w w [] [] := ⟨Mem.start w, fun i g o h => by simp at h, fun i j g o o' h => by simp at h⟩
theorem Bx.keep (h : Bx n w0 w L R) (k : Below w.heap.size w w') : Bx n w0 w' L R := ⟨h.m.keep k, h.g, h.d⟩
theorem Bx.drew (h : Bx n w0 w L R) : Bx n w0 w.drew L R := ⟨h.m.drew, h.g, h.d⟩
theorem Bx.alloc (h : Bx n w0 w L R) (o : Obj) : Bx n w0 (w.alloc o) (L ++ [(w.heap.size, o)]) R := by
  refine ⟨h.m.alloc o, fun i g o' e => ?_, fun i j g o1 o2 e1 e2 => ?_⟩
  · rcases getElem?_snoc e with e | ⟨_, e⟩
    · exact h.g i g o' e
    · cases e; exact h.m.z
  · rcases getElem?_snoc e1 with e1 | ⟨i1, e1⟩ <;> rcases getElem?_snoc e2 with e2 | ⟨i2, e2⟩
    · exact h.d i j g o1 o2 e1 e2
    · cases e2; exact absurd (heap_lt (h.m.l i _ o1 e1)) (Nat.lt_irrefl _)
    · cases e1; exact absurd (heap_lt (h.m.l j _ o2 e2)) (Nat.lt_irrefl _)
    · rw [i1, i2]
theorem Bx.rat (h : Bx n w0 w L R) {lo : Nat} {A B : Option Addr} {q : Rat} (hl : n ≤ lo) (f : RatFresh lo w A B q) : Bx n w0 w L (R ++ [(A, B, q)]) := ⟨h.m.rat hl f, h.g, h.d⟩
theorem Bx.call (h : Bx n w0 w L R) {A B : Option Addr} {q : Rat} (f : RatFresh w.heap.size w' A B q) (k : Below w.heap.size w w') : Bx n w0 w' L (R ++ [(A, B, q)]) := (h.keep k).rat h.m.z f
theorem Bx.call2 (h : Bx n w0 w L R) {A B C D : Option Addr} {x : Pl} (f : PlFresh w.heap.size w' A B C D x) (k : Below w.heap.size w w') : Bx n w0 w' L ((R ++ [(A, B, x.1)]) ++ [(C, D, x.2)]) := ((h.keep k).rat h.m.z f.h1).rat h.m.z f.h2
theorem Bx.call3 (h : Bx n w0 w L R) {A B C D : Option Addr} {x y : Rat} (f : RatFresh w.heap.size w' A B x) (f' : RatFresh w.heap.size w' C D y) (k : Below w.heap.size w w') : Bx n w0 w' L ((R ++ [(A, B, x)]) ++ [(C, D, y)]) := ((h.keep k).rat h.m.z f).rat h.m.z f'
theorem Bx.ins (h : Bx n w0 w L R) (i : Nat) {A B : Option Addr} {q : Rat} (e : R[i]? = some (A, B, q)) : RatIn 0 w.heap.size w A B q := (h.m.ins i e).wide (Nat.zero_le _) (Nat.le_refl _)
theorem Bx.arg (h : Bx n w0 w L R) {lo up : Nat} {A B : Option Addr} {q : Rat} (a : RatIn lo up w0 A B q) (hu : up ≤ n) : RatIn 0 w.heap.size w A B q := (h.m.arg a hu).wide (Nat.zero_le _) (Nat.le_refl _)
theorem Bx.fresh (h : Bx n w0 w L R) (i : Nat) {A B : Option Addr} {q : Rat} (e : R[i]? = some (A, B, q)) : RatFresh n w A B q := h.m.r i A B q e
theorem Bx.at (h : Bx n w0 w L R) (i : Nat) {g : Nat} {o : Obj} (e : L[i]? = some (g, o)) : w.heap[g]? = some o := h.m.l i g o e
theorem Bx.lt (h : Bx n w0 w L R) (i : Nat) {g : Nat} {o : Obj} (e : L[i]? = some (g, o)) : g < w.heap.size := heap_lt (h.m.l i g o e)
theorem Bx.ne (h : Bx n w0 w L R) (i j : Nat) {g g' : Nat} {o o' : Obj} (e : L[i]? = some (g, o)) (e' : L[j]? = some (g', o')) (hij : i ≠ j) : g ≠ g' := by
  rintro rfl; exact hij (h.d i j _ o o' e e')
theorem Bx.puts (h : Bx n w0 w L R) (i : Nat) {g : Nat} {C : Array Value} {t : TypeId} (e : L[i]? = some (g, .cells C t (0, 0))) (ht : t ≠ 36) (vs : List (Nat × Value)) :
    Bx n w0 (puts g vs w) (L.set i (g, .cells (putsC vs C) t (0, 0))) R := by
  refine ⟨h.m.setOther i e ht (h.g i g _ e) (puts_below (h.g i g _ e) vs w h.m.b) (puts_size g vs w) (puts_at vs w C (h.m.l i g _ e)) (fun j hj => puts_other hj vs w) (fun j o' e' => (h.d i j g _ _ e e').symm), fun j g' o' e' => ?_, fun j k g' o1 o2 e1 e2 => ?_⟩
  · by_cases hj : j = i
    · subst hj
      rw [List.getElem?_set_self (List.getElem?_eq_some_iff.1 e).1] at e'
      cases e'; exact h.g j g _ e
    · rw [List.getElem?_set_ne (fun k => hj k.symm)] at e'; exact h.g j g' o' e'
  · have key : ∀ (j g' : Nat) (o1 : Obj), (L.set i (g, Obj.cells (putsC vs C) t (0, 0)))[j]? = some (g', o1) → ∃ o2, L[j]? = some (g', o2) := by
      intro j g' o1 e1
      by_cases hj : j = i
      · subst hj
        rw [List.getElem?_set_self (List.getElem?_eq_some_iff.1 e).1] at e1
        cases e1; exact ⟨_, e⟩
      · rw [List.getElem?_set_ne (fun k => hj k.symm)] at e1; exact ⟨_, e1⟩
    obtain ⟨_, f1⟩ := key j g' o1 e1
    obtain ⟨_, f2⟩ := key k g' o2 e2
    exact h.d j k g' _ _ f1 f2
theorem getElem?_app {α : Type} {l l' : List α} {i : Nat} {a : α} (h : (l ++ l')[i]? = some a) : (i < l.length ∧ l[i]? = some a) ∨ (l.length ≤ i ∧ l'[i - l.length]? = some a) := by
  by_cases hi : i < l.length
  · left; exact ⟨hi, by rw [List.getElem?_append_left hi] at h; exact h⟩
  · right; exact ⟨by omega, by rw [List.getElem?_append_right (by omega)] at h; exact h⟩
theorem Bx.join (h : Bx n w0 w L R) (k : Bx w.heap.size w w' L' R') : Bx n w0 w' (L ++ L') (R ++ R') := by
  have hk := h.m.keep k.m.b
  refine ⟨⟨hk.b, hk.z, fun i g o e => ?_, fun i A B q e => ?_⟩, fun i g o e => ?_, fun i j g o o' e1 e2 => ?_⟩
  · rcases getElem?_app e with ⟨_, e⟩ | ⟨_, e⟩
    · exact hk.l i g o e
    · exact k.m.l _ g o e
  · rcases getElem?_app e with ⟨_, e⟩ | ⟨_, e⟩
    · exact hk.r i A B q e
    · exact (k.m.r _ A B q e).wide h.m.z
  · rcases getElem?_app e with ⟨_, e⟩ | ⟨_, e⟩
    · exact h.g i g o e
    · exact Nat.le_trans h.m.z (k.g _ g o e)
  · rcases getElem?_app e1 with ⟨_, e1⟩ | ⟨i1, e1⟩ <;> rcases getElem?_app e2 with ⟨_, e2⟩ | ⟨i2, e2⟩
    · exact h.d i j g o o' e1 e2
    · exact absurd (heap_lt (h.m.l i g o e1)) (Nat.not_lt.2 (k.g _ g o' e2))
    · exact absurd (heap_lt (h.m.l j g o' e2)) (Nat.not_lt.2 (k.g _ g o e1))
    · have := k.d _ _ g o o' e1 e2; omega
theorem Bx.pre (h : Bx n w0 w L' R') (hL : L <+: L') (hR : R <+: R') : Bx n w0 w L R := by
  have key : ∀ {α : Type} {l l' : List α} (i : Nat) (x : α), l <+: l' → l[i]? = some x → l'[i]? = some x := by
    rintro α l l' i x ⟨t, rfl⟩ e
    rw [List.getElem?_append_left (List.getElem?_eq_some_iff.1 e).1]; exact e
  exact ⟨⟨h.m.b, h.m.z, fun i g o e => h.m.l i g o (key i _ hL e), fun i A B q e => h.m.r i A B q (key i _ hR e)⟩, fun i g o e => h.g i g o (key i _ hL e), fun i j g o o' e e' => h.d i j g o o' (key i _ hL e) (key j _ hL e')⟩
theorem Bx.pack (h : Bx n w0 w L R) : ∃ Rel : World → Prop, Rel w ∧ (∀ w', Rel w' → Bx n w0 w' L R) ∧ (∀ w', Bx n w0 w' L R → Rel w') := ⟨fun w' => Bx n w0 w' L R, h, fun _ h => h, fun _ h => h⟩
theorem Bx.sel (h : Bx n w0 w L R) (f : Nat → Nat) (hL : ∀ (i : Nat) (x : Nat × Obj), L'[i]? = some x → L[f i]? = some x) (hf : ∀ i j, i < L'.length → j < L'.length → f i = f j → i = j)
    (hR : ∀ x, x ∈ R' → x ∈ R) : Bx n w0 w L' R' := by
  refine ⟨⟨h.m.b, h.m.z, fun i g o e => h.m.l (f i) g o (hL i _ e), fun i A B q e => ?_⟩, fun i g o e => h.g (f i) g o (hL i _ e), fun i j g o o' e1 e2 => ?_⟩
  · obtain ⟨j, hj⟩ := List.getElem?_of_mem (hR _ (List.mem_of_getElem? e))
    exact h.m.r j A B q hj
  · exact hf i j (List.getElem?_eq_some_iff.1 e1).1 (List.getElem?_eq_some_iff.1 e2).1 (h.d (f i) (f j) g o o' (hL i _ e1) (hL j _ e2))
end
end Go.Proofs.YtfpofmifmapmfaaGreatDoor

namespace Go.Proofs.YtfpofmifmapmfaaGreatDoor
open Go.RowKit Go.Proofs.YtfpofmifmapmfaaGreatDoorW.PrintLast
set_option linter.unusedVariables false
section
variable {P : Program} {ops : Array Oper} {Q : Exit → Act → World → Prop} {md : Region.Mode} {S : World → Prop} {ds : List Nat}
theorem rowsIn_of {n l : Nat} {row : String} {args : Array Value} {w : World} {R : Value → World → Prop} (h : Rows P row args w R) : RowsIn (Fence.wide.inRound l) n P row args w R :=
  fun c cs _ => let ⟨v, w', r, s⟩ := h c cs; ⟨v, w', r, (show StepsIn (Machine.fenced P Fence.wide) P _ _ from stepsIn_wide.2 s)⟩
theorem callsR {n l : Nat} {f : FuncId} {args : Array Value} {w : World} {R : Ending → World → Prop} (h : Calls P f args w R) : CallsIn (Fence.wide.inRound l) n P f args w R := CallsIn.inRound l (callsIn_wide.2 h)
theorem operR {l n : Nat} {o : Oper} {a : Act} {w : World} {K : Act → World → Prop} (hnd : ∀ c, o.op ≠ .defer c) (h : o.wp P a w K Q) : o.wpIn (Fence.wide.inRound l) n P a w K Q := by
  refine ⟨fun f _ => trivial, ?_⟩
  show o.uponIn _ n P a K Q ((o.semAt (some l) a.eval).run P w)
  rw [Oper.semAt_some l _ o hnd]
  unfold Oper.wp at h
  generalize (execOp a.eval o).run P w = r at h ⊢
  cases r with
  | ok x w' =>
    cases x with
    | value v => exact h
    | skip => exact h
    | defer d => exact h
    | enter f args => exact ⟨fun h => by simp [Fence.wide] at h, callsR h⟩
    | row row args => exact ⟨fun h => by simp [Fence.wide] at h, rowsIn_of h⟩
    | _ => exact h.elim
  | halt x w' => cases x <;> first | exact h | exact h.elim
def noDefer (o : Oper) : Bool := match o.op with | .defer _ => false | _ => true
theorem noDefer_is {o : Oper} (h : noDefer o = true) (c) : o.op ≠ .defer c := by
  intro e; unfold noDefer at h; rw [e] at h; cases h
def calm (ops : Array Oper) : Bool := ops.toList.all noDefer
theorem calm_at {i : Nat} {o : Oper} (h : calm ops = true) (hi : ops[i]? = some o) (c) : o.op ≠ .defer c :=
  noDefer_is (List.all_eq_true.1 h o (by rw [← Array.getElem?_toList] at hi; exact List.mem_of_getElem? hi)) c
theorem opR {l n i : Nat} {K K' : Act → World → Prop} {a : Act} {w : World} (hc : calm ops = true) (hQ : ¬ LetsOut Q) (hK : ∀ a w, K a w → K' a w) (h : wpOp P ops Q i K a w) : wpOpIn (Fence.wide.inRound l) n P ops Q i K' a w := by
  unfold wpOp at h
  unfold wpOpIn
  cases ho : ops[i]? with
  | none => simp only [ho] at h ⊢; exact hK _ _ h
  | some o =>
    simp only [ho] at h ⊢
    split at h
    · rename_i hw
      simp only [hw, if_true]
      rcases h with h | h
      · exact Oper.wpIn_mono hK (operR (calm_at hc ho) h)
      · exact absurd h.2 hQ
    · rename_i hw
      rw [if_neg hw]
      exact ⟨fun _ _ => trivial, hK _ _ h⟩
theorem anyR {l n : Nat} (hc : calm ops = true) (hQ : ¬ LetsOut Q) : ∀ (fuel : Nat) (li : Array Bool) (a : Act) (w : World), wpAny P md ops Q fuel li a w → wpAnyIn (Fence.wide.inRound l) n P md ops Q fuel li a w
  | 0, _, _, _, h => h
  | fuel + 1, li, a, w, h => ⟨h.1, fun i hi => opR hc hQ (fun a w k => anyR hc hQ fuel _ a w k) (h.2 i hi)⟩
theorem startR {id n k l : Nat} {a : Act} {w : World} (li : Array Bool) (hm : P.follows .mixedOrders = true) (hc : calm ops = true) (hQ : ¬ LetsOut Q) (hn : ops.size = n) (hl : Array.replicate n false = li) (hS : S w.drew)
    (h : S w.drew → wpAnyLast P .any ops Q S ds n li a w.drew) : (Code.region id ops true).wpIn (Fence.wide.inRound l) k P Q a w := by
  subst hn
  subst hl
  exact wpIn_region_any hm (anyR hc hQ _ _ _ _ (wpAny_of_last _ _ _ _ (h hS)))
theorem listR {l n : Nat} (hQ : ¬ LetsOut Q) : ∀ (L : List Oper), (L.all noDefer) = true → ∀ (a : Act) (w : World), wpList P ops Q L a w → wpListIn (Fence.wide.inRound l) n P ops Q L a w
  | [], _, a, w, h => h
  | o :: r, hc, a, w, h => by
    rw [List.all_cons, Bool.and_eq_true] at hc
    unfold wpList at h
    unfold wpListIn
    split at h
    · rename_i hw
      simp only [hw, if_true]
      rcases h with h | h
      · exact Oper.wpIn_mono (fun a w k => listR hQ r hc.2 a w k) (operR (noDefer_is hc.1) h)
      · exact absurd h.2 hQ
    · rename_i hw
      rw [if_neg hw]
      exact ⟨fun _ _ => trivial, listR hQ r hc.2 _ _ h⟩
theorem plainR {id k l : Nat} {L : List Oper} {a : Act} {w : World} (hc : (L.all noDefer) = true) (hQ : ¬ LetsOut Q) (h : wpList P L.toArray Q L a w) : (Code.region id L.toArray false).wpIn (Fence.wide.inRound l) k P Q a w :=
  wpIn_region_lit (listR hQ L hc a w h)
theorem outThen {K : Act → World → Prop} (h : ¬ LetsOut Q) : ¬ LetsOut (Exit.then K Q) := fun ⟨a, w, k⟩ => h ⟨a, w, k⟩
theorem outBlock {i : Nat} (h : ¬ LetsOut Q) : ¬ LetsOut (Exit.inBlock i Q) := fun ⟨a, w, k⟩ => h ⟨a, w, k⟩
end
end Go.Proofs.YtfpofmifmapmfaaGreatDoor

namespace Go.Proofs.YtfpofmifmapmfaaGreatDoor
open Go.RowKit Go.Proofs.YtfpofmifmapmfaaGreatDoorW.PrintLast
set_option linter.unusedVariables false
theorem ne_row {W : World} {row : Option Nat} {g : Nat} {o : Obj} (h : W.heap[g]? = some o) (hc : o.isCells = true) (hr : ∀ r, row = some r → ∃ o : Obj, W.heap[r]? = some o ∧ o.isCells = false) : some g ≠ row := by
  intro e
  obtain ⟨o', h1, h2⟩ := hr g e.symm
  rw [h] at h1
  cases h1
  rw [hc] at h2
  cases h2
theorem FreshAt.kept {lo : Nat} {W W' : World} {row : Option Nat} {A : Option Addr} {c : Nat} {xs : List Int} (h : FreshAt lo W A c xs) (hg : W.grownBy W' row) (hr : ∀ r, row = some r → ∃ o : Obj, W.heap[r]? = some o ∧ o.isCells = false) : FreshAt lo W' A c xs := by
  rcases h with h | ⟨b, C', rfl, h1, h2, h3, h4, h5⟩
  · exact Or.inl h
  · exact Or.inr ⟨b, C', rfl, h1, (hg.block b (heap_lt h2) (ne_row h2 rfl hr)).trans h2, h3, h4, h5⟩
theorem RatFresh.kept {lo : Nat} {W W' : World} {row : Option Nat} {A B : Option Addr} {q : Rat} (h : RatFresh lo W A B q) (hg : W.grownBy W' row) (hr : ∀ r, row = some r → ∃ o : Obj, W.heap[r]? = some o ∧ o.isCells = false) : RatFresh lo W' A B q := ⟨h.n.kept hg hr, h.d.kept hg hr⟩
def allCells (L : List (Nat × Obj)) : Bool := L.all (fun x => x.2.isCells)
section
variable {n : Nat} {w0 w w' : World} {L L' : List (Nat × Obj)} {R R' : List (Option Addr × Option Addr × Rat)}
theorem Bx.kept {row : Option Nat} (h : Bx n w0 w L R) (hg : w.grownBy w' row) (hr : ∀ r, row = some r → n ≤ r ∧ ∃ o : Obj, w.heap[r]? = some o ∧ o.isCells = false) (hL : allCells L = true) : Bx n w0 w' L R := by
  have hr2 := fun r e => (hr r e).2
  refine ⟨⟨h.m.b.grown hg h.m.z (fun k e => (hr k e).1), Nat.le_trans h.m.z hg.size, fun i g o e => ?_, fun i A B q e => (h.m.r i A B q e).kept hg hr2⟩, h.g, h.d⟩
  have h1 := h.m.l i g o e
  have hc : o.isCells = true := List.all_eq_true.1 hL (g, o) (List.mem_of_getElem? e)
  exact (hg.block g (heap_lt h1) (ne_row h1 hc hr2)).trans h1
theorem below_keeps {W W' : World} (h : Below W.heap.size W W') : KeepsOthers W W' := ⟨h.size, fun k o hk _ => (h.block k (heap_lt hk)).trans hk⟩
theorem puts_keeps (g : Nat) (vs : List (Nat × Value)) (W : World) : KeepsOthers W (puts g vs W) := by
  induction vs generalizing W with
  | nil => exact KeepsOthers.refl _
  | cons x vs ih => exact (KeepsOthers.setCell W _ _).trans (ih _)
end
end Go.Proofs.YtfpofmifmapmfaaGreatDoor

namespace Go.Proofs.YtfpofmifmapmfaaGreatDoor
open Go.RowKit Go.Proofs.YtfpofmifmapmfaaGreatDoorW.PrintLast
set_option linter.unusedVariables false
section
variable {P : Program} {ops : Array Oper} {Q : Exit → Act → World → Prop} {md : Region.Mode} {a0 : Act} {B : Nat} {w0 : World} {V : Nat → Value → World → Prop} {l : Array Bool} {a : Act} {w w' : World}
theorem FreeI.step (h : FreeI ops a0 B w0 V l a w) {i : Nat} {o : Oper} {d : Nat} {v : Value} (hb : Below B w w') (hz : w.heap.size ≤ w'.heap.size) (hV : ∀ j u, V j u w → V j u w') (hi : ops[i]? = some o) (hd : o.dst = some d) (hdl : d < a0.tmps.size)
    (hdist : ∀ j o', ops[j]? = some o' → o'.dst = some d → j = i) (hil : i < l.size) (hv : V i v w') : FreeI ops a0 B w0 V (l.setIfInBounds i true) (a.put (some d) v) w' := by
  have e : a.put (some d) v = { a with tmps := a.tmps.setIfInBounds d v } := rfl
  rw [e]
  refine ⟨h.defers, by simpa using h.size, h.below.trans hb, Nat.le_trans h.big hz, fun k hk => ?_, fun j o' d' hj hd' hl => ?_⟩
  · show (a.tmps.setIfInBounds d v).getD k undef = _
    rw [getD_setIf _ _ _ _ (by rw [h.size]; exact hdl)]
    by_cases ek : k = d
    · subst ek
      have := hk i o hi hd
      simp [Array.getD, hil] at this
    · rw [if_neg ek]
      exact h.old k fun j o' hj hd' => getD_setB' _ _ _ (hk j o' hj hd')
  · show V j ((a.tmps.setIfInBounds d v).getD d' undef) w'
    rw [getD_setIf _ _ _ _ (by rw [h.size]; exact hdl)]
    by_cases ed : d' = d
    · subst ed
      rw [if_pos rfl, hdist j o' hj hd']
      exact hv
    · rw [if_neg ed]
      rcases getD_setB _ _ _ hl with rfl | hl'
      · rw [hi] at hj
        injection hj with hj
        subst hj
        rw [hd] at hd'
        injection hd' with hd'
        exact absurd hd'.symm ed
      · exact hV _ _ (h.new j o' d' hj hd' hl')
theorem FreeI.skip (h : FreeI ops a0 B w0 V l a w) {i : Nat} {o : Oper} (hb : Below B w w') (hz : w.heap.size ≤ w'.heap.size) (hV : ∀ j u, V j u w → V j u w') (hi : ops[i]? = some o) (hd : o.dst = none) (v : Value) : FreeI ops a0 B w0 V (l.setIfInBounds i true) (a.put none v) w' := by
  refine ⟨h.defers, h.size, h.below.trans hb, Nat.le_trans h.big hz, fun k hk => h.old k fun j o' hj hd' => getD_setB' _ _ _ (hk j o' hj hd'), fun j o' d' hj hd' hl => ?_⟩
  rcases getD_setB _ _ _ hl with rfl | hl'
  · rw [hi] at hj
    injection hj with hj
    subst hj
    rw [hd] at hd'
    cases hd'
  · exact hV _ _ (h.new j o' d' hj hd' hl')
theorem FreeI.val (h : FreeI ops a0 B w0 V l a w) (i d : Nat) {o : Oper} (hi : ops[i]? = some o) (hd : o.dst = some d) (hl : l.getD i false = true) : V i (a.tmps.getD d undef) w := h.new i o d hi hd hl
theorem FreeI.keep (h : FreeI ops a0 B w0 V l a w) (k : Nat) (hk : (ops.toList.all fun o => o.dst != some k) = true) : a.tmps.getD k undef = a0.tmps.getD k undef :=
  h.old k fun i o hi hd => by
    have := List.all_eq_true.1 hk o (by rw [← Array.getElem?_toList] at hi; exact List.mem_of_getElem? hi)
    rw [hd] at this
    simp at this
theorem FreeI.start (hb : B ≤ w0.heap.size) (n : Nat) : FreeI ops a0 B w0 V (Array.replicate n false) a0 w0 :=
  ⟨rfl, rfl, Below.refl _ _, hb, fun _ _ => rfl, fun i o d hi hd hl => by
    simp only [Array.getD_eq_getD_getElem?, Array.getElem?_replicate] at hl
    split at hl <;> simp at hl⟩
theorem ready_dep {listed : Array Bool} {i : Nat} {o : Oper} (h : i ∈ Region.ready md ops listed) (ho : ops[i]? = some o) (j : Nat) (hj : (o.after.toList.any fun e => Region.binds md e && e.on == j) = true) : listed.getD j false = true := by
  obtain ⟨_, _, h3⟩ := ready_mem h
  obtain ⟨e, he, h⟩ := List.any_eq_true.1 hj
  rw [Bool.and_eq_true, beq_iff_eq] at h
  have := h3 o ho e (by simpa using he) h.1
  rwa [h.2] at this
theorem free_in {id k lo : Nat} {a : Act} {w : World} (I : Array Bool → Act → World → Prop) (hm : P.follows .mixedOrders = true) (hc : calm ops = true) (hQ : ¬ LetsOut Q) (h0 : I (Array.replicate ops.size false) a w.drew)
    (hstep : ∀ (listed : Array Bool) a w i, listed.size = ops.size → I listed a w → i ∈ Region.ready .any ops listed → wpOp P ops Q i (fun a' w' => I (listed.setIfInBounds i true) a' w') a w)
    (hend : ∀ (listed : Array Bool) a w, listed.size = ops.size → I listed a w → Region.ready .any ops listed = [] → Q .normal a w) (hf : toCome (Array.replicate ops.size false) ≤ ops.size) :
    (Code.region id ops true).wpIn (Fence.wide.inRound lo) k P Q a w :=
  wpIn_region_any hm (anyR hc hQ _ _ _ _ (wpAny_free I hstep hend _ _ _ _ (by simp) hf h0))
theorem all_listed {listed : Array Bool} (hs : listed.size = ops.size) (hr : Region.ready md ops listed = []) (hw : ∀ i, i < ops.size → ∀ o, ops[i]? = some o → ∀ e ∈ o.after, Region.binds md e = true → e.on < i) : ∀ i, i < ops.size → listed.getD i false = true := by
  intro i
  induction i using Nat.strongRecOn with
  | _ i ih =>
    intro hi
    refine Classical.byContradiction fun hn => ?_
    have hm : i ∈ Region.ready md ops listed := by
      unfold Region.ready
      rw [List.mem_filter, List.mem_range, Bool.and_eq_true]
      refine ⟨hi, ?_, ?_⟩
      · simp only [Array.getD_eq_getD_getElem?] at hn ⊢
        rw [Array.getElem?_eq_getElem (by omega)] at hn ⊢
        simpa using hn
      · rw [Array.getElem?_eq_getElem hi]
        simp only [Option.map_some, Option.getD_some]
        rw [Array.all_eq_true_iff_forall_mem]
        intro e he
        by_cases hb : Region.binds md e = true
        · have hlt := hw i hi _ (Array.getElem?_eq_getElem hi) e he hb
          rw [hb, ih e.on hlt (by omega)]; rfl
        · simp only [Bool.not_eq_true] at hb
          rw [hb]; rfl
    rw [hr] at hm
    cases hm
theorem getD_setT (xs : Array Bool) (d k : Nat) (hd : d < xs.size) : (xs.setIfInBounds d true).getD k false = (decide (k = d) || xs.getD k false) := by
  by_cases e : k = d
  · subst e; simp [Array.getD, hd]
  · simp only [Array.getD_eq_getD_getElem?]
    rw [Array.getElem?_setIfInBounds_ne (by omega)]
    simp [e]
theorem dist_of {d i : Nat} (h : ((List.range ops.size).all fun j => ((ops[j]?).bind (·.dst)) != some d || j == i) = true) (j : Nat) (o' : Oper) (hj : ops[j]? = some o') (hd : o'.dst = some d) : j = i := by
  have hl : j < ops.size := (Array.getElem?_eq_some_iff.1 hj).1
  have := List.all_eq_true.1 h j (List.mem_range.2 hl)
  rw [hj] at this
  simp only [Option.bind_some, hd, bne_self_eq_false, Bool.false_or, beq_iff_eq] at this
  exact this
theorem all_listedB {listed : Array Bool} (hs : listed.size = ops.size) (hr : Region.ready md ops listed = []) (h : ((List.range ops.size).all fun i => (ops[i]?).all fun o => o.after.toList.all fun e => !Region.binds md e || decide (e.on < i)) = true) (i : Nat) (hi : i < ops.size) : listed.getD i false = true :=
  all_listed hs hr (fun i hi o ho e he hb => by
    have := List.all_eq_true.1 h i (List.mem_range.2 hi)
    rw [ho] at this
    have := List.all_eq_true.1 (show (o.after.toList.all fun e => !Region.binds md e || decide (e.on < i)) = true from this) e (by simpa using he)
    rw [hb] at this
    simpa using this) i hi
theorem fold_size (f : Nat → Value) : ∀ (ds : List Nat) (t : Array Value), (ds.foldl (fun t d => t.setIfInBounds d (f d)) t).size = t.size
  | [], t => rfl
  | d :: ds, t => (fold_size f ds _).trans (by simp)
theorem fold_get (f : Nat → Value) (k : Nat) : ∀ (ds : List Nat) (t : Array Value), (∀ d ∈ ds, d < t.size) → (ds.foldl (fun t d => t.setIfInBounds d (f d)) t).getD k undef = if k ∈ ds then f k else t.getD k undef
  | [], t, _ => by simp
  | d :: ds, t, h => by
    rw [List.foldl_cons, fold_get f k ds _ (fun x hx => by have := h x (List.mem_cons_of_mem _ hx); simpa using this), getD_setIf _ _ _ _ (h d List.mem_cons_self)]
    by_cases e1 : k ∈ ds
    · simp [e1]
    · by_cases e2 : k = d
      · subst e2; simp [e1]
      · simp [e1, e2]
theorem FreeI.final (h : FreeI ops a0 B w0 V l a w) (ds : List Nat) (hds : ∀ d ∈ ds, d < a0.tmps.size) (hc : (ops.toList.all fun o => match o.dst with | some d => ds.contains d | none => true) = true) : a = { tmps := ds.foldl (fun t d => t.setIfInBounds d (a.tmps.getD d undef)) a0.tmps, defers := a0.defers } := by
  have e : a.tmps = ds.foldl (fun t d => t.setIfInBounds d (a.tmps.getD d undef)) a0.tmps := by
    apply Array.ext
    · rw [fold_size]; exact h.size
    · intro k h1 h2
      have q := fold_get (fun d => a.tmps.getD d undef) k ds a0.tmps hds
      have e1 : a.tmps.getD k undef = a.tmps[k] := by simp [Array.getD, h1]
      have e2 : (ds.foldl (fun t d => t.setIfInBounds d (a.tmps.getD d undef)) a0.tmps).getD k undef = (ds.foldl (fun t d => t.setIfInBounds d (a.tmps.getD d undef)) a0.tmps)[k] := by simp only [Array.getD, h2, dif_pos]; rfl
      refine e1.symm.trans (Eq.trans ?_ (q.symm.trans e2))
      by_cases hk : k ∈ ds
      · rw [if_pos hk]
      · rw [if_neg hk]
        refine h.old k fun i o hi hd => ?_
        have := List.all_eq_true.1 hc o (by rw [← Array.getElem?_toList] at hi; exact List.mem_of_getElem? hi)
        rw [hd] at this
        exact absurd (by simpa using this) hk
  obtain ⟨t, d⟩ := a
  have hd := h.defers
  dsimp only at hd e
  rw [hd]
  congr
theorem qv_inj {E F E' F' : Option Addr} {q : Rat} (h : qv E F q = qv E' F' q) : E = E' ∧ F = F' := by
  unfold qv at h
  simp at h
  exact ⟨h.1, h.2⟩
theorem free_run {id k lo : Nat} {a : Act} {w : World} (V : Nat → Value → World → Prop) (J : Array Bool → Act → World → Prop) (hm : P.follows .mixedOrders = true) (hc : calm ops = true) (hQ : ¬ LetsOut Q) (hJ0 : J (Array.replicate ops.size false) a w.drew)
    (hstep : ∀ (li : Array Bool) aq wq i, li.size = ops.size → FreeI ops a w.heap.size w.drew V li aq wq → J li aq wq → i ∈ Region.ready .any ops li → wpOp P ops Q i (fun a' w' => FreeI ops a w.heap.size w.drew V (li.setIfInBounds i true) a' w' ∧ J (li.setIfInBounds i true) a' w') aq wq)
    (hend : ∀ (li : Array Bool) aq wq, li.size = ops.size → FreeI ops a w.heap.size w.drew V li aq wq → J li aq wq → Region.ready .any ops li = [] → Q .normal aq wq) (hf : toCome (Array.replicate ops.size false) ≤ ops.size) :
    (Code.region id ops true).wpIn (Fence.wide.inRound lo) k P Q a w :=
  free_in (fun li aq wq => FreeI ops a w.heap.size w.drew V li aq wq ∧ J li aq wq) hm hc hQ ⟨FreeI.start (show w.heap.size ≤ w.drew.heap.size from Nat.le_refl _) _, hJ0⟩ (fun li aq wq i hs h hi => hstep li aq wq i hs h.1 h.2 hi) (fun li aq wq hs h hr => hend li aq wq hs h.1 h.2 hr) hf
def AllAt (t : Array Value) : Nat → List Value → Prop
  | _, [] => True
  | i, v :: vs => t.getD i undef = v ∧ AllAt t (i + 1) vs
theorem AllAt.get {t : Array Value} : ∀ {L : List Value} {i : Nat}, AllAt t i L → ∀ k, k < L.length → t.getD (i + k) undef = L.getD k undef
  | [], _, _, k, h => absurd h (by simp)
  | v :: vs, i, h, 0, _ => h.1
  | v :: vs, i, h, k + 1, hk => by
    have := AllAt.get h.2 k (by simpa using hk)
    rw [show i + (k + 1) = i + 1 + k by omega, this]
    simp
theorem tmps_of {t : Array Value} (L : List Value) (hs : t.size = L.length) (h : AllAt t 0 L) : t = L.toArray := by
  apply Array.ext
  · rw [hs]; simp
  · intro k h1 h2
    have q := AllAt.get h k (by omega)
    rw [Nat.zero_add] at q
    have e1 : t.getD k undef = t[k] := by simp [Array.getD, h1]
    rw [← e1, q]
    simp at h2
    simp [h2]
theorem act_of {a : Act} {L : List Value} {d : List Deferred} (h1 : a.tmps = L.toArray) (h2 : a.defers = d) : a = { tmps := L.toArray, defers := d } := by
  obtain ⟨t, e⟩ := a
  dsimp only at h1 h2
  rw [h1, h2]
end
end Go.Proofs.YtfpofmifmapmfaaGreatDoor

namespace Go.Proofs.YtfpofmifmapmfaaGreatDoor
open Go.RowKit
set_option linter.unusedVariables false
set_option linter.unusedSimpArgs false
def rk (b : Int) : Int := if 9223372036854775808 ≤ b then -(b - 9223372036854775808) else b
def mag (b : Int) : Int := fm b * 2 ^ (fx b + 1074).toNat
def smag (b : Int) : Int := if fneg b then -mag b else mag b
theorem mag_parts (b : Int) : mag b = if fe b = 0 then ff b else (4503599627370496 + ff b) * 2 ^ (fe b - 1).toNat := by
  unfold mag fm fx
  split
  · rw [show ((-1074 : Int) + 1074).toNat = 0 from rfl, Int.pow_zero, Int.mul_one]
  · rw [show fe b - 1075 + 1074 = fe b - 1 by omega]
theorem mag_lt {a b : Int} (h : fe a < fe b ∨ (fe a = fe b ∧ ff a < ff b)) : mag a < mag b := by
  rw [mag_parts, mag_parts]
  have fa := ff_range a
  have fb := ff_range b
  have ea := fe_range a
  have eb := fe_range b
  rcases h with h | ⟨h1, h2⟩
  · rw [if_neg (by omega : ¬ fe b = 0)]
    have q : (1 : Int) ≤ 2 ^ (fe b - 1).toNat := Int.pow_pos (by decide)
    have hb : 4503599627370496 * 2 ^ (fe b - 1).toNat ≤ (4503599627370496 + ff b) * 2 ^ (fe b - 1).toNat := Int.mul_le_mul_of_nonneg_right (by omega) (by omega)
    split
    · generalize (2 : Int) ^ (fe b - 1).toNat = Q at *
      omega
    · obtain ⟨k, hk⟩ : ∃ k : Nat, (fe b - 1).toNat = (fe a - 1).toNat + 1 + k := ⟨(fe b - 1).toNat - ((fe a - 1).toNat + 1), by omega⟩
      refine Int.lt_of_lt_of_le ?_ hb
      rw [hk, Int.pow_add, Int.pow_succ]
      have hP : (0 : Int) < 2 ^ (fe a - 1).toNat := Int.pow_pos (by decide)
      have hR : (1 : Int) ≤ 2 ^ k := Int.pow_pos (by decide)
      generalize (2 : Int) ^ (fe a - 1).toNat = X at *
      generalize (2 : Int) ^ k = R at *
      have h1 : (4503599627370496 + ff a) * X < 9007199254740992 * X := Int.mul_lt_mul_of_pos_right (by omega) hP
      have h2 : X * 2 * 1 ≤ X * 2 * R := Int.mul_le_mul_of_nonneg_left hR (by omega)
      generalize (4503599627370496 + ff a) * X = U at *
      generalize X * 2 * R = V at *
      omega
  · rw [h1]
    split
    · exact h2
    · exact Int.mul_lt_mul_of_pos_right (by omega) (Int.pow_pos (by decide))
theorem mag_nonneg (b : Int) : 0 ≤ mag b := Int.mul_nonneg (fm_range b).1 (Int.le_of_lt (Int.pow_pos (by decide)))
theorem fe_zero : fe 0 = 0 ∧ ff 0 = 0 := by decide
theorem mag_zero : mag 0 = 0 := by rw [mag_parts]; decide
theorem smag_rk {a b : Int} (ha : Fin64 a) (hb : Fin64 b) : (rk a < rk b → smag a < smag b) ∧ (rk a = rk b → smag a = smag b) := by
  have key : ∀ x y : Int, 0 ≤ x → 0 ≤ y → x % 9223372036854775808 < y % 9223372036854775808 → mag x < mag y := fun x y h0 h1 h => by
    apply mag_lt
    unfold fe ff
    omega
  have key0 : ∀ x y : Int, 0 ≤ x → 0 ≤ y → x % 9223372036854775808 = y % 9223372036854775808 → mag x = mag y := fun x y h0 h1 h => by
    rw [mag_parts, mag_parts]
    have e1 : fe x = fe y := by unfold fe; omega
    have e2 : ff x = ff y := by unfold ff; omega
    rw [e1, e2]
  have na := mag_nonneg a
  have nb := mag_nonneg b
  have z : ∀ x : Int, 0 ≤ x → x % 9223372036854775808 ≠ 0 → 0 < mag x := fun x h0 h => by
    have := key 0 x (by decide) h0 (by omega)
    rw [mag_zero] at this
    exact this
  have z0 : ∀ x : Int, 0 ≤ x → x % 9223372036854775808 = 0 → mag x = 0 := fun x h0 h => by
    rw [key0 x 0 h0 (by decide) (by omega), mag_zero]
  have a0 := ha.1
  have a1 := ha.2.1
  have b0 := hb.1
  have b1 := hb.2.1
  have k1 := key a b a0 b0
  have k2 := key b a b0 a0
  have k3 := key0 a b a0 b0
  have k4 := z a a0
  have k5 := z b b0
  have k6 := z0 a a0
  have k7 := z0 b b0
  clear key key0 z z0 ha hb
  unfold smag
  generalize mag a = A at *
  generalize mag b = B at *
  constructor
  · intro h
    by_cases pa : 9223372036854775808 ≤ a <;> by_cases pb : 9223372036854775808 ≤ b <;> simp only [rk, fneg, pa, pb, if_true, if_false, decide_true, decide_false, Bool.false_eq_true] at h ⊢ <;> omega
  · intro h
    by_cases pa : 9223372036854775808 ≤ a <;> by_cases pb : 9223372036854775808 ≤ b <;> simp only [rk, fneg, pa, pb, if_true, if_false, decide_true, decide_false, Bool.false_eq_true] at h ⊢ <;> omega
theorem fval_smag {b : Int} (h : Fin64 b) (D : Nat) (hD : (D : Int) = 2 ^ 1074) : fval b = mkRat (smag b) D := by
  have hD0 : D ≠ 0 := by
    intro e
    rw [e] at hD
    have : (0 : Int) < 2 ^ 1074 := Int.pow_pos (by decide)
    omega
  have pb := fden_pos b
  have rb := fnum_fden b h
  unfold fval quo smag mag
  rw [Rat.mkRat_eq_iff (by omega) hD0, hD, Int.toNat_of_nonneg (by omega)]
  split <;> simp only [Int.neg_mul, rb]
theorem mkRat_lt {s t : Int} {D : Nat} (hD : D ≠ 0) (h : s < t) : mkRat s D < mkRat t D := by
  rw [Rat.mkRat_eq_div, Rat.mkRat_eq_div]
  have hd : (0 : Rat) < (D : Rat) := by exact_mod_cast Nat.pos_of_ne_zero hD
  have h1 : (s : Rat) / (D : Rat) * (D : Rat) = s := Rat.div_mul_cancel (by grind)
  have h2 : (t : Rat) / (D : Rat) * (D : Rat) = t := Rat.div_mul_cancel (by grind)
  have hst : (s : Rat) < (t : Rat) := by exact_mod_cast h
  refine Classical.byContradiction fun hn => ?_
  have := Rat.mul_nonneg (show 0 ≤ (s : Rat) / (D : Rat) - (t : Rat) / (D : Rat) by grind) (Rat.le_of_lt hd)
  grind
theorem pow_nat (n : Nat) : ∃ D : Nat, (D : Int) = 2 ^ n := ⟨2 ^ n, by exact_mod_cast rfl⟩
theorem RT {a b : Int} (h : a = b) : Ending.returned (.tuple #[.int .i64 a, .int .i64 0]) = .returned (.tuple #[.int .i64 b, .int .i64 0]) := by rw [h]
theorem rk_lt {a b : Int} (ha : Fin64 a) (hb : Fin64 b) (h : rk a < rk b) : fval a < fval b := by
  obtain ⟨D, hD⟩ := pow_nat 1074
  rw [fval_smag ha D hD, fval_smag hb D hD]
  refine mkRat_lt (fun e => ?_) ((smag_rk ha hb).1 h)
  rw [e] at hD
  have : (0 : Int) < 2 ^ 1074 := Int.pow_pos (by decide)
  omega
theorem rk_eq {a b : Int} (ha : Fin64 a) (hb : Fin64 b) (h : rk a = rk b) : fval a = fval b := by
  obtain ⟨D, hD⟩ := pow_nat 1074
  rw [fval_smag ha D hD, fval_smag hb D hD, (smag_rk ha hb).2 h]
set_option maxRecDepth 100000 in
theorem fFinite (b : Int) (w : World) (h : Fin64 b) : Calls Tryz.prog 209 #[.int .u64 b] w fun e w' => e = .returned (.bool true) ∧ w = w' := by
  have HC := Lib.hid (fClass b w h.1 h.2.1)
  have hc := fcl_fin h
  generalize fcl b = c at *
  have h3 : ¬ c = 3 := by omega
  have h4 : ¬ c = 4 := by omega
  have h3b : (c == 3) = false := beq_eq_false_iff_ne.2 h3
  have h4b : (c == 4) = false := beq_eq_false_iff_ne.2 h4
  clear hc h3 h4
  go_enter Tryz.func209, Tryz.ntmps209
  ((try dsimp only); repeat (first | go_values | go_skip | go_guarded | go_step | go_upon))
  refine HC.out.mono ?_
  rintro e w1 ⟨rfl, rfl⟩
  go_wp2_with (fail)
  all_goals first | (go_ret; exact ⟨rfl, rfl⟩) | skip
theorem nat_low63 (a : Nat) (h : a < 2 ^ 64) : a &&& (2 ^ 64 - 1 - 2 ^ 63) = a % 2 ^ 63 := by
  rw [show (2 ^ 64 - 1 - 2 ^ 63 : Nat) = 2 ^ 63 - 1 from rfl, Nat.and_two_pow_sub_one_eq_mod]
theorem andNot63 {b : Int} (h0 : 0 ≤ b) (h1 : b ≤ 18446744073709551615) : bits .andNot .u64 b 9223372036854775808 = b % 9223372036854775808 := by
  obtain ⟨a, rfl⟩ := Int.eq_ofNat_of_zero_le h0
  rw [u64_andNot _ _ h0 (by omega) (by decide) (by decide)]
  have := nat_low63 a (by omega)
  rw [Int.toNat_natCast, show ((9223372036854775808 : Int)).toNat = 2 ^ 63 from rfl, show (18446744073709551615 - 2 ^ 63 : Nat) = 2 ^ 64 - 1 - 2 ^ 63 from rfl, this]
  omega
set_option maxRecDepth 100000 in
theorem fRank (b : Int) (w : World) (h : Fin64 b) : Calls Tryz.prog 141 #[.int .u64 b] w fun e w' => e = .returned (.tuple #[.int .i64 (rk b), .int .i64 0]) ∧ w = w' := by
  have HF := Lib.hid (fFinite b w h)
  have ht := top_neg h.1 h.2.1
  have ha := andNot63 h.1 h.2.1
  have h0 := h.1
  have h1 := h.2.1
  by_cases hn : 9223372036854775808 ≤ b
  · have HR : Hid (rk b = -(b - 9223372036854775808)) := Lib.hid (if_pos hn)
    have hfn : fneg b = true := decide_eq_true hn
    rw [hfn] at ht
    go_enter Tryz.func141, Tryz.ntmps141
    ((try dsimp only); repeat (first | go_values | go_skip | go_guarded | go_step | go_upon))
    refine HF.out.mono ?_
    rintro e w1 ⟨rfl, rfl⟩
    ((try dsimp only); repeat (first | go_values | go_skip | go_guarded | go_step | go_upon))
    go_ret2
    exact ⟨RT (by rw [HR.out]; omega), rfl⟩
  · have HR : Hid (rk b = b) := Lib.hid (if_neg hn)
    have hfn : fneg b = false := decide_eq_false hn
    rw [hfn] at ht
    go_enter Tryz.func141, Tryz.ntmps141
    ((try dsimp only); repeat (first | go_values | go_skip | go_guarded | go_step | go_upon))
    refine HF.out.mono ?_
    rintro e w1 ⟨rfl, rfl⟩
    ((try dsimp only); repeat (first | go_values | go_skip | go_guarded | go_step | go_upon))
    go_ret2
    exact ⟨RT (by rw [HR.out]; omega), rfl⟩
set_option maxRecDepth 100000 in
theorem fCmp (a b : Int) (w : World) (ha : Fin64 a) (hb : Fin64 b) : Calls Tryz.prog 81 #[.int .u64 a, .int .u64 b] w fun e w' => e = .returned (.tuple #[.int .i64 (qcmp (fval a) (fval b)), .int .i64 0]) ∧ w = w' := by
  have H1 := Lib.hid (fRank a w ha)
  have H2 := Lib.hid (fRank b w hb)
  have hl := rk_lt ha hb
  have hg := rk_lt hb ha
  have he := rk_eq ha hb
  have hq : (rk a < rk b ∧ qcmp (fval a) (fval b) = -1) ∨ (rk a = rk b ∧ qcmp (fval a) (fval b) = 0) ∨ (rk b < rk a ∧ qcmp (fval a) (fval b) = 1) := by
    rcases Int.lt_trichotomy (rk a) (rk b) with h | h | h
    · exact Or.inl ⟨h, qcmp_lt.2 (hl h)⟩
    · exact Or.inr (Or.inl ⟨h, qcmp_eq.2 (he h)⟩)
    · exact Or.inr (Or.inr ⟨h, qcmp_gt.2 (hg h)⟩)
  clear hl hg he
  generalize rk a = r at *
  generalize rk b = s at *
  generalize qcmp (fval a) (fval b) = q at *
  go_enter Tryz.func81, Tryz.ntmps81
  ((try dsimp only); repeat (first | go_values | go_skip | go_guarded | go_step | go_upon))
  refine H1.out.mono ?_
  rintro e w1 ⟨rfl, rfl⟩
  ((try dsimp only); repeat (first | go_values | go_skip | go_guarded | go_step | go_upon))
  refine H2.out.mono ?_
  rintro e w1 ⟨rfl, rfl⟩
  rcases hq with ⟨h, rfl⟩ | ⟨h, rfl⟩ | ⟨h, rfl⟩
  · ((try dsimp only); repeat (first | go_values | go_skip | go_guarded | go_step | go_upon))
    go_ret2
    exact ⟨rfl, rfl⟩
  · have h1 : ¬ r < s := by omega
    have h2 : ¬ s < r := by omega
    ((try dsimp only); repeat (first | go_values | go_skip | go_guarded | go_step | go_upon))
    go_ret2
    exact ⟨rfl, rfl⟩
  · have h1 : ¬ r < s := by omega
    ((try dsimp only); repeat (first | go_values | go_skip | go_guarded | go_step | go_upon))
    go_ret2
    exact ⟨rfl, rfl⟩
end Go.Proofs.YtfpofmifmapmfaaGreatDoor

namespace Go.Proofs.YtfpofmifmapmfaaGreatDoor
open Go.RowKit Go.Proofs.YtfpofmifmapmfaaGreatDoorW.PrintLast
set_option linter.unusedVariables false
set_option linter.unusedSimpArgs false
def Gd (D : Nat) (M : Int) (q : Rat) : Prop := D ≠ 0 ∧ ∃ z : Int, q = mkRat z D ∧ -M ≤ z ∧ z ≤ M
theorem Gd.mono {D : Nat} {M M' : Int} {q : Rat} (h : Gd D M q) (k : M ≤ M') : Gd D M' q := by
  obtain ⟨h0, z, e, a, b⟩ := h
  exact ⟨h0, z, e, by omega, by omega⟩
theorem mkRat_zero (D : Nat) : mkRat 0 D = 0 := by rw [Rat.mkRat_eq_div]; grind
theorem Gd.zero {D : Nat} (h : D ≠ 0) : Gd D 0 0 := ⟨h, 0, (mkRat_zero D).symm, by omega, by omega⟩
theorem Gd.add {D : Nat} {M M' : Int} {p q : Rat} (h : Gd D M p) (k : Gd D M' q) : Gd D (M + M') (p + q) := by
  obtain ⟨h0, z, rfl, a, b⟩ := h
  obtain ⟨_, y, rfl, c, d⟩ := k
  refine ⟨h0, z + y, ?_, by omega, by omega⟩
  rw [Rat.mkRat_eq_div, Rat.mkRat_eq_div, Rat.mkRat_eq_div, Rat.intCast_add, Rat.div_def, Rat.div_def, Rat.div_def, Rat.add_mul]
theorem Gd.neg {D : Nat} {M : Int} {p : Rat} (h : Gd D M p) : Gd D M (-p) := by
  obtain ⟨h0, z, rfl, a, b⟩ := h
  refine ⟨h0, -z, ?_, by omega, by omega⟩
  rw [Rat.mkRat_eq_div, Rat.mkRat_eq_div, Rat.intCast_neg, Rat.div_def, Rat.div_def, Rat.neg_mul]
theorem Gd.sub {D : Nat} {M M' : Int} {p q : Rat} (h : Gd D M p) (k : Gd D M' q) : Gd D (M + M') (p - q) := by
  rw [Rat.sub_eq_add_neg]; exact h.add k.neg
theorem abs_le_mul {x y M N : Int} (a : -M ≤ x) (b : x ≤ M) (c : -N ≤ y) (d : y ≤ N) : -(M * N) ≤ x * y ∧ x * y ≤ M * N := by
  have h : x.natAbs * y.natAbs ≤ M.toNat * N.toNat := Nat.mul_le_mul (by omega) (by omega)
  have h1 : ((x.natAbs * y.natAbs : Nat) : Int) ≤ ((M.toNat * N.toNat : Nat) : Int) := by exact_mod_cast h
  have h2 : ((x.natAbs * y.natAbs : Nat) : Int) = ((x * y).natAbs : Nat) := by rw [Int.natAbs_mul]
  have h3 : ((M.toNat * N.toNat : Nat) : Int) = M * N := by
    rw [Int.natCast_mul, Int.toNat_of_nonneg (by omega), Int.toNat_of_nonneg (by omega)]
  omega
theorem Gd.mul {D D' : Nat} {M M' : Int} {p q : Rat} (h : Gd D M p) (k : Gd D' M' q) : Gd (D * D') (M * M') (p * q) := by
  obtain ⟨h0, z, rfl, a, b⟩ := h
  obtain ⟨h1, y, rfl, c, d⟩ := k
  obtain ⟨e, f⟩ := abs_le_mul a b c d
  exact ⟨Nat.mul_ne_zero h0 h1, z * y, Rat.mkRat_mul_mkRat .., e, f⟩
theorem mkRat_quo (z : Int) (D : Nat) : mkRat z D = quo (decide (z < 0)) (z.natAbs : Nat) (D : Int) := by
  unfold quo
  rw [Int.toNat_natCast]
  congr 1
  by_cases h : z < 0 <;> simp [h] <;> omega
theorem Gd.sz {D : Nat} {M : Int} {q : Rat} {n : Nat} (h : Gd D M q) (hM : M < 2 ^ n) (hD : (D : Int) < 2 ^ n) : Sz n q := by
  obtain ⟨h0, z, rfl, a, b⟩ := h
  rw [mkRat_quo]
  exact sz_quo (by omega) (by omega) (by omega) hD
theorem mag_lt_pow {b : Int} (h : Fin64 b) : mag b < 2 ^ 2099 := by
  have r := fm_range b
  have x := fx_range h
  have e : (2099 : Nat) = 53 + 2046 := rfl
  have e2 : (2:Int) ^ 53 = 9007199254740992 := by decide
  unfold mag
  rw [e]
  exact mul_lt_pow r.1 (Int.le_of_lt (Int.pow_pos (by decide))) (by rw [e2]; exact r.2) (ipow_lt (by omega))
theorem gd_fval {b : Int} (h : Fin64 b) {D : Nat} (hD : (D : Int) = 2 ^ 1074) {X : Int} (hX : X = 2 ^ 2099) : Gd D X (fval b) := by
  have m := mag_lt_pow h
  have m0 := mag_nonneg b
  have p : (0 : Int) < 2 ^ 1074 := Int.pow_pos (by decide)
  refine ⟨by omega, smag b, fval_smag h D hD, ?_, ?_⟩ <;> unfold smag <;> split <;> omega
end Go.Proofs.YtfpofmifmapmfaaGreatDoor

namespace Go.Proofs.YtfpofmifmapmfaaGreatDoor
open Go.RowKit Go.Proofs.YtfpofmifmapmfaaGreatDoorW.PrintLast
set_option linter.unusedVariables false
set_option linter.unusedSimpArgs false
abbrev Ed := Pt × Pt
def edge (r : List Pt) (k : Nat) : Ed := (r.getD k (0, 0), r.getD (k + 1) (0, 0))
def edgesU (r : List Pt) (k : Nat) : List Ed := (List.range k).map (edge r)
theorem edgesU_succ (r : List Pt) (k : Nat) : edgesU r (k + 1) = edgesU r k ++ [edge r k] := by simp [edgesU, List.range_succ]
theorem edgesU_len (r : List Pt) (k : Nat) : (edgesU r k).length = k := by simp [edgesU]
def edgesR (r : List Pt) : List Ed := edgesU r (r.length - 1)
def crs (e : Ed) : Rat := fval e.1.1 * fval e.2.2 - fval e.2.1 * fval e.1.2
def mox (e : Ed) : Rat := (fval e.1.1 + fval e.2.1) * crs e
def moy (e : Ed) : Rat := (fval e.1.2 + fval e.2.2) * crs e
def sumE (f : Ed → Rat) (es : List Ed) : Rat := es.foldl (fun s e => s + f e) 0
theorem sumE_snoc (f : Ed → Rat) (es : List Ed) (e : Ed) : sumE f (es ++ [e]) = sumE f es + f e := by simp [sumE]
def FinE (e : Ed) : Prop := FinP e.1 ∧ FinP e.2
theorem edge_fin {r : List Pt} (h : ∀ p ∈ r, FinP p) {k : Nat} (hk : k + 1 < r.length) : FinE (edge r k) := by
  have g : ∀ j, j < r.length → r.getD j (0, 0) ∈ r := fun j hj => by rw [List.getD_eq_getElem?_getD, List.getElem?_eq_getElem hj]; exact List.getElem_mem hj
  exact ⟨h _ (g _ (by omega)), h _ (g _ hk)⟩
structure Gr (D : Nat) (X : Int) : Prop where
  d : (D : Int) = 2 ^ 1074
  x : X = 2 ^ 2099
theorem gr_some : ∃ D X, Gr D X := by
  obtain ⟨D, hD⟩ := pow_nat 1074
  exact ⟨D, _, hD, rfl⟩
variable {D : Nat} {X : Int}
theorem Gr.fv (g : Gr D X) {b : Int} (h : Fin64 b) : Gd D X (fval b) := gd_fval h g.d g.x
theorem Gr.prod (g : Gr D X) {a b : Int} (h : Fin64 a) (k : Fin64 b) : Gd (D * D) (X * X) (fval a * fval b) := (g.fv h).mul (g.fv k)
theorem Gr.crs (g : Gr D X) {e : Ed} (h : FinE e) : Gd (D * D) (X * X + X * X) (crs e) := (g.prod h.1.1 h.2.2).sub (g.prod h.2.1 h.1.2)
theorem Gr.mox (g : Gr D X) {e : Ed} (h : FinE e) : Gd (D * (D * D)) ((X + X) * (X * X + X * X)) (mox e) := ((g.fv h.1.1).add (g.fv h.2.1)).mul (g.crs h)
theorem Gr.moy (g : Gr D X) {e : Ed} (h : FinE e) : Gd (D * (D * D)) ((X + X) * (X * X + X * X)) (moy e) := ((g.fv h.1.2).add (g.fv h.2.2)).mul (g.crs h)
theorem Gr.sum {D' : Nat} {M : Int} {f : Ed → Rat} (hD : D' ≠ 0) (hM : 0 ≤ M) (es : List Ed) (h : ∀ e ∈ es, Gd D' M (f e)) : Gd D' (es.length * M) (sumE f es) := by
  have key : ∀ (es : List Ed) (s : Rat) (N : Int), (∀ e ∈ es, Gd D' M (f e)) → Gd D' N s → Gd D' (N + es.length * M) (es.foldl (fun s e => s + f e) s) := by
    intro es
    induction es with
    | nil => intro s N _ hs; simpa using hs
    | cons e es ih =>
      intro s N h hs
      have := ih (s + f e) (N + M) (fun x hx => h x (List.mem_cons_of_mem _ hx)) (hs.add (h e List.mem_cons_self))
      rw [List.foldl_cons, List.length_cons]
      refine this.mono ?_
      rw [Int.natCast_add, Int.add_mul]
      omega
  have := key es 0 0 h (Gd.zero hD)
  rw [Int.zero_add] at this
  exact this
theorem pow_sum {a b : Nat} {x y : Int} (hx : x = 2 ^ a) (hy : y = 2 ^ b) : x * y = 2 ^ (a + b) := by rw [hx, hy, Int.pow_add]
theorem Gr.xx (g : Gr D X) : X * X = 2 ^ (2099 + 2099) := pow_sum g.x g.x
theorem Gr.dd (g : Gr D X) : ((D * D : Nat) : Int) = 2 ^ (1074 + 1074) := by rw [Int.natCast_mul]; exact pow_sum g.d g.d
theorem Gr.ddd (g : Gr D X) : ((D * (D * D) : Nat) : Int) = 2 ^ (1074 + (1074 + 1074)) := by rw [Int.natCast_mul]; exact pow_sum g.d g.dd
theorem pow_succ2 {a : Nat} {x : Int} (hx : x = 2 ^ a) : x + x = 2 ^ (a + 1) := by rw [hx, Int.pow_succ]; omega
theorem Gr.cc (g : Gr D X) : X * X + X * X = 2 ^ (2099 + 2099 + 1) := pow_succ2 g.xx
theorem Gr.mm (g : Gr D X) : (X + X) * (X * X + X * X) = 2 ^ (2099 + 1 + (2099 + 2099 + 1)) := pow_sum (pow_succ2 g.x) g.cc
theorem Gr.d0 (g : Gr D X) : D ≠ 0 := by
  have := g.d
  have p : (0 : Int) < 2 ^ 1074 := Int.pow_pos (by decide)
  omega
theorem times_lt {n : Nat} {M : Int} {a : Nat} (hM : M = 2 ^ a) (hn : n < 1024) : n * M < 2 ^ (10 + a) := by
  have e : (2:Int) ^ 10 = 1024 := by decide
  have p : (0 : Int) < 2 ^ a := Int.pow_pos (by decide)
  rw [Int.pow_add, e, hM]
  exact Int.mul_lt_mul_of_pos_right (by omega) p
theorem area_szE {es : List Ed} (h : ∀ e ∈ es, FinE e) (hl : es.length < 1024) : Sz 4210 (sumE crs es) := by
  obtain ⟨D, X, g⟩ := gr_some
  have k := Gr.sum (Nat.mul_ne_zero g.d0 g.d0) (by rw [g.cc]; exact Int.le_of_lt (Int.pow_pos (by decide))) es (fun e he => g.crs (h e he))
  exact k.sz (Int.lt_of_lt_of_le (times_lt g.cc hl) (ipow_le (by omega))) (by rw [g.dd]; exact ipow_lt (by omega))
theorem mox_szE {es : List Ed} (h : ∀ e ∈ es, FinE e) (hl : es.length < 1024) : Sz 6310 (sumE mox es) ∧ Sz 6310 (sumE moy es) := by
  obtain ⟨D, X, g⟩ := gr_some
  have p : (0 : Int) ≤ (X + X) * (X * X + X * X) := by rw [g.mm]; exact Int.le_of_lt (Int.pow_pos (by decide))
  have n0 := Nat.mul_ne_zero g.d0 (Nat.mul_ne_zero g.d0 g.d0)
  have k := Gr.sum n0 p es (fun e he => g.mox (h e he))
  have k2 := Gr.sum n0 p es (fun e he => g.moy (h e he))
  have q := Int.lt_of_lt_of_le (times_lt g.mm hl) (ipow_le (show 10 + (2099 + 1 + (2099 + 2099 + 1)) ≤ 6310 by omega))
  exact ⟨k.sz q (by rw [g.ddd]; exact ipow_lt (by omega)), k2.sz q (by rw [g.ddd]; exact ipow_lt (by omega))⟩
def onE (p : Pt) (e : Ed) : Bool := btwP e.1 e.2 p
def crossE (p : Pt) (e : Ed) : Int :=
  if qcmp (fval e.1.2) (fval p.2) ≤ 0 ∧ 0 < qcmp (fval e.2.2) (fval p.2) ∧ 0 < sideP e.1 e.2 p then 1
  else if qcmp (fval e.2.2) (fval p.2) ≤ 0 ∧ 0 < qcmp (fval e.1.2) (fval p.2) ∧ sideP e.1 e.2 p < 0 then -1 else 0
def sumI (f : Ed → Int) (es : List Ed) : Int := es.foldl (fun s e => s + f e) 0
theorem sumI_snoc (f : Ed → Int) (es : List Ed) (e : Ed) : sumI f (es ++ [e]) = sumI f es + f e := by simp [sumI]
theorem crossE_range (p : Pt) (e : Ed) : -1 ≤ crossE p e ∧ crossE p e ≤ 1 := by unfold crossE; split <;> (try split) <;> omega
theorem sumI_range (p : Pt) (r : List Pt) (k : Nat) : -(k : Int) ≤ sumI (crossE p) (edgesU r k) ∧ sumI (crossE p) (edgesU r k) ≤ k := by
  induction k with
  | zero => simp [edgesU, sumI]
  | succ k ih =>
    have c := crossE_range p (edge r k)
    rw [edgesU_succ, sumI_snoc]
    omega
end Go.Proofs.YtfpofmifmapmfaaGreatDoor
