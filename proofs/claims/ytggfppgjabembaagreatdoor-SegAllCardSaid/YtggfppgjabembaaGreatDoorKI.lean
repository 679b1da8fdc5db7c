/- What the rows over four points share. -/
import Derived.Test.YtggfppgjabembaaGreatDoorKA
import Derived.Test.YtggfppgjabembaaGreatDoorKF
import Derived.Test.YtggfppgjabembaaGreatDoorKH
import Derived.Test.YtggfppgjabembaaGreatDoorRows
import Derived.ProofKit
import Derived.LaidMore
import Derived.OpenShut
import Derived.Stop.Joined
import Derived.Below
import Derived.ChangeSame
namespace Go.Proofs.YtggfppgjabembaaGreatDoor
open Go.RowKit Go.Proofs.YtggfppgjabembaaGreatDoorW.PrintLast
set_option linter.unusedVariables false
set_option linter.unusedSimpArgs false
def fin0 (b : Int) : Int := if fe b = 2047 then b - 4503599627370496 else b
theorem fin0_fin {b : Int} (h0 : 0 ≤ b) (h1 : b ≤ 18446744073709551615) : Fin64 (fin0 b) := by
  unfold Fin64 fin0
  split
  · rename_i h
    unfold fe at *
    refine ⟨?_, ?_, ?_⟩ <;> omega
  · rename_i h
    exact ⟨h0, h1, h⟩
theorem clear52 (a : Nat) (h : a < 2 ^ 64) (hb : a / 2 ^ 52 % 2 = 1) : a &&& (2 ^ 64 - 1 - 2 ^ 52) = a - 2 ^ 52 := by
  obtain ⟨r, hr⟩ : ∃ r, a % 2 ^ 52 = r := ⟨_, rfl⟩
  obtain ⟨q, hq⟩ : ∃ q, a / 2 ^ 53 = q := ⟨_, rfl⟩
  have hr1 : r < 2 ^ 52 := by omega
  have hq1 : q < 2 ^ 11 := by omega
  have e1 : a = 2 ^ 53 * q + (2 ^ 52 * 1 + r) := by omega
  have e2 : a - 2 ^ 52 = 2 ^ 53 * q + r := by omega
  rw [e2, e1, Nat.two_pow_add_eq_or_of_lt (by omega), Nat.two_pow_add_eq_or_of_lt hr1, Nat.two_pow_add_eq_or_of_lt (i := 53) (b := r) (by omega)]
  apply Nat.eq_of_testBit_eq
  intro i
  rw [Nat.sub_sub, Nat.add_comm 1]
  simp only [Nat.testBit_and, Nat.testBit_or, Nat.testBit_two_pow_sub_succ (show (2:Nat) ^ 52 < 2 ^ 64 by omega), Nat.testBit_two_pow, Nat.mul_one]
  have hr2 : 52 ≤ i → r.testBit i = false := fun hi => Nat.testBit_lt_two_pow (Nat.lt_of_lt_of_le hr1 (Nat.pow_le_pow_right (by decide) hi))
  by_cases h52 : i = 52
  · subst h52
    rw [hr2 (Nat.le_refl _), Nat.testBit_two_pow_mul]
    simp
  · by_cases h64 : i < 64
    · have : ¬ 52 = i := fun e => h52 e.symm
      simp [this, h64]
    · have hq2 : (2 ^ 53 * q).testBit i = false := Nat.testBit_lt_two_pow (Nat.lt_of_lt_of_le (show 2 ^ 53 * q < 2 ^ 64 by omega) (Nat.pow_le_pow_right (by decide) (by omega)))
      rw [hr2 (by omega), hq2]
      simp [h64]
theorem andNot52 {b : Int} (h0 : 0 ≤ b) (h1 : b ≤ 18446744073709551615) (h : fe b = 2047) : bits .andNot .u64 b 4503599627370496 = b - 4503599627370496 := by
  obtain ⟨a, rfl⟩ := Int.eq_ofNat_of_zero_le h0
  unfold fe at h
  rw [u64_andNot _ _ h0 (by omega) (by decide) (by decide)]
  have := clear52 a (by omega) (by omega)
  rw [Int.toNat_natCast, show ((4503599627370496 : Int)).toNat = 2 ^ 52 from rfl, show (18446744073709551615 - 2 ^ 52 : Nat) = 2 ^ 64 - 1 - 2 ^ 52 from rfl, this]
  omega
set_option maxRecDepth 100000 in
theorem lFinite (b : Int) (w : World) (h0 : 0 ≤ b) (h1 : b ≤ 18446744073709551615) :
    Calls Tryz.prog 65 #[.int .u64 b] w fun e w' => e = .returned (.int .u64 (fin0 b)) ∧ w = w' := by
  have ha := and_2047 (b / 4503599627370496) (by omega) (by omega)
  have HF : Hid (fin0 b = if fe b = 2047 then b - 4503599627370496 else b) := Lib.hid rfl
  have HE : Hid (b / 4503599627370496 % 2048 = fe b) := Lib.hid rfl
  by_cases hf : fe b = 2047
  · have hb : (b / 4503599627370496 % 2048 == 2047) = true := by rw [HE.out]; exact beq_iff_eq.2 hf
    rw [if_pos hf] at HF
    go_enter Tryz.func65, Tryz.ntmps65
    ((try dsimp only); repeat (first | go_values | go_skip | go_guarded | go_step | go_upon))
    go_ret
    exact ⟨R1 (by rw [HF.out, andNot52 h0 h1 hf]), rfl⟩
  · have hb : (b / 4503599627370496 % 2048 == 2047) = false := by rw [HE.out]; exact beq_eq_false_iff_ne.2 hf
    rw [if_neg hf] at HF
    go_enter Tryz.func65, Tryz.ntmps65
    ((try dsimp only); repeat (first | go_values | go_skip | go_guarded | go_step | go_upon))
    go_ret
    exact ⟨R1 (by rw [HF.out]), rfl⟩
def spot (p : Pt) : Pt := (fin0 p.1, fin0 p.2)
def U64 (b : Int) : Prop := 0 ≤ b ∧ b ≤ 18446744073709551615
def PtU (p : Pt) : Prop := U64 p.1 ∧ U64 p.2
theorem spot_fin {p : Pt} (h : PtU p) : FinP (spot p) := ⟨fin0_fin h.1.1 h.1.2, fin0_fin h.2.1 h.2.2⟩
structure SpS (w0 : World) (n : Nat) (p : Pt) (w : World) : Prop where
  b : Below n w0 w
  p : w.heap[n]? = some (.cells #[.int .u64 p.1, .int .u64 p.2] 24 (0, 0))
  r : w.heap[n + 1]? = some (.cells #[.int .u64 0, .int .u64 0] 24 (0, 0))
set_option maxRecDepth 100000 in
theorem lSpot (p : Pt) (w : World) (hp : PtU p) : Calls Tryz.prog 32 #[pt p] w fun e w' => e = .returned (pt (spot p)) ∧ Below w.heap.size w w' := by
  have HF1 := Lib.hid (fun wz => lFinite p.1 wz hp.1.1 hp.1.2)
  have HF2 := Lib.hid (fun wz => lFinite p.2 wz hp.2.1 hp.2.2)
  have HS : Hid (spot p = (fin0 p.1, fin0 p.2)) := Lib.hid rfl
  generalize fin0 p.1 = f1 at *
  generalize fin0 p.2 = f2 at *
  have hS : SpS w w.heap.size p ((w.alloc (.cells #[.int .u64 p.1, .int .u64 p.2] 24)).alloc (.cells #[.int .u64 0, .int .u64 0] 24)) :=
    ⟨(by repeat (first | exact Below.refl _ _ | refine belowN ?_ _ | refine Below.drew ?_ | refine Below.alloc ?_ (by first | exact Nat.le_refl _ | (simp; done) | (simp; omega) | omega) _)), alloc_old (alloc_new _ _), alloc_at _ (by simp)⟩
  unfold pt at *
  go_enter Tryz.func32, Tryz.ntmps32
  ((try dsimp only); repeat (first | go_values | go_skip | go_guarded | go_step | go_upon))
  generalize (World.alloc (World.alloc w _) _) = w2 at *
  have hSd : SpS w w.heap.size p w2.drew := ⟨hS.b.drew, hS.p, hS.r⟩
  clear hS
  refine start_ (n := 8) (S := fun w' => SpS w w.heap.size p w') (ds := [7]) (bt 8 0) (by kernel_rfl) rfl rfl (hSd) (fun hHeld => ?_)
  refine pv_ 0 3 ?_
  refine ld_ 1 4 ?_ hHeld ?_ ?_; rotate_left
  · rintro w' hs
    obtain ⟨q0, q1⟩ := row2 hs.p
    clear hs
    go_simp; with_reducible rfl
  refine pv_ 3 6 ?_
  refine ld_ 4 7 ?_ hHeld ?_ ?_; rotate_left
  · rintro w' hs
    obtain ⟨q0, q1⟩ := row2 hs.p
    clear hs
    go_simp; with_reducible rfl
  refine ca_ 2 5 Tryz.func65 #[.int .u64 p.1] ?_
  with_reducible refine (HF1.out _).mono ?_
  rintro e w' ⟨rfl, rfl⟩
  refine ⟨_, rfl, (by exact hHeld), fun hHeld => ?_⟩
  refine nn ?_
  refine ca_ 5 8 Tryz.func65 #[.int .u64 p.2] ?_
  with_reducible refine (HF2.out _).mono ?_
  rintro e w' ⟨rfl, rfl⟩
  refine ⟨_, rfl, (by exact hHeld), fun hHeld => ?_⟩
  refine nn ?_
  refine pv_ 6 9 ?_
  refine last_ (i := 7) (N := none) (bt 8 255) rfl rfl (by kernel_rfl) (by decide) (fun K hK => ?_)
  have HZ := Lib.hid hHeld
  obtain ⟨z0, z1, z2, z3⟩ := row2f (w := w2) hHeld.r
  clear hHeld
  refine skip_ (w1 := ?_) (by rfl) rfl ?_ ?_
  rotate_left
  · go_simp
    rfl
  refine hK.out _ _ ?_
  clear hK K
  refine done_ (by kernel_rfl) ?_
  ((try dsimp only); repeat (first | go_values | go_skip | go_guarded | go_step | go_upon))
  refine bodyPost_ret (results_cell_row rfl _ _ (w.heap.size + 1) _ _ _ _ rfl (heap_set_two HZ.out.r _ _) rfl rfl rfl) rfl ?_
  exact ⟨by rw [HS.out], (HZ.out.b.setCell (by show _ ≤ w.heap.size + 1; omega) _).setCell (by show _ ≤ w.heap.size + 1; omega) _⟩
def fr (a b c d : Pt) : Value := .agg #[.int .u64 a.1, .int .u64 a.2, .int .u64 b.1, .int .u64 b.2, .int .u64 c.1, .int .u64 c.2, .int .u64 d.1, .int .u64 d.2]
theorem row8 {w : World} {g : Nat} {a b c d e f i j : Value} {t : TypeId} (h : w.heap[g]? = some (.cells #[a, b, c, d, e, f, i, j] t (0, 0))) : w.cell? ⟨g, 0, none⟩ = some a ∧ w.cell? ⟨g, 1, none⟩ = some b ∧ w.cell? ⟨g, 2, none⟩ = some c ∧ w.cell? ⟨g, 3, none⟩ = some d ∧
    w.cell? ⟨g, 4, none⟩ = some e ∧ w.cell? ⟨g, 5, none⟩ = some f ∧ w.cell? ⟨g, 6, none⟩ = some i ∧ w.cell? ⟨g, 7, none⟩ = some j :=
  ⟨by rw [cell_of_cells h]; rfl, by rw [cell_of_cells h]; rfl, by rw [cell_of_cells h]; rfl, by rw [cell_of_cells h]; rfl, by rw [cell_of_cells h]; rfl, by rw [cell_of_cells h]; rfl, by rw [cell_of_cells h]; rfl, by rw [cell_of_cells h]; rfl⟩
theorem free8 {w : World} {g : Nat} {a b c d e f i j : Value} {t : TypeId} (h : w.heap[g]? = some (.cells #[a, b, c, d, e, f, i, j] t (0, 0))) : w.frozen? ⟨g, 0, none⟩ = false ∧ w.frozen? ⟨g, 1, none⟩ = false ∧ w.frozen? ⟨g, 2, none⟩ = false ∧ w.frozen? ⟨g, 3, none⟩ = false ∧
    w.frozen? ⟨g, 4, none⟩ = false ∧ w.frozen? ⟨g, 5, none⟩ = false ∧ w.frozen? ⟨g, 6, none⟩ = false ∧ w.frozen? ⟨g, 7, none⟩ = false :=
  ⟨free_of_cells h 0, free_of_cells h 1, free_of_cells h 2, free_of_cells h 3, free_of_cells h 4, free_of_cells h 5, free_of_cells h 6, free_of_cells h 7⟩
def eightSet (g : Nat) (a b c d e f i j : Value) (w : World) : World := (((((((w.setCell ⟨g, 0, none⟩ a).setCell ⟨g, 1, none⟩ b).setCell ⟨g, 2, none⟩ c).setCell ⟨g, 3, none⟩ d).setCell ⟨g, 4, none⟩ e).setCell ⟨g, 5, none⟩ f).setCell ⟨g, 6, none⟩ i).setCell ⟨g, 7, none⟩ j
theorem eight_at {w : World} {g : Nat} {a0 b0 c0 d0 e0 f0 i0 j0 : Value} {t : TypeId} (h : w.heap[g]? = some (.cells #[a0, b0, c0, d0, e0, f0, i0, j0] t (0, 0))) (a b c d e f i j : Value) :
    (eightSet g a b c d e f i j w).heap[g]? = some (.cells #[a, b, c, d, e, f, i, j] t (0, 0)) :=
  have h1 : (w.setCell ⟨g, 0, none⟩ a).heap[g]? = some (.cells #[a, b0, c0, d0, e0, f0, i0, j0] t (0, 0)) := heap_set_cell h 0 a
  have h2 : ((w.setCell ⟨g, 0, none⟩ a).setCell ⟨g, 1, none⟩ b).heap[g]? = some (.cells #[a, b, c0, d0, e0, f0, i0, j0] t (0, 0)) := heap_set_cell h1 1 b
  have h3 : (((w.setCell ⟨g, 0, none⟩ a).setCell ⟨g, 1, none⟩ b).setCell ⟨g, 2, none⟩ c).heap[g]? = some (.cells #[a, b, c, d0, e0, f0, i0, j0] t (0, 0)) := heap_set_cell h2 2 c
  have h4 : ((((w.setCell ⟨g, 0, none⟩ a).setCell ⟨g, 1, none⟩ b).setCell ⟨g, 2, none⟩ c).setCell ⟨g, 3, none⟩ d).heap[g]? = some (.cells #[a, b, c, d, e0, f0, i0, j0] t (0, 0)) := heap_set_cell h3 3 d
  have h5 : (((((w.setCell ⟨g, 0, none⟩ a).setCell ⟨g, 1, none⟩ b).setCell ⟨g, 2, none⟩ c).setCell ⟨g, 3, none⟩ d).setCell ⟨g, 4, none⟩ e).heap[g]? = some (.cells #[a, b, c, d, e, f0, i0, j0] t (0, 0)) := heap_set_cell h4 4 e
  have h6 : ((((((w.setCell ⟨g, 0, none⟩ a).setCell ⟨g, 1, none⟩ b).setCell ⟨g, 2, none⟩ c).setCell ⟨g, 3, none⟩ d).setCell ⟨g, 4, none⟩ e).setCell ⟨g, 5, none⟩ f).heap[g]? = some (.cells #[a, b, c, d, e, f, i0, j0] t (0, 0)) := heap_set_cell h5 5 f
  have h7 : (((((((w.setCell ⟨g, 0, none⟩ a).setCell ⟨g, 1, none⟩ b).setCell ⟨g, 2, none⟩ c).setCell ⟨g, 3, none⟩ d).setCell ⟨g, 4, none⟩ e).setCell ⟨g, 5, none⟩ f).setCell ⟨g, 6, none⟩ i).heap[g]? = some (.cells #[a, b, c, d, e, f, i, j0] t (0, 0)) := heap_set_cell h6 6 i
  heap_set_cell h7 7 j
theorem eight_other {w : World} {g : Nat} {a b c d e f i j : Value} (k : Nat) (h : k ≠ g) : (eightSet g a b c d e f i j w).heap[k]? = w.heap[k]? := by
  unfold eightSet
  rw [Below.heap_setCell _ _ _ _ h, Below.heap_setCell _ _ _ _ h, Below.heap_setCell _ _ _ _ h, Below.heap_setCell _ _ _ _ h, Below.heap_setCell _ _ _ _ h, Below.heap_setCell _ _ _ _ h, Below.heap_setCell _ _ _ _ h, Below.heap_setCell _ _ _ _ h]
theorem eight_below {w0 w : World} {n g : Nat} {a b c d e f i j : Value} (hb : Below n w0 w) (h : n ≤ g) : Below n w0 (eightSet g a b c d e f i j w) :=
  (((((((hb.setCell h _).setCell h _).setCell h _).setCell h _).setCell h _).setCell h _).setCell h _).setCell h _
structure FoS (w0 : World) (n : Nat) (a b c d : Pt) (w : World) : Prop where
  b0 : Below n w0 w
  p : w.heap[n]? = some (.cells #[.int .u64 a.1, .int .u64 a.2, .int .u64 b.1, .int .u64 b.2, .int .u64 c.1, .int .u64 c.2, .int .u64 d.1, .int .u64 d.2] 26 (0, 0))
  r : w.heap[n + 1]? = some (.cells #[.int .u64 0, .int .u64 0, .int .u64 0, .int .u64 0, .int .u64 0, .int .u64 0, .int .u64 0, .int .u64 0] 26 (0, 0))
theorem FoS.keep {w0 w w' : World} {n : Nat} {a b c d : Pt} (h : FoS w0 n a b c d w) (k : Below w.heap.size w w') : FoS w0 n a b c d w' :=
  ⟨h.b0.trans (k.mono (Nat.le_of_lt (heap_lt h.p))), (k.block _ (heap_lt h.p)).trans h.p, (k.block _ (heap_lt h.r)).trans h.r⟩
set_option maxRecDepth 100000 in
set_option maxHeartbeats 1600000 in
theorem lSpots (a b c d : Pt) (w : World) (ha : PtU a) (hb : PtU b) (hc : PtU c) (hd : PtU d) : Calls Tryz.prog 9 #[fr a b c d] w fun e w' => e = .returned (fr (spot a) (spot b) (spot c) (spot d)) ∧ Below w.heap.size w w' := by
  have HA := Lib.hid (fun wz => lSpot a wz ha)
  have HB := Lib.hid (fun wz => lSpot b wz hb)
  have HC := Lib.hid (fun wz => lSpot c wz hc)
  have HD := Lib.hid (fun wz => lSpot d wz hd)
  generalize spot a = a2 at *
  generalize spot b = b2 at *
  generalize spot c = c2 at *
  generalize spot d = d2 at *
  have hS : FoS w w.heap.size a b c d ((w.alloc (.cells #[.int .u64 a.1, .int .u64 a.2, .int .u64 b.1, .int .u64 b.2, .int .u64 c.1, .int .u64 c.2, .int .u64 d.1, .int .u64 d.2] 26)).alloc (.cells #[.int .u64 0, .int .u64 0, .int .u64 0, .int .u64 0, .int .u64 0, .int .u64 0, .int .u64 0, .int .u64 0] 26)) :=
    ⟨(by repeat (first | exact Below.refl _ _ | refine belowN ?_ _ | refine Below.drew ?_ | refine Below.alloc ?_ (by first | exact Nat.le_refl _ | (simp; done) | (simp; omega) | omega) _)), alloc_old (alloc_new _ _), alloc_at _ (by simp)⟩
  unfold fr at *
  go_enter Tryz.func9, Tryz.ntmps9
  ((try dsimp only); repeat (first | go_values | go_skip | go_guarded | go_step | go_upon))
  generalize (World.alloc (World.alloc w _) _) = w2 at *
  have hSd : FoS w w.heap.size a b c d w2.drew := ⟨hS.b0.drew, hS.p, hS.r⟩
  clear hS
  refine start_ (n := 14) (S := fun w' => FoS w w.heap.size a b c d w') (ds := [13]) (bt 14 0) (by kernel_rfl) rfl rfl (hSd) (fun hHeld => ?_)
  refine pv_ 0 3 ?_
  refine ld_ 1 4 ?_ hHeld ?_ ?_; rotate_left
  · rintro w' hs
    obtain ⟨q0, q1, q2, q3, q4, q5, q6, q7⟩ := row8 hs.p
    clear hs
    go_simp; with_reducible rfl
  refine pv_ 3 6 ?_
  refine ld_ 4 7 ?_ hHeld ?_ ?_; rotate_left
  · rintro w' hs
    obtain ⟨q0, q1, q2, q3, q4, q5, q6, q7⟩ := row8 hs.p
    clear hs
    go_simp; with_reducible rfl
  refine pv_ 6 9 ?_
  refine ld_ 7 10 ?_ hHeld ?_ ?_; rotate_left
  · rintro w' hs
    obtain ⟨q0, q1, q2, q3, q4, q5, q6, q7⟩ := row8 hs.p
    clear hs
    go_simp; with_reducible rfl
  refine pv_ 9 12 ?_
  refine ld_ 10 13 ?_ hHeld ?_ ?_; rotate_left
  · rintro w' hs
    obtain ⟨q0, q1, q2, q3, q4, q5, q6, q7⟩ := row8 hs.p
    clear hs
    go_simp; with_reducible rfl
  refine ca 2 5 Tryz.func32 rfl rfl (by kernel_rfl) (by decide) (by kernel_rfl) rfl #[pt a] (by rfl) rfl (by first | rfl | (simp [Act.eval]; done) | (simp [Act.eval, pt]; done) | (go_simp; rfl)) ?_
  with_reducible refine (HA.out _).mono ?_
  rintro e w' ⟨rfl, hb1⟩
  refine ⟨_, rfl, (by first | (exact hHeld.keep hb4) | (exact hHeld.keep hb3) | (exact hHeld.keep hb2) | (exact hHeld.keep hb1)), fun hHeld => ?_⟩
  refine nn ?_
  refine ca 5 8 Tryz.func32 rfl rfl (by kernel_rfl) (by decide) (by kernel_rfl) rfl #[pt b] (by rfl) rfl (by first | rfl | (simp [Act.eval]; done) | (simp [Act.eval, pt]; done) | (go_simp; rfl)) ?_
  with_reducible refine (HB.out _).mono ?_
  rintro e w' ⟨rfl, hb2⟩
  refine ⟨_, rfl, (by first | (exact hHeld.keep hb4) | (exact hHeld.keep hb3) | (exact hHeld.keep hb2) | (exact hHeld.keep hb1)), fun hHeld => ?_⟩
  refine nn ?_
  refine ca 8 11 Tryz.func32 rfl rfl (by kernel_rfl) (by decide) (by kernel_rfl) rfl #[pt c] (by rfl) rfl (by first | rfl | (simp [Act.eval]; done) | (simp [Act.eval, pt]; done) | (go_simp; rfl)) ?_
  with_reducible refine (HC.out _).mono ?_
  rintro e w' ⟨rfl, hb3⟩
  refine ⟨_, rfl, (by first | (exact hHeld.keep hb4) | (exact hHeld.keep hb3) | (exact hHeld.keep hb2) | (exact hHeld.keep hb1)), fun hHeld => ?_⟩
  refine nn ?_
  refine ca 11 14 Tryz.func32 rfl rfl (by kernel_rfl) (by decide) (by kernel_rfl) rfl #[pt d] (by rfl) rfl (by first | rfl | (simp [Act.eval]; done) | (simp [Act.eval, pt]; done) | (go_simp; rfl)) ?_
  with_reducible refine (HD.out _).mono ?_
  rintro e w' ⟨rfl, hb4⟩
  unfold pt
  refine ⟨_, rfl, (by first | (exact hHeld.keep hb4) | (exact hHeld.keep hb3) | (exact hHeld.keep hb2) | (exact hHeld.keep hb1)), fun hHeld => ?_⟩
  refine nn ?_
  refine pv_ 12 15 ?_
  refine last_ (i := 13) (N := none) (bt 14 16383) rfl rfl (by kernel_rfl) (by decide) (fun K hK => ?_)
  generalize w' = wa at *
  have HZ := Lib.hid hHeld
  obtain ⟨z0, z1, z2, z3, z4, z5, z6, z7⟩ := row8 hHeld.r
  obtain ⟨y0, y1, y2, y3, y4, y5, y6, y7⟩ := free8 hHeld.r
  clear hHeld
  refine skip_ (w1 := ?_) (by rfl) rfl ?_ ?_
  rotate_left
  · go_simp
    rfl
  refine hK.out _ _ ?_
  clear hK K
  refine done_ (by kernel_rfl) ?_
  ((try dsimp only); repeat (first | go_values | go_skip | go_guarded | go_step | go_upon))
  refine bodyPost_ret (results_cell_row rfl _ _ (w.heap.size + 1) _ _ _ _ rfl (eight_at HZ.out.r _ _ _ _ _ _ _ _) rfl rfl rfl) rfl ?_
  exact ⟨rfl, eight_below HZ.out.b0 (by omega)⟩
end Go.Proofs.YtggfppgjabembaaGreatDoor

namespace Go.Proofs.YtggfppgjabembaaGreatDoor
open Go.RowKit Go.Proofs.YtggfppgjabembaaGreatDoorW.PrintLast
set_option linter.unusedVariables false
set_option linter.unusedSimpArgs false
theorem alive_kind : (meetM (0, 0) (4611686018427387904, 4611686018427387904) (0, 4611686018427387904) (4611686018427387904, 0)).kind = 1 := by decide +kernel
theorem alive_proper : (meetM (0, 0) (4611686018427387904, 4611686018427387904) (0, 4611686018427387904) (4611686018427387904, 0)).proper = true := by decide +kernel
theorem alive_P : (meetM (0, 0) (4611686018427387904, 4611686018427387904) (0, 4611686018427387904) (4611686018427387904, 0)).P = (4607182418800017408, 4607182418800017408) := by decide +kernel
theorem alive_Q : (meetM (0, 0) (4611686018427387904, 4611686018427387904) (0, 4611686018427387904) (4611686018427387904, 0)).Q = (0, 0) := by decide +kernel
theorem alive_is : meetM (0, 0) (4611686018427387904, 4611686018427387904) (0, 4611686018427387904) (4611686018427387904, 0) = ⟨1, true, (4607182418800017408, 4607182418800017408), (0, 0)⟩ := by
  have h1 := alive_kind
  have h2 := alive_proper
  have h3 := alive_P
  have h4 := alive_Q
  generalize meetM (0, 0) (4611686018427387904, 4611686018427387904) (0, 4611686018427387904) (4611686018427387904, 0) = m at *
  cases m
  simp only at h1 h2 h3 h4
  rw [h1, h2, h3, h4]
theorem fin_of (x y : Int) (h : (decide (0 ≤ x) && decide (x ≤ 18446744073709551615) && decide (fe x ≠ 2047) && (decide (0 ≤ y) && decide (y ≤ 18446744073709551615) && decide (fe y ≠ 2047))) = true) : FinP (x, y) := by
  simp only [Bool.and_eq_true, decide_eq_true_eq] at h
  exact ⟨⟨h.1.1.1, h.1.1.2, h.1.2⟩, ⟨h.2.1.1, h.2.1.2, h.2.2⟩⟩
set_option maxRecDepth 100000 in
set_option maxHeartbeats 1600000 in
theorem lAlive (w : World) : Calls Tryz.prog 12 #[] w fun e w' => e = .returned (.bool true) ∧ Below w.heap.size w w' := by
  have HM := Lib.hid (fun wz => sMeetAny (0, 0) (4611686018427387904, 4611686018427387904) (0, 4611686018427387904) (4611686018427387904, 0) wz (fin_of _ _ (by decide)) (fin_of _ _ (by decide)) (fin_of _ _ (by decide)) (fin_of _ _ (by decide)))
  rw [alive_is] at HM
  go_enter Tryz.func12, Tryz.ntmps12
  ((try dsimp only); repeat (first | go_values | go_skip | go_guarded | go_step | go_upon))
  refine (HM.out _).mono ?_
  rintro e w1 ⟨rfl, hb1⟩
  unfold mv
  ((try dsimp only); repeat (first | go_values | go_skip | go_guarded | go_step | go_upon))
  go_ret
  exact ⟨rfl, hb1.alloc hb1.size _⟩
def placeB (a b : Pt) : Bool := decide (pl a = pl b)
theorem placeB_is (a b : Pt) : (pcmpP a b == 0) = placeB a b := by
  unfold placeB pcmpP
  by_cases h : pl a = pl b
  · rw [decide_eq_true h, beq_iff_eq]; exact pcmp_eq.2 h
  · rw [decide_eq_false h]; exact beq_eq_false_iff_ne.2 fun e => h (pcmp_eq.1 e)
set_option maxRecDepth 100000 in
theorem lPlace (a b : Pt) (w : World) (fa : FinP a) (fb : FinP b) : Calls Tryz.prog 15 #[pt a, pt b] w fun e w' => e = .returned (.bool (placeB a b)) ∧ Below w.heap.size w w' := by
  have HO := Lib.hid (fun wz => pOrderP a b wz fa fb)
  have HB := placeB_is a b
  generalize placeB a b = B at *
  generalize pcmpP a b = c at *
  unfold pt
  go_enter Tryz.func15, Tryz.ntmps15
  ((try dsimp only); repeat (first | go_values | go_skip | go_guarded | go_step | go_upon))
  refine (HO.out _).mono ?_
  rintro e w1 ⟨rfl, hb1⟩
  ((try dsimp only); repeat (first | go_values | go_skip | go_guarded | go_step | go_upon))
  go_ret
  refine ⟨rfl, ((by repeat (first | exact Below.refl _ _ | refine belowN ?_ _ | refine Below.drew ?_ | refine Below.alloc ?_ (by first | exact Nat.le_refl _ | (simp; done) | (simp; omega) | omega) _)) : Below _ _ _).trans (hb1.mono (by simp; omega))⟩
def oppB (a b : Int) : Bool := decide (a * b = -1)
set_option maxRecDepth 100000 in
theorem lOpposite (a b : Int) (w : World) (ha : a = -1 ∨ a = 0 ∨ a = 1) (hb : b = -1 ∨ b = 0 ∨ b = 1) : Calls Tryz.prog 13 #[.int .i64 a, .int .i64 b] w fun e w' => e = .returned (.bool (oppB a b)) ∧ w = w' := by
  rcases ha with rfl | rfl | rfl <;> rcases hb with rfl | rfl | rfl
  all_goals
    go_enter Tryz.func13, Tryz.ntmps13
    ((try dsimp only); repeat (first | go_values | go_skip | go_guarded | go_step | go_upon))
    go_ret
    exact ⟨rfl, rfl⟩
end Go.Proofs.YtggfppgjabembaaGreatDoor

namespace Go.Proofs.YtggfppgjabembaaGreatDoor
open Go.ChangeShapes Go.WideShapes Go.ChangeAt Go.RowKit
set_option linter.unusedVariables false
set_option maxRecDepth 100000
theorem row_own : ownKnob Tryz.prog.godebug = none := by kernel_rfl
theorem row_laidOut : laidOutB Tryz.prog = true := by kernel_rfl
theorem door_met (os : Os) (args : Array Value) : laidMetH Tryz.prog [("plumb/near.stays", Rows.laid_plumb_near_stays)] ((World.doorLaid Tryz.prog 400 os).forCall (fun _ _ => 0) ⟨#[], args, []⟩).memory :=
  laidMetH_of_parts3 (fuel := 8) (laidMet_of_run' 8 (by kernel_rfl) (by kernel_rfl)) (by kernel_rfl) (by kernel_rfl)
section
variable {H : Type} {enc : TypeId × Value → H} {w : World} {base : Nat} {spare : Nat → Bool} {held : Bool} {fuel : Nat}
theorem open_word {cs : List Value} {x : DataW H × List MemPlace} (h : DataW.trod enc Tryz.prog w base spare held fuel 22 cs = some x) : ∃ n, cs = [.int .u64 n] ∧ U64 n := by
  obtain ⟨n, h1, h2, h3⟩ := DataW.trod_int Tryz.underlying22 h
  refine ⟨n, h1, ?_⟩
  unfold Lit.wf at h3
  simp only [Bool.and_eq_true, decide_eq_true_eq] at h3
  exact h3
theorem open_point {cs : List Value} {x : DataW H × List MemPlace} (h : DataW.trod enc Tryz.prog w base spare held fuel 24 cs = some x) : ∃ p : Pt, cs = [.int .u64 p.1, .int .u64 p.2] ∧ PtU p := by
  obtain ⟨xs, n, _, _, hl, hx, hf⟩ := DataW.trod_struct Tryz.underlying24 h
  have c1 : Tryz.prog.cellsOf 24 = 2 := by kernel_rfl
  have c2 : Tryz.prog.cellsOf 22 = 1 := by kernel_rfl
  rw [c1] at hl
  match cs, hl with
  | [u, v], _ =>
    match xs, hx with
    | [y0, y1], _ =>
      have h0 : DataW.trod enc Tryz.prog w base spare held n 22 (List.take (Tryz.prog.cellsOf 22) (List.drop 0 [u, v])) = some y0 := hf 0 _ rfl
      have h1 : DataW.trod enc Tryz.prog w base spare held n 22 (List.take (Tryz.prog.cellsOf 22) (List.drop 1 [u, v])) = some y1 := hf 1 _ rfl
      rw [c2] at h0 h1
      obtain ⟨a, ha, ua⟩ := open_word (show DataW.trod enc Tryz.prog w base spare held n 22 [u] = some y0 from h0)
      obtain ⟨b, hb, ub⟩ := open_word (show DataW.trod enc Tryz.prog w base spare held n 22 [v] = some y1 from h1)
      cases ha
      cases hb
      exact ⟨(a, b), rfl, ua, ub⟩
theorem open_four {r : Reach} {b0 : Nat} {v : Value} {d : DataW H} {p : List MemPlace} (hv : Value.okWide Tryz.prog w r b0 26 v) (h : DataW.Trod enc Tryz.prog w base spare held 26 v d p) :
    ∃ a b c e : Pt, v = fr a b c e ∧ PtU a ∧ PtU b ∧ PtU c ∧ PtU e := by
  obtain ⟨cs, rfl, hsz⟩ := okWide_struct Tryz.underlying26 hv
  obtain ⟨l⟩ := cs
  have c1 : Tryz.prog.cellsOf 26 = 8 := by kernel_rfl
  have c2 : Tryz.prog.cellsOf 24 = 2 := by kernel_rfl
  obtain ⟨fuel, hf⟩ := h
  obtain ⟨xs, n, _, _, hl, hx, hg⟩ := DataW.trod_struct Tryz.underlying26 hf
  rw [c1] at hsz
  match l, hsz with
  | [v0, v1, v2, v3, v4, v5, v6, v7], _ =>
    match xs, hx with
    | [y0, y1, y2, y3], _ =>
      have h0 : DataW.trod enc Tryz.prog w base spare held n 24 (List.take (Tryz.prog.cellsOf 24) (List.drop 0 [v0, v1, v2, v3, v4, v5, v6, v7])) = some y0 := hg 0 _ rfl
      have h1 : DataW.trod enc Tryz.prog w base spare held n 24 (List.take (Tryz.prog.cellsOf 24) (List.drop 2 [v0, v1, v2, v3, v4, v5, v6, v7])) = some y1 := hg 1 _ rfl
      have h2 : DataW.trod enc Tryz.prog w base spare held n 24 (List.take (Tryz.prog.cellsOf 24) (List.drop 4 [v0, v1, v2, v3, v4, v5, v6, v7])) = some y2 := hg 2 _ rfl
      have h3 : DataW.trod enc Tryz.prog w base spare held n 24 (List.take (Tryz.prog.cellsOf 24) (List.drop 6 [v0, v1, v2, v3, v4, v5, v6, v7])) = some y3 := hg 3 _ rfl
      rw [c2] at h0 h1 h2 h3
      obtain ⟨a, ha, ua⟩ := open_point (show DataW.trod enc Tryz.prog w base spare held n 24 [v0, v1] = some y0 from h0)
      obtain ⟨b, hb, ub⟩ := open_point (show DataW.trod enc Tryz.prog w base spare held n 24 [v2, v3] = some y1 from h1)
      obtain ⟨c, hc, uc⟩ := open_point (show DataW.trod enc Tryz.prog w base spare held n 24 [v4, v5] = some y2 from h2)
      obtain ⟨e, he, ue⟩ := open_point (show DataW.trod enc Tryz.prog w base spare held n 24 [v6, v7] = some y3 from h3)
      cases ha
      cases hb
      cases hc
      cases he
      exact ⟨a, b, c, e, rfl, ua, ub, uc, ue⟩
end
theorem post_true {H : Type} {enc : TypeId × Value → H} {f : Func} {s : ChangeSpec} {apart fresh handsOn : Bool} {W W' : World} {args : Array Value} {ds : List (DataW H)} {before : List MemPlace}
    (hv : s.vars = []) (hs : s.fn H ds = { results := [.lit (.bool true)], args := ds }) (hr : f.resultTypes = #[4])
    (hW : DataW.Whole enc Tryz.prog f.params.toList s.vars apart W args.toList ds [] before) (hb : Below W.heap.size W W')
    (hst : ∀ sp : Nat → Bool, (∀ p ∈ before, sp p.block = true) → DataW.TrodAll enc Tryz.prog W' 0 sp true f.params.toList args.toList ds before) :
    s.post enc Tryz.prog f apart fresh handsOn false W args (.bool true) W' := by
  have below : ∀ p ∈ before, p.block < W.heap.size := fun p hp => hW.lt p hp
  have kept := hb.frame (· ∈ before)
  have fn0 : s.fn H (ds ++ []) = { results := [.lit (.bool true)], args := ds } := by rw [List.append_nil]; exact hs
  have res : ∀ (b : Nat) (sp : Nat → Bool) (hd : Bool), DataW.TrodAll enc Tryz.prog W' b sp hd f.resultTypes.toList ((Value.bool true).resultList f.resultTypes.size) (s.fn H (ds ++ [])).results [] := by
    intro b sp hd
    rw [fn0, hr]
    exact trodAll_mk1 (shut_bool Tryz.underlying4 _)
  have arg : ∀ sp : Nat → Bool, (∀ p ∈ before, sp p.block = true) → DataW.TrodAll enc Tryz.prog W' 0 sp true f.params.toList args.toList (s.fn H (ds ++ [])).args before := by
    intro sp h
    rw [fn0]
    exact hst sp h
  have vars : ∀ sp : Nat → Bool, DataW.TrodVars enc Tryz.prog W' sp s.vars (s.fn H (ds ++ [])).vars [] := by
    intro sp
    rw [fn0, hv]
    trivial
  refine ⟨ds, [], before, [], before, [], hW, res _ _ _, arg _ (fun p hp => by simpa using below p hp), vars _, World.keptBut_mono (fun p hp => ⟨hp, Or.inr (Or.inl hp)⟩) kept, fun h => by cases h⟩
end Go.Proofs.YtggfppgjabembaaGreatDoor
