/- The law SegSides of package plumblaw23 answers true at every four points, and changes nothing that it was handed: the tied card, for every input, no condition. -/
import Derived.Test.YtggfppgjabembaaGreatDoorKJ
import Derived.Test.YtggfppgjabembaaGreatDoorKA
import Derived.Test.YtggfppgjabembaaGreatDoorKM
import Derived.Test.YtggfppgjabembaaGreatDoorKI
import Derived.Test.YtggfppgjabembaaGreatDoorCards
import Derived.Test.YtggfppgjabembaaGreatDoorTie
import Derived.SevenTiedAt
namespace Go.Proofs.YtggfppgjabembaaGreatDoor
open Go.RowKit Go.Proofs.YtggfppgjabembaaGreatDoorW.PrintLast
set_option linter.unusedVariables false
set_option linter.unusedSimpArgs false
def negB (b : Int) : Int := if 9223372036854775808 ≤ b then b - 9223372036854775808 else b + 9223372036854775808
def negP (p : Pt) : Pt := (negB p.1, negB p.2)
theorem negB_fin {b : Int} (h : Fin64 b) : Fin64 (negB b) := by
  obtain ⟨h1, h2, h3⟩ := h
  unfold Fin64 negB fe at *
  split <;> refine ⟨?_, ?_, ?_⟩ <;> omega
theorem negP_fin {p : Pt} (h : FinP p) : FinP (negP p) := ⟨negB_fin h.1, negB_fin h.2⟩
theorem fval_negB {b : Int} (h : Fin64 b) : fval (negB b) = -fval b := by
  obtain ⟨h1, h2, h3⟩ := h
  have e1 : fe (negB b) = fe b := by unfold negB fe; split <;> omega
  have e2 : ff (negB b) = ff b := by unfold negB ff; split <;> omega
  have e3 : fneg (negB b) = !fneg b := by
    unfold negB fneg
    split
    · rename_i h; rw [decide_eq_true h]; exact decide_eq_false (by omega)
    · rename_i h; rw [decide_eq_false h]; exact decide_eq_true (by omega)
  unfold fval fnum fden fx fm
  rw [e1, e2, e3]
  unfold quo
  cases fneg b
  · simp
    exact Rat.neg_mkRat _ _ |>.symm
  · simp
    rw [Rat.neg_mkRat, Int.neg_neg]
theorem pl_negP {p : Pt} (h : FinP p) : pl (negP p) = (-(pl p).1, -(pl p).2) := by
  unfold pl negP
  rw [fval_negB h.1, fval_negB h.2]
theorem xor63 (a : Nat) (h : a < 2 ^ 64) : a ^^^ 2 ^ 63 = if 2 ^ 63 ≤ a then a - 2 ^ 63 else a + 2 ^ 63 := by
  split
  · rename_i h1
    obtain ⟨r, hr⟩ : ∃ r, a = 2 ^ 63 + r := ⟨a - 2 ^ 63, by omega⟩
    have hr1 : r < 2 ^ 63 := by omega
    subst hr
    rw [Nat.add_sub_cancel_left]
    apply Nat.eq_of_testBit_eq
    intro i
    have := Nat.two_pow_add_eq_or_of_lt hr1 1
    rw [Nat.mul_one] at this
    rw [this, Nat.testBit_xor, Nat.testBit_or, Nat.testBit_two_pow]
    by_cases h63 : 63 = i
    · subst h63; rw [Nat.testBit_lt_two_pow hr1]; simp
    · simp [h63]
  · rename_i h1
    have hr1 : a < 2 ^ 63 := by omega
    rw [Nat.add_comm]
    have := Nat.two_pow_add_eq_or_of_lt hr1 1
    rw [Nat.mul_one] at this
    rw [this]
    apply Nat.eq_of_testBit_eq
    intro i
    rw [Nat.testBit_xor, Nat.testBit_or, Nat.testBit_two_pow]
    by_cases h63 : 63 = i
    · subst h63; rw [Nat.testBit_lt_two_pow hr1]; simp
    · simp [h63]
theorem negB_xor {b : Int} (h : U64 b) : bits .xor .u64 b 9223372036854775808 = negB b := by
  obtain ⟨a, rfl⟩ := Int.eq_ofNat_of_zero_le h.1
  have h2 := h.2
  have e := bits_xor_u64_nat a 9223372036854775808 (by omega) (by decide)
  rw [show ((9223372036854775808 : Nat) : Int) = 9223372036854775808 from rfl] at e
  rw [e, show (9223372036854775808 : Nat) = 2 ^ 63 from rfl, xor63 a (by omega)]
  unfold negB
  split <;> split <;> omega
set_option maxRecDepth 100000 in
theorem lNeg (b : Int) (w : World) (h : U64 b) : Calls Tryz.prog 58 #[.int .u64 b] w fun e w' => e = .returned (.int .u64 (negB b)) ∧ w = w' := by
  have HB := Lib.hid (negB_xor h)
  go_enter Tryz.func58, Tryz.ntmps58
  ((try dsimp only); repeat (first | go_values | go_skip | go_guarded | go_step | go_upon))
  go_ret
  exact ⟨R1 HB.out, rfl⟩
set_option maxRecDepth 100000 in
theorem lTurned (p : Pt) (w : World) (hp : PtU p) : Calls Tryz.prog 23 #[pt p] w fun e w' => e = .returned (pt (negP p)) ∧ Below w.heap.size w w' := by
  have HF1 := Lib.hid (fun wz => lNeg p.1 wz hp.1)
  have HF2 := Lib.hid (fun wz => lNeg p.2 wz hp.2)
  have HS : Hid (negP p = (negB p.1, negB p.2)) := Lib.hid rfl
  generalize negB p.1 = f1 at *
  generalize negB p.2 = f2 at *
  have hS : SpS w w.heap.size p ((w.alloc (.cells #[.int .u64 p.1, .int .u64 p.2] 24)).alloc (.cells #[.int .u64 0, .int .u64 0] 24)) :=
    ⟨(by repeat (first | exact Below.refl _ _ | refine belowN ?_ _ | refine Below.drew ?_ | refine Below.alloc ?_ (by first | exact Nat.le_refl _ | (simp; done) | (simp; omega) | omega) _)), alloc_old (alloc_new _ _), alloc_at _ (by simp)⟩
  unfold pt at *
  go_enter Tryz.func23, Tryz.ntmps23
  ((try dsimp only); repeat (first | go_values | go_skip | go_guarded | go_step | go_upon))
  generalize (World.alloc (World.alloc w _) _) = w2 at *
  have hSd : SpS w w.heap.size p w2.drew := ⟨hS.b.drew, hS.p, hS.r⟩
  clear hS
  refine start_ (n := 8) (S := fun w' => SpS w w.heap.size p w') (ds := [7]) #[false, false, false, false, false, false, false, false] (by kernel_rfl) rfl rfl (hSd) (fun hHeld => ?_)
  refine pu 0 3 ?_ ?_ rfl rfl (by kernel_rfl) (fun _ _ _ h => h) (by rfl) (fun _ => ?_) ?_ ?_; rotate_left 2
  · go_simp; with_reducible rfl
  · simp only [pA, pB, pC, pD, i64_w, i32_w]; rfl
  refine ld 1 4 ?_ ?_ rfl rfl (by kernel_rfl) (fun _ _ _ h => h) (by rfl) hHeld ?_ ?_ ?_; rotate_left 2
  · rintro w' hs
    obtain ⟨q0, q1⟩ := row2 hs.p
    clear hs
    go_simp; with_reducible rfl
  · simp only [pA, pB, pC, pD, i64_w, i32_w]; rfl
  refine pu 3 6 ?_ ?_ rfl rfl (by kernel_rfl) (fun _ _ _ h => h) (by rfl) (fun _ => ?_) ?_ ?_; rotate_left 2
  · go_simp; with_reducible rfl
  · simp only [pA, pB, pC, pD, i64_w, i32_w]; rfl
  refine ld 4 7 ?_ ?_ rfl rfl (by kernel_rfl) (fun _ _ _ h => h) (by rfl) hHeld ?_ ?_ ?_; rotate_left 2
  · rintro w' hs
    obtain ⟨q0, q1⟩ := row2 hs.p
    clear hs
    go_simp; with_reducible rfl
  · simp only [pA, pB, pC, pD, i64_w, i32_w]; rfl
  refine ca 2 5 Tryz.func58 rfl rfl (by kernel_rfl) (by decide) (by kernel_rfl) rfl #[.int .u64 p.1] (by rfl) rfl (by first | rfl | (simp [Act.eval]; done) | (go_simp; rfl)) ?_
  with_reducible refine (HF1.out _).mono ?_
  rintro e w' ⟨rfl, rfl⟩
  refine ⟨_, rfl, (by exact hHeld), fun hHeld => ?_⟩
  refine nm ?_ ?_ ?_; rotate_left
  · simp only [pA, pB, pC, pD, i64_w, i32_w]; rfl
  refine ca 5 8 Tryz.func58 rfl rfl (by kernel_rfl) (by decide) (by kernel_rfl) rfl #[.int .u64 p.2] (by rfl) rfl (by first | rfl | (simp [Act.eval]; done) | (go_simp; rfl)) ?_
  with_reducible refine (HF2.out _).mono ?_
  rintro e w' ⟨rfl, rfl⟩
  refine ⟨_, rfl, (by exact hHeld), fun hHeld => ?_⟩
  refine nm ?_ ?_ ?_; rotate_left
  · simp only [pA, pB, pC, pD, i64_w, i32_w]; rfl
  refine pu 6 9 ?_ ?_ rfl rfl (by kernel_rfl) (fun _ _ _ h => h) (by rfl) (fun _ => ?_) ?_ ?_; rotate_left 2
  · go_simp; with_reducible rfl
  · simp only [pA, pB, pC, pD, i64_w, i32_w]; rfl
  refine last_ (i := 7) (N := none) #[true, true, true, true, true, true, true, true] rfl rfl (by kernel_rfl) (by decide) (fun K hK => ?_)
  have HZ := Lib.hid hHeld
  obtain ⟨z0, z1, z2, z3⟩ := row2f (w := w2) hHeld.r
  clear hHeld
  refine skip_ (w1 := ?_) (by rfl) rfl ?_ ?_
  rotate_left
  · go_simp
    rfl
  refine hK.out _ _ ?_
  clear hK K
  refine done_ (by kernel_rfl) ?_
  ((try dsimp only); repeat (first | go_values | go_skip | go_guarded | go_step | go_upon))
  refine bodyPost_ret (results_cell_row rfl _ _ (w.heap.size + 1) _ _ _ _ rfl (heap_set_two HZ.out.r _ _) rfl rfl rfl) rfl ?_
  exact ⟨by rw [HS.out], (HZ.out.b.setCell (by show _ ≤ w.heap.size + 1; omega) _).setCell (by show _ ≤ w.heap.size + 1; omega) _⟩
theorem lSame (A B : Option Addr) (c d : Nat) (xs : List Int) (w : World) (lo up lo2 up2 : Nat) (hA : WordsIn lo up w A xs) (hB : WordsIn lo2 up2 w B xs) (hl : xs.length ≤ 9223372036854775807) :
    Calls Tryz.prog 59 #[.slice A xs.length c, .slice B xs.length d] w fun e w' => e = .returned (.bool true) ∧ Below w.heap.size w w' := by
  go_enter Tryz.func59, Tryz.ntmps59
  go_wp2
  go_loopw [5] (fun i wr => ∃ k q : Nat, i = .int .i64 k ∧ wr = w.drewN q ∧ k ≤ xs.length) (fun i _ => xs.length - (intOf i).toNat)
  case atStart => exact ⟨0, 0, rfl, rfl, Nat.zero_le _⟩
  case round =>
    obtain ⟨k, q, rfl, hq, hk⟩ := hrel
    replace hA : WordsIn lo up wr A xs := hA.keep (by rw [hq]; exact Keep.refl _ _ _)
    replace hB : WordsIn lo2 up2 wr B xs := hB.keep (by rw [hq]; exact Keep.refl _ _ _)
    have HQ := Lib.hid hq
    clear hq
    by_cases h : k < xs.length
    · obtain ⟨b, o, rfl, hb1, hb2, hc⟩ := hA.at h
      obtain ⟨b', o', rfl, hb1', hb2', hc'⟩ := hB.at h
      clear hA hB
      generalize xs.getD k 0 = v at *
      go_wp2_with (fail)
      go_quiet (fail)
      go_wp2
      exact ⟨⟨k + 1, q + nq, vint (by omega), by rw [HQ.out, World.drewN_drewN], by omega⟩, by simp [intOf]; omega⟩
    · obtain rfl : k = xs.length := by omega
      go_wp2
      go_ret
      exact ⟨rfl, by rw [HQ.out]; exact belowN (Below.refl _ _) q⟩
end Go.Proofs.YtggfppgjabembaaGreatDoor

namespace Go.Proofs.YtggfppgjabembaaGreatDoor
open Go.RowKit Go.Proofs.YtggfppgjabembaaGreatDoorW.PrintLast
set_option linter.unusedVariables false
set_option linter.unusedSimpArgs false
set_option maxRecDepth 100000 in
theorem lOne (s : Bool) (A B C D : Option Addr) (xs ys : List Int) (lo up : Nat) (w : World) (hA : WordsIn lo up w A xs) (hB : WordsIn lo up w B ys) (hC : WordsIn lo up w C xs) (hD : WordsIn lo up w D ys) (hu : up ≤ w.heap.size) (hx : xs.length ≤ 9223372036854775807) (hy : ys.length ≤ 9223372036854775807) :
    Calls Tryz.prog 25 #[.agg #[.bool s, .slice A xs.length xs.length, .slice B ys.length ys.length], .agg #[.bool s, .slice C xs.length xs.length, .slice D ys.length ys.length]] w fun e w' => e = .returned (.bool true) ∧ Below w.heap.size w w' := by
  have H1 := Lib.hid (fun wz (k : Below w.heap.size w wz) => lSame A C xs.length xs.length xs wz lo up lo up (hA.keep (Keep.of k hu)) (hC.keep (Keep.of k hu)) hx)
  have H2 := Lib.hid (fun wz (k : Below w.heap.size w wz) => lSame B D ys.length ys.length ys wz lo up lo up (hB.keep (Keep.of k hu)) (hD.keep (Keep.of k hu)) hy)
  clear hA hB hC hD
  have hm0 : Mem w.heap.size w ((w.alloc (.cells #[.bool s, .slice A xs.length xs.length, .slice B ys.length ys.length] 45)).alloc (.cells #[.bool s, .slice C xs.length xs.length, .slice D ys.length ys.length] 45)) _ _ := ((Mem.start w).alloc (.cells #[.bool s, .slice A xs.length xs.length, .slice B ys.length ys.length] 45 (0, 0))).alloc (.cells #[.bool s, .slice C xs.length xs.length, .slice D ys.length ys.length] 45 (0, 0))
  rw [World.size_alloc] at hm0
  have HM := Lib.hid hm0
  clear hm0
  go_enter Tryz.func25, Tryz.ntmps25
  go_upto_region 1 with (fail)
  generalize (World.alloc (World.alloc w _) _) = v0 at *
  obtain ⟨c0_0, c0_1, c0_2, c0_3, c0_4, c0_5⟩ := row3 (HM.out.l 0 _ _ rfl)
  obtain ⟨c1_0, c1_1, c1_2, c1_3, c1_4, c1_5⟩ := row3 (HM.out.l 1 _ _ rfl)
  have HK := Lib.hid (H1.out v0 HM.out.b)
  (try unfold qv at HK)
  (try unfold pt at HK)
  (try unfold mv at HK)
  ((try dsimp only); repeat (first | go_values | go_skip | go_guarded | go_step | go_upon))
  refine HK.out.mono ?_
  rintro e w1 ⟨rfl, hb⟩
  have hm := (HM.out.keep hb)
  clear HK HM hb  c0_0 c0_1 c0_2 c0_3 c0_4 c0_5 c1_0 c1_1 c1_2 c1_3 c1_4 c1_5
  have HM := Lib.hid hm
  clear hm
  obtain ⟨c0_0, c0_1, c0_2, c0_3, c0_4, c0_5⟩ := row3 (HM.out.l 0 _ _ rfl)
  obtain ⟨c1_0, c1_1, c1_2, c1_3, c1_4, c1_5⟩ := row3 (HM.out.l 1 _ _ rfl)
  have HK := Lib.hid (H2.out w1 HM.out.b)
  (try unfold qv at HK)
  (try unfold pt at HK)
  (try unfold mv at HK)
  ((try dsimp only); repeat (first | go_values | go_skip | go_guarded | go_step | go_upon))
  refine HK.out.mono ?_
  rintro e w2 ⟨rfl, hb⟩
  have hm := (HM.out.keep hb)
  clear HK HM hb  c0_0 c0_1 c0_2 c0_3 c0_4 c0_5 c1_0 c1_1 c1_2 c1_3 c1_4 c1_5
  ((try dsimp only); repeat (first | go_values | go_skip | go_guarded | go_step | go_upon))
  go_ret
  exact ⟨rfl, hm.b⟩
structure LkS (w0 : World) (n : Nat) (K : Int) (Pr : Bool) (P Q P2 Q2 : Pt) (w : World) : Prop where
  b : Below n w0 w
  m : w.heap[n]? = some (.cells #[.int .i64 K, .bool Pr, .int .u64 P.1, .int .u64 P.2, .int .u64 Q.1, .int .u64 Q.2] 29 (0, 0))
  n : w.heap[n + 1]? = some (.cells #[.int .i64 K, .bool Pr, .int .u64 P2.1, .int .u64 P2.2, .int .u64 Q2.1, .int .u64 Q2.2] 29 (0, 0))
section
variable {w0 w w' : World} {n : Nat} {K : Int} {Pr : Bool} {P Q P2 Q2 : Pt}
theorem LkS.keep (h : LkS w0 n K Pr P Q P2 Q2 w) (k : Below w.heap.size w w') : LkS w0 n K Pr P Q P2 Q2 w' :=
  ⟨h.b.trans (k.mono (Nat.le_of_lt (heap_lt h.m))), (k.block _ (heap_lt h.m)).trans h.m, (k.block _ (heap_lt h.n)).trans h.n⟩
theorem LkS.setP (h : LkS w0 n K Pr P Q P2 Q2 w) (X : Pt) : LkS w0 n K Pr P Q X Q2 ((w.setCell ⟨n + 1, 2, none⟩ (.int .u64 X.1)).setCell ⟨n + 1, 3, none⟩ (.int .u64 X.2)) :=
  ⟨(h.b.setCell (Nat.le_succ _) _).setCell (Nat.le_succ _) _, by rw [Below.heap_setCell _ _ _ _ (show n ≠ n + 1 by omega), Below.heap_setCell _ _ _ _ (show n ≠ n + 1 by omega)]; exact h.m, heap_set_cell (heap_set_cell h.n 2 (.int .u64 X.1)) 3 (.int .u64 X.2)⟩
theorem LkS.setQ (h : LkS w0 n K Pr P Q P2 Q2 w) (X : Pt) : LkS w0 n K Pr P Q P2 X ((w.setCell ⟨n + 1, 4, none⟩ (.int .u64 X.1)).setCell ⟨n + 1, 5, none⟩ (.int .u64 X.2)) :=
  ⟨(h.b.setCell (Nat.le_succ _) _).setCell (Nat.le_succ _) _, by rw [Below.heap_setCell _ _ _ _ (show n ≠ n + 1 by omega), Below.heap_setCell _ _ _ _ (show n ≠ n + 1 by omega)]; exact h.m, heap_set_cell (heap_set_cell h.n 4 (.int .u64 X.1)) 5 (.int .u64 X.2)⟩
end
set_option maxRecDepth 100000 in
set_option maxHeartbeats 1600000 in
theorem lLike0 (K : Int) (Pr : Bool) (P Q P2 Q2 : Pt) (w : World) (hP : ∀ wz, Calls Tryz.prog 15 #[pt P, pt P2] wz fun e w' => e = .returned (.bool true) ∧ Below wz.heap.size wz w')
    (hQ : ∀ wz, Calls Tryz.prog 15 #[pt Q, pt Q2] wz fun e w' => e = .returned (.bool true) ∧ Below wz.heap.size wz w') :
    Calls Tryz.prog 24 #[mv ⟨K, Pr, P, Q⟩, mv ⟨K, Pr, P2, Q2⟩, .bool false] w fun e w' => e = .returned (.bool true) ∧ Below w.heap.size w w' := by
  have H1 := Lib.hid hP
  have H2 := Lib.hid hQ
  clear hP hQ
  have hm0 : Mem w.heap.size w ((w.alloc (.cells #[.int .i64 K, .bool Pr, .int .u64 P.1, .int .u64 P.2, .int .u64 Q.1, .int .u64 Q.2] 29)).alloc (.cells #[.int .i64 K, .bool Pr, .int .u64 P2.1, .int .u64 P2.2, .int .u64 Q2.1, .int .u64 Q2.2] 29)) _ _ := ((Mem.start w).alloc (mo ⟨K, Pr, P, Q⟩)).alloc (mo ⟨K, Pr, P2, Q2⟩)
  rw [World.size_alloc] at hm0
  have HM := Lib.hid hm0
  clear hm0
  unfold mv
  go_enter Tryz.func24, Tryz.ntmps24
  go_upto_region 6 with (fail)
  generalize (World.alloc (World.alloc w _) _) = v0 at *
  obtain ⟨c0_0, c0_1, c0_2, c0_3, c0_4, c0_5, c0_6, c0_7, c0_8, c0_9, c0_10, c0_11⟩ := row6 (HM.out.l 0 _ _ rfl)
  obtain ⟨c1_0, c1_1, c1_2, c1_3, c1_4, c1_5, c1_6, c1_7, c1_8, c1_9, c1_10, c1_11⟩ := row6 (HM.out.l 1 _ _ rfl)
  have HK := Lib.hid (H1.out v0)
  (try unfold qv at HK)
  (try unfold pt at HK)
  (try unfold mv at HK)
  ((try dsimp only); repeat (first | go_values | go_skip | go_guarded | go_step | go_upon))
  refine HK.out.mono ?_
  rintro e w1 ⟨rfl, hb⟩
  have hm := (HM.out.keep hb)
  clear HK HM hb  c0_0 c0_1 c0_2 c0_3 c0_4 c0_5 c0_6 c0_7 c0_8 c0_9 c0_10 c0_11 c1_0 c1_1 c1_2 c1_3 c1_4 c1_5 c1_6 c1_7 c1_8 c1_9 c1_10 c1_11
  have HM := Lib.hid hm
  clear hm
  obtain ⟨c0_0, c0_1, c0_2, c0_3, c0_4, c0_5, c0_6, c0_7, c0_8, c0_9, c0_10, c0_11⟩ := row6 (HM.out.l 0 _ _ rfl)
  obtain ⟨c1_0, c1_1, c1_2, c1_3, c1_4, c1_5, c1_6, c1_7, c1_8, c1_9, c1_10, c1_11⟩ := row6 (HM.out.l 1 _ _ rfl)
  have HK := Lib.hid (H2.out w1)
  (try unfold qv at HK)
  (try unfold pt at HK)
  (try unfold mv at HK)
  ((try dsimp only); repeat (first | go_values | go_skip | go_guarded | go_step | go_upon))
  refine HK.out.mono ?_
  rintro e w2 ⟨rfl, hb⟩
  have hm := (HM.out.keep hb)
  clear HK HM hb  c0_0 c0_1 c0_2 c0_3 c0_4 c0_5 c0_6 c0_7 c0_8 c0_9 c0_10 c0_11 c1_0 c1_1 c1_2 c1_3 c1_4 c1_5 c1_6 c1_7 c1_8 c1_9 c1_10 c1_11
  ((try dsimp only); repeat (first | go_values | go_skip | go_guarded | go_step | go_upon))
  go_ret
  exact ⟨rfl, hm.b⟩
set_option maxRecDepth 100000 in
set_option maxHeartbeats 1600000 in
theorem lLike1 (K : Int) (Pr : Bool) (P Q P2 Q2 : Pt) (w : World) (u2 : PtU P2) (v2 : PtU Q2)
    (hP : ∀ wz, Calls Tryz.prog 15 #[pt P, pt (if K = 2 then negP Q2 else negP P2)] wz fun e w' => e = .returned (.bool true) ∧ Below wz.heap.size wz w')
    (hQ : ∀ wz, Calls Tryz.prog 15 #[pt Q, pt (if K = 2 then negP P2 else negP Q2)] wz fun e w' => e = .returned (.bool true) ∧ Below wz.heap.size wz w') :
    Calls Tryz.prog 24 #[mv ⟨K, Pr, P, Q⟩, mv ⟨K, Pr, P2, Q2⟩, .bool true] w fun e w' => e = .returned (.bool true) ∧ Below w.heap.size w w' := by
  have H1 := Lib.hid hP
  have H2 := Lib.hid hQ
  have T1 := Lib.hid (fun wz => lTurned P2 wz u2)
  have T2 := Lib.hid (fun wz => lTurned Q2 wz v2)
  clear hP hQ
  have hs0 : LkS w w.heap.size K Pr P Q P2 Q2 ((w.alloc (.cells #[.int .i64 K, .bool Pr, .int .u64 P.1, .int .u64 P.2, .int .u64 Q.1, .int .u64 Q.2] 29)).alloc (.cells #[.int .i64 K, .bool Pr, .int .u64 P2.1, .int .u64 P2.2, .int .u64 Q2.1, .int .u64 Q2.2] 29)) :=
    ⟨(by repeat (first | exact Below.refl _ _ | refine belowN ?_ _ | refine Below.drew ?_ | refine Below.alloc ?_ (by first | exact Nat.le_refl _ | (simp; done) | (simp; omega) | omega) _)), alloc_old (alloc_new _ _), alloc_at _ (by simp)⟩
  have HS := Lib.hid hs0
  clear hs0
  generalize negP P2 = P3 at *
  generalize negP Q2 = Q3 at *
  unfold mv
  unfold pt at T1 T2
  go_enter Tryz.func24, Tryz.ntmps24
  go_upto_region 2 with (fail)
  generalize (World.alloc (World.alloc w _) _) = v0 at *
  obtain ⟨y0, y1, y2, y3, y4, y5, y6, y7, y8, y9, y10, y11⟩ := row6 HS.out.n
  ((try dsimp only); repeat (first | go_values | go_skip | go_guarded | go_step | go_upon))
  refine (T1.out _).mono ?_
  rintro e w1 ⟨rfl, hb⟩
  have hs := HS.out.keep hb
  obtain ⟨y0, y1, y2, y3, y4, y5, y6, y7, y8, y9, y10, y11⟩ := row6 hs.n
  have hs := hs.setP P3
  clear HS hb
  have HS := Lib.hid hs
  clear hs
  go_upto_region 3 with (fail)
  generalize (World.setCell (World.setCell w1 _ _) _ _) = v1 at *
  clear y0 y1 y2 y3 y4 y5 y6 y7 y8 y9 y10 y11
  obtain ⟨y0, y1, y2, y3, y4, y5, y6, y7, y8, y9, y10, y11⟩ := row6 HS.out.n
  ((try dsimp only); repeat (first | go_values | go_skip | go_guarded | go_step | go_upon))
  refine (T2.out _).mono ?_
  rintro e w2 ⟨rfl, hb⟩
  have hs := HS.out.keep hb
  obtain ⟨y0, y1, y2, y3, y4, y5, y6, y7, y8, y9, y10, y11⟩ := row6 hs.n
  have hs := hs.setQ Q3
  clear HS hb
  have HS := Lib.hid hs
  clear hs
  go_upto_region 4 with (fail)
  generalize (World.setCell (World.setCell w2 _ _) _ _) = v2 at *
  clear y0 y1 y2 y3 y4 y5 y6 y7 y8 y9 y10 y11
  by_cases hk : K = 2
  · rw [if_pos hk] at H1 H2
    have hkb : (K == 2) = true := beq_iff_eq.2 hk
    clear hk
    obtain ⟨y0, y1, y2, y3, y4, y5, y6, y7, y8, y9, y10, y11⟩ := row6 HS.out.n
    have hs := (HS.out.setP Q3).setQ P3
    clear HS
    have HS := Lib.hid hs
    clear hs
    go_upto_region 6 with (fail)
    generalize (World.setCell (World.setCell (World.setCell (World.setCell v2 _ _) _ _) _ _) _ _) = v3 at *
    clear y0 y1 y2 y3 y4 y5 y6 y7 y8 y9 y10 y11
    obtain ⟨y0, y1, y2, y3, y4, y5, y6, y7, y8, y9, y10, y11⟩ := row6 HS.out.n
    obtain ⟨x0, x1, x2, x3, x4, x5, x6, x7, x8, x9, x10, x11⟩ := row6 HS.out.m
    unfold pt at H1 H2
    ((try dsimp only); repeat (first | go_values | go_skip | go_guarded | go_step | go_upon))
    refine (H1.out _).mono ?_
    rintro e w4 ⟨rfl, hb⟩
    have hs := HS.out.keep hb
    clear HS hb y0 y1 y2 y3 y4 y5 y6 y7 y8 y9 y10 y11 x0 x1 x2 x3 x4 x5 x6 x7 x8 x9 x10 x11
    obtain ⟨y0, y1, y2, y3, y4, y5, y6, y7, y8, y9, y10, y11⟩ := row6 hs.n
    obtain ⟨x0, x1, x2, x3, x4, x5, x6, x7, x8, x9, x10, x11⟩ := row6 hs.m
    ((try dsimp only); repeat (first | go_values | go_skip | go_guarded | go_step | go_upon))
    refine (H2.out _).mono ?_
    rintro e w5 ⟨rfl, hb⟩
    have hs := hs.keep hb
    ((try dsimp only); repeat (first | go_values | go_skip | go_guarded | go_step | go_upon))
    go_ret
    exact ⟨rfl, hs.b⟩
  · rw [if_neg hk] at H1 H2
    have hkb : (K == 2) = false := beq_eq_false_iff_ne.2 hk
    clear hk
    obtain ⟨y0, y1, y2, y3, y4, y5, y6, y7, y8, y9, y10, y11⟩ := row6 HS.out.n
    obtain ⟨x0, x1, x2, x3, x4, x5, x6, x7, x8, x9, x10, x11⟩ := row6 HS.out.m
    unfold pt at H1 H2
    ((try dsimp only); repeat (first | go_values | go_skip | go_guarded | go_step | go_upon))
    refine (H1.out _).mono ?_
    rintro e w4 ⟨rfl, hb⟩
    have hs := HS.out.keep hb
    clear HS hb y0 y1 y2 y3 y4 y5 y6 y7 y8 y9 y10 y11 x0 x1 x2 x3 x4 x5 x6 x7 x8 x9 x10 x11
    obtain ⟨y0, y1, y2, y3, y4, y5, y6, y7, y8, y9, y10, y11⟩ := row6 hs.n
    obtain ⟨x0, x1, x2, x3, x4, x5, x6, x7, x8, x9, x10, x11⟩ := row6 hs.m
    ((try dsimp only); repeat (first | go_values | go_skip | go_guarded | go_step | go_upon))
    refine (H2.out _).mono ?_
    rintro e w5 ⟨rfl, hb⟩
    have hs := hs.keep hb
    ((try dsimp only); repeat (first | go_values | go_skip | go_guarded | go_step | go_upon))
    go_ret
    exact ⟨rfl, hs.b⟩
end Go.Proofs.YtggfppgjabembaaGreatDoor

namespace Go.Proofs.YtggfppgjabembaaGreatDoor
open Go.RowKit Go.Proofs.YtggfppgjabembaaGreatDoorW.PrintLast
set_option linter.unusedVariables false
set_option linter.unusedSimpArgs false
structure SidC (a b c d A B C D NA NB NC ND : Pt) (m1 m2 m3 m4 m5 : Mt) : Prop where
  sp : ∀ wz, Calls Tryz.prog 9 #[fr a b c d] wz fun e w' => e = .returned (fr A B C D) ∧ Below wz.heap.size wz w'
  e1 : ∀ wz, Calls Tryz.prog 10 #[pt A, pt B, pt C, pt D] wz fun e w' => e = .returned (.tuple #[mv m1, .int .i64 0]) ∧ Below wz.heap.size wz w'
  e2 : ∀ wz, Calls Tryz.prog 10 #[pt B, pt A, pt C, pt D] wz fun e w' => e = .returned (.tuple #[mv m2, .int .i64 0]) ∧ Below wz.heap.size wz w'
  e3 : ∀ wz, Calls Tryz.prog 10 #[pt A, pt B, pt D, pt C] wz fun e w' => e = .returned (.tuple #[mv m3, .int .i64 0]) ∧ Below wz.heap.size wz w'
  e4 : ∀ wz, Calls Tryz.prog 10 #[pt C, pt D, pt A, pt B] wz fun e w' => e = .returned (.tuple #[mv m4, .int .i64 0]) ∧ Below wz.heap.size wz w'
  e5 : ∀ wz, Calls Tryz.prog 10 #[pt NA, pt NB, pt NC, pt ND] wz fun e w' => e = .returned (.tuple #[mv m5, .int .i64 0]) ∧ Below wz.heap.size wz w'
  t1 : ∀ wz, Calls Tryz.prog 23 #[pt A] wz fun e w' => e = .returned (pt NA) ∧ Below wz.heap.size wz w'
  t2 : ∀ wz, Calls Tryz.prog 23 #[pt B] wz fun e w' => e = .returned (pt NB) ∧ Below wz.heap.size wz w'
  t3 : ∀ wz, Calls Tryz.prog 23 #[pt C] wz fun e w' => e = .returned (pt NC) ∧ Below wz.heap.size wz w'
  t4 : ∀ wz, Calls Tryz.prog 23 #[pt D] wz fun e w' => e = .returned (pt ND) ∧ Below wz.heap.size wz w'
  l1 : ∀ wz, Calls Tryz.prog 24 #[mv m1, mv m2, .bool false] wz fun e w' => e = .returned (.bool true) ∧ Below wz.heap.size wz w'
  l2 : ∀ wz, Calls Tryz.prog 24 #[mv m1, mv m3, .bool false] wz fun e w' => e = .returned (.bool true) ∧ Below wz.heap.size wz w'
  l3 : ∀ wz, Calls Tryz.prog 24 #[mv m1, mv m4, .bool false] wz fun e w' => e = .returned (.bool true) ∧ Below wz.heap.size wz w'
  l4 : ∀ wz, Calls Tryz.prog 24 #[mv m1, mv m5, .bool true] wz fun e w' => e = .returned (.bool true) ∧ Below wz.heap.size wz w'
set_option maxRecDepth 100000 in
set_option maxHeartbeats 6400000 in
theorem lSegSidesIn (a b c d A B C D NA NB NC ND : Pt) (m1 m2 m3 m4 m5 : Mt) (x y : Rat) (w : World) (H : SidC a b c d A B C D NA NB NC ND m1 m2 m3 m4 m5)
    (hx : (qn x).length ≤ 4096 ∧ (qd x).length ≤ 4096) (hy : (qn y).length ≤ 4096 ∧ (qd y).length ≤ 4096)
    (hX : ((∀ wz, Calls Tryz.prog 17 #[pt A, pt B, pt C, pt D] wz fun e w' => e = .returned (.tuple #[.agg #[.bool false, .slice none 0 0, .slice none 0 0], .agg #[.bool false, .slice none 0 0, .slice none 0 0], .int .i64 230]) ∧ Below wz.heap.size wz w') ∧ (∀ wz, Calls Tryz.prog 17 #[pt D, pt C, pt A, pt B] wz fun e w' => e = .returned (.tuple #[.agg #[.bool false, .slice none 0 0, .slice none 0 0], .agg #[.bool false, .slice none 0 0, .slice none 0 0], .int .i64 230]) ∧ Below wz.heap.size wz w')) ∨
      ((∀ wz, Calls Tryz.prog 17 #[pt A, pt B, pt C, pt D] wz fun e w' => ∃ E F E' F', e = .returned (.tuple #[qv E F x, qv E' F' y, .int .i64 0]) ∧ RatFresh wz.heap.size w' E F x ∧ RatFresh wz.heap.size w' E' F' y ∧ Below wz.heap.size wz w') ∧ (∀ wz, Calls Tryz.prog 17 #[pt D, pt C, pt A, pt B] wz fun e w' => ∃ E F E' F', e = .returned (.tuple #[qv E F x, qv E' F' y, .int .i64 0]) ∧ RatFresh wz.heap.size w' E F x ∧ RatFresh wz.heap.size w' E' F' y ∧ Below wz.heap.size wz w'))) :
    Calls Tryz.prog 5 #[fr a b c d] w fun e w' => e = .returned (.bool true) ∧ Below w.heap.size w w' := by
  obtain ⟨h0, h1, h2, h3, h4, h5, t1, t2, t3, t4, l1, l2, l3, l4⟩ := H
  have H0 := Lib.hid h0
  have H1 := Lib.hid h1
  have H2 := Lib.hid h2
  have H3 := Lib.hid h3
  have H4 := Lib.hid h4
  have H5 := Lib.hid h5
  have T1 := Lib.hid t1
  have L1 := Lib.hid l1
  have T2 := Lib.hid t2
  have L2 := Lib.hid l2
  have T3 := Lib.hid t3
  have L3 := Lib.hid l3
  have T4 := Lib.hid t4
  have L4 := Lib.hid l4
  have XX := Lib.hid hX
  clear h0 h1 h2 h3 h4 h5 t1 t2 t3 t4 l1 l2 l3 l4 hX
  have hm0 : Mem w.heap.size w (w.alloc (.cells #[.int .u64 a.1, .int .u64 a.2, .int .u64 b.1, .int .u64 b.2, .int .u64 c.1, .int .u64 c.2, .int .u64 d.1, .int .u64 d.2] 26)) [(w.heap.size, fo a b c d)] [] := (Mem.start w).alloc (fo a b c d)
  have HM := Lib.hid hm0
  clear hm0
  unfold fr pt mv at *
  go_enter Tryz.func5, Tryz.ntmps5
  ((try dsimp only); repeat (first | go_values | go_skip | go_guarded | go_step | go_upon))
  generalize (World.alloc w _) = v0 at *
  refine (H0.out _).mono ?_
  rintro e w1 ⟨rfl, hb⟩
  have hm1 := HM.out.keep hb
  have hm := hm1.four8 A B C D
  obtain ⟨y0, y1, y2, y3, y4, y5, y6, y7⟩ := row8 (hm1.l 0 _ _ rfl)
  obtain ⟨z0, z1, z2, z3, z4, z5, z6, z7⟩ := free8 (hm1.l 0 _ _ rfl)
  clear HM hb hm1
  have HM := Lib.hid hm
  clear hm
  go_upto_region 2 with (fail)
  generalize (World.setCell (World.setCell (World.setCell (World.setCell (World.setCell (World.setCell (World.setCell (World.setCell w1 _ _) _ _) _ _) _ _) _ _) _ _) _ _) _ _) = v1 at *
  clear y0 y1 y2 y3 y4 y5 y6 y7 z0 z1 z2 z3 z4 z5 z6 z7
  obtain ⟨c0_0, c0_1, c0_2, c0_3, c0_4, c0_5, c0_6, c0_7⟩ := row8 (HM.out.l 0 _ _ rfl)
  have HK := Lib.hid (H1.out v1)
  (try unfold qv at HK)
  (try unfold pt at HK)
  (try unfold mv at HK)
  ((try dsimp only); repeat (first | go_values | go_skip | go_guarded | go_step | go_upon))
  refine HK.out.mono ?_
  rintro e w2 ⟨rfl, hb⟩
  have hm : Mem w.heap.size w (w2.alloc (.cells #[.int .i64 m1.kind, .bool m1.proper, .int .u64 m1.P.1, .int .u64 m1.P.2, .int .u64 m1.Q.1, .int .u64 m1.Q.2] 29)) _ _ := (HM.out.keep hb).alloc (mo m1)
  clear HK HM hb  c0_0 c0_1 c0_2 c0_3 c0_4 c0_5 c0_6 c0_7
  go_upto_region 3 with (fail)
  generalize (World.alloc w2 _) = v2 at *
  have HM := Lib.hid hm
  clear hm
  obtain ⟨c0_0, c0_1, c0_2, c0_3, c0_4, c0_5, c0_6, c0_7⟩ := row8 (HM.out.l 0 _ _ rfl)
  have HK := Lib.hid (H2.out v2)
  (try unfold qv at HK)
  (try unfold pt at HK)
  (try unfold mv at HK)
  ((try dsimp only); repeat (first | go_values | go_skip | go_guarded | go_step | go_upon))
  refine HK.out.mono ?_
  rintro e w3 ⟨rfl, hb⟩
  have hm : Mem w.heap.size w (w3.alloc (.cells #[.int .i64 m2.kind, .bool m2.proper, .int .u64 m2.P.1, .int .u64 m2.P.2, .int .u64 m2.Q.1, .int .u64 m2.Q.2] 29)) _ _ := (HM.out.keep hb).alloc (mo m2)
  clear HK HM hb  c0_0 c0_1 c0_2 c0_3 c0_4 c0_5 c0_6 c0_7
  go_upto_region 4 with (fail)
  generalize (World.alloc w3 _) = v3 at *
  have HM := Lib.hid hm
  clear hm
  obtain ⟨c0_0, c0_1, c0_2, c0_3, c0_4, c0_5, c0_6, c0_7⟩ := row8 (HM.out.l 0 _ _ rfl)
  have HK := Lib.hid (H3.out v3)
  (try unfold qv at HK)
  (try unfold pt at HK)
  (try unfold mv at HK)
  ((try dsimp only); repeat (first | go_values | go_skip | go_guarded | go_step | go_upon))
  refine HK.out.mono ?_
  rintro e w4 ⟨rfl, hb⟩
  have hm : Mem w.heap.size w (w4.alloc (.cells #[.int .i64 m3.kind, .bool m3.proper, .int .u64 m3.P.1, .int .u64 m3.P.2, .int .u64 m3.Q.1, .int .u64 m3.Q.2] 29)) _ _ := (HM.out.keep hb).alloc (mo m3)
  clear HK HM hb  c0_0 c0_1 c0_2 c0_3 c0_4 c0_5 c0_6 c0_7
  go_upto_region 5 with (fail)
  generalize (World.alloc w4 _) = v4 at *
  have HM := Lib.hid hm
  clear hm
  obtain ⟨c0_0, c0_1, c0_2, c0_3, c0_4, c0_5, c0_6, c0_7⟩ := row8 (HM.out.l 0 _ _ rfl)
  have HK := Lib.hid (H4.out v4)
  (try unfold qv at HK)
  (try unfold pt at HK)
  (try unfold mv at HK)
  ((try dsimp only); repeat (first | go_values | go_skip | go_guarded | go_step | go_upon))
  refine HK.out.mono ?_
  rintro e w5 ⟨rfl, hb⟩
  have hm : Mem w.heap.size w (w5.alloc (.cells #[.int .i64 m4.kind, .bool m4.proper, .int .u64 m4.P.1, .int .u64 m4.P.2, .int .u64 m4.Q.1, .int .u64 m4.Q.2] 29)) _ _ := (HM.out.keep hb).alloc (mo m4)
  clear HK HM hb  c0_0 c0_1 c0_2 c0_3 c0_4 c0_5 c0_6 c0_7
  go_upto_region 6 with (fail)
  generalize (World.alloc w5 _) = v5 at *
  have HM := Lib.hid hm
  clear hm
  have HLT := Lib.hid (HM.out.lt 0 rfl)
  have HFO := Lib.hid (HM.out.l 0 _ _ rfl)
  go_cut [11, 12] (fun x y wx => ∃ gn, x = .pointer (some ⟨gn, 0, none⟩) ∧ y = .int .i64 0 ∧ Below v5.heap.size v5 wx ∧ wx.heap[gn]? = some (mo m5))
  case first =>
    as_aux_lemma =>
    refine start_ (n := 19) (S := fun w' => Below v5.heap.size v5 w') (ds := [17]) #[false, false, false, false, false, false, false, false, false, false, false, false, false, false, false, false, false, false, false] (by kernel_rfl) rfl rfl ((Below.refl _ _).drew) (fun hHeld => ?_)
    refine pu 0 68 ?_ ?_ rfl rfl (by kernel_rfl) (fun _ _ _ h => h) (by rfl) (fun _ => ?_) ?_ ?_; rotate_left 2
    · go_simp; with_reducible rfl
    · simp only [pA, pB, pC, pD, i64_w, i32_w]; rfl
    refine ld 1 69 ?_ ?_ rfl rfl (by kernel_rfl) (fun _ _ _ h => h) (by rfl) hHeld ?_ ?_ ?_; rotate_left 2
    · rintro w' hs
      obtain ⟨q0, q1, q2, q3, q4, q5, q6, q7⟩ := row8 ((hs.block _ HLT.out).trans HFO.out)
      clear hs
      go_simp; with_reducible rfl
    · simp only [pA, pB, pC, pD, i64_w, i32_w]; rfl
    refine pu 3 71 ?_ ?_ rfl rfl (by kernel_rfl) (fun _ _ _ h => h) (by rfl) (fun _ => ?_) ?_ ?_; rotate_left 2
    · go_simp; with_reducible rfl
    · simp only [pA, pB, pC, pD, i64_w, i32_w]; rfl
    refine ld 4 72 ?_ ?_ rfl rfl (by kernel_rfl) (fun _ _ _ h => h) (by rfl) hHeld ?_ ?_ ?_; rotate_left 2
    · rintro w' hs
      obtain ⟨q0, q1, q2, q3, q4, q5, q6, q7⟩ := row8 ((hs.block _ HLT.out).trans HFO.out)
      clear hs
      go_simp; with_reducible rfl
    · simp only [pA, pB, pC, pD, i64_w, i32_w]; rfl
    refine pu 6 74 ?_ ?_ rfl rfl (by kernel_rfl) (fun _ _ _ h => h) (by rfl) (fun _ => ?_) ?_ ?_; rotate_left 2
    · go_simp; with_reducible rfl
    · simp only [pA, pB, pC, pD, i64_w, i32_w]; rfl
    refine ld 7 75 ?_ ?_ rfl rfl (by kernel_rfl) (fun _ _ _ h => h) (by rfl) hHeld ?_ ?_ ?_; rotate_left 2
    · rintro w' hs
      obtain ⟨q0, q1, q2, q3, q4, q5, q6, q7⟩ := row8 ((hs.block _ HLT.out).trans HFO.out)
      clear hs
      go_simp; with_reducible rfl
    · simp only [pA, pB, pC, pD, i64_w, i32_w]; rfl
    refine pu 9 77 ?_ ?_ rfl rfl (by kernel_rfl) (fun _ _ _ h => h) (by rfl) (fun _ => ?_) ?_ ?_; rotate_left 2
    · go_simp; with_reducible rfl
    · simp only [pA, pB, pC, pD, i64_w, i32_w]; rfl
    refine ld 10 78 ?_ ?_ rfl rfl (by kernel_rfl) (fun _ _ _ h => h) (by rfl) hHeld ?_ ?_ ?_; rotate_left 2
    · rintro w' hs
      obtain ⟨q0, q1, q2, q3, q4, q5, q6, q7⟩ := row8 ((hs.block _ HLT.out).trans HFO.out)
      clear hs
      go_simp; with_reducible rfl
    · simp only [pA, pB, pC, pD, i64_w, i32_w]; rfl
    refine join_ (σ := Nat) 2 #[true, true, true, true, true, true, true, true, true, true, true, true, true, true, true, true, true, false, false] (fun s => [(70, .agg #[.int .u64 NA.1, .int .u64 NA.2]), (73, .agg #[.int .u64 NB.1, .int .u64 NB.2]), (76, .agg #[.int .u64 NC.1, .int .u64 NC.2]), (79, .agg #[.int .u64 ND.1, .int .u64 ND.2]), (80, .tuple #[.agg #[.int .i64 m5.kind, .bool m5.proper, .int .u64 m5.P.1, .int .u64 m5.P.2, .int .u64 m5.Q.1, .int .u64 m5.Q.2], .int .i64 0]), (67, .tuple #[.agg #[.int .i64 m5.kind, .bool m5.proper, .int .u64 m5.P.1, .int .u64 m5.P.2, .int .u64 m5.Q.1, .int .u64 m5.Q.2], .int .i64 0]), (81, .agg #[.int .i64 m5.kind, .bool m5.proper, .int .u64 m5.P.1, .int .u64 m5.P.2, .int .u64 m5.Q.1, .int .u64 m5.Q.2]), (82, .int .i64 0), (11, .pointer (some ⟨s, 0, none⟩))]) (fun s w' => w'.heap[s]? = some (.cells #[.int .i64 0, .bool false, .int .u64 0, .int .u64 0, .int .u64 0, .int .u64 0] 29 (0, 0)) ∧ v5.heap.size ≤ s ∧ Below v5.heap.size v5 w') ?_ ?_
    rotate_left
    · intro J
      generalize hwc0 : v5.drew = wc0 at *
      refine two_ (i := 2) (j := 16) (Ni := some 70) (Nj := some 11) #[true, true, true, true, true, false, true, true, false, true, true, false, false, false, false, false, false, false, false] #[true, true, false, true, true, false, true, true, false, true, true, false, false, false, false, false, true, false, false] rfl rfl rfl rfl (by kernel_rfl) (by decide) (by decide) ?_ ?_
      · intro K hK
        refine goes_ Tryz.func23 (by kernel_rfl) rfl #[.agg #[.int .u64 A.1, .int .u64 A.2]] (by rfl) rfl rfl (by first | rfl | (simp [Act.eval]; done) | (simp [Act.eval]; done) | (go_simp; rfl)) ?_
        with_reducible refine (T1.out _).mono ?_
        rintro e wc1 ⟨rfl, hb1⟩
        (try replace k7 := (hb1.block _ (heap_lt k7)).trans k7)
        refine ⟨_, rfl, ?_⟩
        refine hK.out _ _ (by exact hHeld.trans (hb1.mono hHeld.size)) (fun hHeld => ?_)
        clear hK K
        refine nm ?_ ?_ ?_; rotate_left
        · simp only [pA, pB, pC, pD, i64_w, i32_w]; rfl
        refine two_ (i := 5) (j := 16) (Ni := some 73) (Nj := some 11) #[true, true, true, true, true, true, true, true, false, true, true, false, false, false, false, false, false, false, false] #[true, true, true, true, true, false, true, true, false, true, true, false, false, false, false, false, true, false, false] rfl rfl rfl rfl (by kernel_rfl) (by decide) (by decide) ?_ ?_
        · intro K hK
          refine goes_ Tryz.func23 (by kernel_rfl) rfl #[.agg #[.int .u64 B.1, .int .u64 B.2]] (by rfl) rfl rfl (by first | rfl | (simp [Act.eval]; done) | (simp [Act.eval]; done) | (go_simp; rfl)) ?_
          with_reducible refine (T2.out _).mono ?_
          rintro e wc2 ⟨rfl, hb2⟩
          (try replace k7 := (hb2.block _ (heap_lt k7)).trans k7)
          refine ⟨_, rfl, ?_⟩
          refine hK.out _ _ (by exact hHeld.trans (hb2.mono hHeld.size)) (fun hHeld => ?_)
          clear hK K
          refine nm ?_ ?_ ?_; rotate_left
          · simp only [pA, pB, pC, pD, i64_w, i32_w]; rfl
          refine two_ (i := 8) (j := 16) (Ni := some 76) (Nj := some 11) #[true, true, true, true, true, true, true, true, true, true, true, false, false, false, false, false, false, false, false] #[true, true, true, true, true, true, true, true, false, true, true, false, false, false, false, false, true, false, false] rfl rfl rfl rfl (by kernel_rfl) (by decide) (by decide) ?_ ?_
          · intro K hK
            refine goes_ Tryz.func23 (by kernel_rfl) rfl #[.agg #[.int .u64 C.1, .int .u64 C.2]] (by rfl) rfl rfl (by first | rfl | (simp [Act.eval]; done) | (simp [Act.eval]; done) | (go_simp; rfl)) ?_
            with_reducible refine (T3.out _).mono ?_
            rintro e wc3 ⟨rfl, hb3⟩
            (try replace k7 := (hb3.block _ (heap_lt k7)).trans k7)
            refine ⟨_, rfl, ?_⟩
            refine hK.out _ _ (by exact hHeld.trans (hb3.mono hHeld.size)) (fun hHeld => ?_)
            clear hK K
            refine nm ?_ ?_ ?_; rotate_left
            · simp only [pA, pB, pC, pD, i64_w, i32_w]; rfl
            refine two_ (i := 11) (j := 16) (Ni := some 79) (Nj := some 11) #[true, true, true, true, true, true, true, true, true, true, true, true, false, false, false, false, false, false, false] #[true, true, true, true, true, true, true, true, true, true, true, false, false, false, false, false, true, false, false] rfl rfl rfl rfl (by kernel_rfl) (by decide) (by decide) ?_ ?_
            · intro K hK
              refine goes_ Tryz.func23 (by kernel_rfl) rfl #[.agg #[.int .u64 D.1, .int .u64 D.2]] (by rfl) rfl rfl (by first | rfl | (simp [Act.eval]; done) | (simp [Act.eval]; done) | (go_simp; rfl)) ?_
              with_reducible refine (T4.out _).mono ?_
              rintro e wc4 ⟨rfl, hb4⟩
              (try replace k7 := (hb4.block _ (heap_lt k7)).trans k7)
              refine ⟨_, rfl, ?_⟩
              refine hK.out _ _ (by exact hHeld.trans (hb4.mono hHeld.size)) (fun hHeld => ?_)
              clear hK K
              refine nm ?_ ?_ ?_; rotate_left
              · simp only [pA, pB, pC, pD, i64_w, i32_w]; rfl
              refine two_ (i := 12) (j := 16) (Ni := some 80) (Nj := some 11) #[true, true, true, true, true, true, true, true, true, true, true, true, true, false, false, false, false, false, false] #[true, true, true, true, true, true, true, true, true, true, true, true, false, false, false, false, true, false, false] rfl rfl rfl rfl (by kernel_rfl) (by decide) (by decide) ?_ ?_
              · intro K hK
                refine goes_ Tryz.func10 (by kernel_rfl) rfl #[.agg #[.int .u64 NA.1, .int .u64 NA.2], .agg #[.int .u64 NB.1, .int .u64 NB.2], .agg #[.int .u64 NC.1, .int .u64 NC.2], .agg #[.int .u64 ND.1, .int .u64 ND.2]] (by rfl) rfl rfl (by first | rfl | (simp [Act.eval]; done) | (simp [Act.eval]; done) | (go_simp; rfl)) ?_
                with_reducible refine (H5.out _).mono ?_
                rintro e wc5 ⟨rfl, hb5⟩
                (try replace k7 := (hb5.block _ (heap_lt k7)).trans k7)
                refine ⟨_, rfl, ?_⟩
                refine hK.out _ _ (by exact hHeld.trans (hb5.mono hHeld.size)) (fun hHeld => ?_)
                clear hK K
                refine nm ?_ ?_ ?_; rotate_left
                · simp only [pA, pB, pC, pD, i64_w, i32_w]; rfl
                refine pure_ (i := 13) (N := some 67) (v := ?_) (a' := ?_) #[true, true, true, true, true, true, true, true, true, true, true, true, true, true, false, false, false, false, false] rfl rfl (by kernel_rfl) (fun _ _ _ h => h) (Or.inl ⟨by rfl, ?_⟩) ?_ ?_
                rotate_left
                · intro w'
                  go_simp
                  with_reducible rfl
                rotate_left
                · simp only [pA, pB, pC, pD, i64_w, i32_w]; rfl
                refine pure_ (i := 14) (N := some 81) (v := ?_) (a' := ?_) #[true, true, true, true, true, true, true, true, true, true, true, true, true, true, true, false, false, false, false] rfl rfl (by kernel_rfl) (fun _ _ _ h => h) (Or.inl ⟨by rfl, ?_⟩) ?_ ?_
                rotate_left
                · intro w'
                  go_simp
                  with_reducible rfl
                rotate_left
                · simp only [pA, pB, pC, pD, i64_w, i32_w]; rfl
                refine pure_ (i := 15) (N := some 82) (v := ?_) (a' := ?_) #[true, true, true, true, true, true, true, true, true, true, true, true, true, true, true, true, false, false, false] rfl rfl (by kernel_rfl) (fun _ _ _ h => h) (Or.inl ⟨by rfl, ?_⟩) ?_ ?_
                rotate_left
                · intro w'
                  go_simp
                  with_reducible rfl
                rotate_left
                · simp only [pA, pB, pC, pD, i64_w, i32_w]; rfl
                refine one_ (i := 16) (N := some 11) #[true, true, true, true, true, true, true, true, true, true, true, true, true, true, true, true, true, false, false] rfl rfl (by kernel_rfl) (by decide) ?_
                · intro K hK
                  refine value_ (v := .pointer (some ⟨wc5.heap.size, 0, none⟩)) (w1 := wc5.alloc (.cells #[.int .i64 0, .bool false, .int .u64 0, .int .u64 0, .int .u64 0, .int .u64 0] 29)) (by rfl) rfl ?_ ?_
                  · go_simp; (try rfl)
                  obtain ⟨wc6, hw6, hb6, hr6⟩ : ∃ x, wc5.alloc (.cells #[.int .i64 0, .bool false, .int .u64 0, .int .u64 0, .int .u64 0, .int .u64 0] 29) = x ∧ Go.RowKit.Below wc5.heap.size wc5 x ∧ x.heap[wc5.heap.size]? = some (.cells #[.int .i64 0, .bool false, .int .u64 0, .int .u64 0, .int .u64 0, .int .u64 0] 29 (0, 0)) := ⟨_, rfl, (Go.RowKit.Below.refl _ _).alloc (Nat.le_refl _) _, alloc_new _ _⟩
                  rw [hw6]
                  have m7 : v5.heap.size ≤ wc5.heap.size := hHeld.size
                  have k7 := hr6
                  (try replace k7 := (hb6.block _ (heap_lt k7)).trans k7)
                  refine hK.out _ _ (by exact hHeld.trans (hb6.mono hHeld.size)) (fun hHeld => ?_)
                  clear hK K
                  refine nm ?_ ?_ ?_; rotate_left
                  · simp only [pA, pB, pC, pD, i64_w, i32_w]; rfl
                  exact norm_ (by simp only [putAll, pA, pB, pC, pD]) (J _ _ ⟨k7, m7, hHeld⟩)
              · intro K hK
                refine value_ (v := .pointer (some ⟨wc4.heap.size, 0, none⟩)) (w1 := wc4.alloc (.cells #[.int .i64 0, .bool false, .int .u64 0, .int .u64 0, .int .u64 0, .int .u64 0] 29)) (by rfl) rfl ?_ ?_
                · go_simp; (try rfl)
                obtain ⟨wc5, hw5, hb5, hr5⟩ : ∃ x, wc4.alloc (.cells #[.int .i64 0, .bool false, .int .u64 0, .int .u64 0, .int .u64 0, .int .u64 0] 29) = x ∧ Go.RowKit.Below wc4.heap.size wc4 x ∧ x.heap[wc4.heap.size]? = some (.cells #[.int .i64 0, .bool false, .int .u64 0, .int .u64 0, .int .u64 0, .int .u64 0] 29 (0, 0)) := ⟨_, rfl, (Go.RowKit.Below.refl _ _).alloc (Nat.le_refl _) _, alloc_new _ _⟩
                rw [hw5]
                have m7 : v5.heap.size ≤ wc4.heap.size := hHeld.size
                have k7 := hr5
                (try replace k7 := (hb5.block _ (heap_lt k7)).trans k7)
                refine hK.out _ _ (by exact hHeld.trans (hb5.mono hHeld.size)) (fun hHeld => ?_)
                clear hK K
                refine nm ?_ ?_ ?_; rotate_left
                · simp only [pA, pB, pC, pD, i64_w, i32_w]; rfl
                refine one_ (i := 12) (N := some 80) #[true, true, true, true, true, true, true, true, true, true, true, true, true, false, false, false, true, false, false] rfl rfl (by kernel_rfl) (by decide) ?_
                · intro K hK
                  refine goes_ Tryz.func10 (by kernel_rfl) rfl #[.agg #[.int .u64 NA.1, .int .u64 NA.2], .agg #[.int .u64 NB.1, .int .u64 NB.2], .agg #[.int .u64 NC.1, .int .u64 NC.2], .agg #[.int .u64 ND.1, .int .u64 ND.2]] (by rfl) rfl rfl (by first | rfl | (simp [Act.eval]; done) | (simp [Act.eval]; done) | (go_simp; rfl)) ?_
                  with_reducible refine (H5.out _).mono ?_
                  rintro e wc6 ⟨rfl, hb6⟩
                  (try replace k7 := (hb6.block _ (heap_lt k7)).trans k7)
                  refine ⟨_, rfl, ?_⟩
                  refine hK.out _ _ (by exact hHeld.trans (hb6.mono hHeld.size)) (fun hHeld => ?_)
                  clear hK K
                  refine nm ?_ ?_ ?_; rotate_left
                  · simp only [pA, pB, pC, pD, i64_w, i32_w]; rfl
                  refine pure_ (i := 13) (N := some 67) (v := ?_) (a' := ?_) #[true, true, true, true, true, true, true, true, true, true, true, true, true, true, false, false, true, false, false] rfl rfl (by kernel_rfl) (fun _ _ _ h => h) (Or.inl ⟨by rfl, ?_⟩) ?_ ?_
                  rotate_left
                  · intro w'
                    go_simp
                    with_reducible rfl
                  rotate_left
                  · simp only [pA, pB, pC, pD, i64_w, i32_w]; rfl
                  refine pure_ (i := 14) (N := some 81) (v := ?_) (a' := ?_) #[true, true, true, true, true, true, true, true, true, true, true, true, true, true, true, false, true, false, false] rfl rfl (by kernel_rfl) (fun _ _ _ h => h) (Or.inl ⟨by rfl, ?_⟩) ?_ ?_
                  rotate_left
                  · intro w'
                    go_simp
                    with_reducible rfl
                  rotate_left
                  · simp only [pA, pB, pC, pD, i64_w, i32_w]; rfl
                  refine pure_ (i := 15) (N := some 82) (v := ?_) (a' := ?_) #[true, true, true, true, true, true, true, true, true, true, true, true, true, true, true, true, true, false, false] rfl rfl (by kernel_rfl) (fun _ _ _ h => h) (Or.inl ⟨by rfl, ?_⟩) ?_ ?_
                  rotate_left
                  · intro w'
                    go_simp
                    with_reducible rfl
                  rotate_left
                  · simp only [pA, pB, pC, pD, i64_w, i32_w]; rfl
                  exact norm_ (by simp only [putAll, pA, pB, pC, pD]) (J _ _ ⟨k7, m7, hHeld⟩)
            · intro K hK
              refine value_ (v := .pointer (some ⟨wc3.heap.size, 0, none⟩)) (w1 := wc3.alloc (.cells #[.int .i64 0, .bool false, .int .u64 0, .int .u64 0, .int .u64 0, .int .u64 0] 29)) (by rfl) rfl ?_ ?_
              · go_simp; (try rfl)
              obtain ⟨wc4, hw4, hb4, hr4⟩ : ∃ x, wc3.alloc (.cells #[.int .i64 0, .bool false, .int .u64 0, .int .u64 0, .int .u64 0, .int .u64 0] 29) = x ∧ Go.RowKit.Below wc3.heap.size wc3 x ∧ x.heap[wc3.heap.size]? = some (.cells #[.int .i64 0, .bool false, .int .u64 0, .int .u64 0, .int .u64 0, .int .u64 0] 29 (0, 0)) := ⟨_, rfl, (Go.RowKit.Below.refl _ _).alloc (Nat.le_refl _) _, alloc_new _ _⟩
              rw [hw4]
              have m7 : v5.heap.size ≤ wc3.heap.size := hHeld.size
              have k7 := hr4
              (try replace k7 := (hb4.block _ (heap_lt k7)).trans k7)
              refine hK.out _ _ (by exact hHeld.trans (hb4.mono hHeld.size)) (fun hHeld => ?_)
              clear hK K
              refine nm ?_ ?_ ?_; rotate_left
              · simp only [pA, pB, pC, pD, i64_w, i32_w]; rfl
              refine one_ (i := 11) (N := some 79) #[true, true, true, true, true, true, true, true, true, true, true, true, false, false, false, false, true, false, false] rfl rfl (by kernel_rfl) (by decide) ?_
              · intro K hK
                refine goes_ Tryz.func23 (by kernel_rfl) rfl #[.agg #[.int .u64 D.1, .int .u64 D.2]] (by rfl) rfl rfl (by first | rfl | (simp [Act.eval]; done) | (simp [Act.eval]; done) | (go_simp; rfl)) ?_
                with_reducible refine (T4.out _).mono ?_
                rintro e wc5 ⟨rfl, hb5⟩
                (try replace k7 := (hb5.block _ (heap_lt k7)).trans k7)
                refine ⟨_, rfl, ?_⟩
                refine hK.out _ _ (by exact hHeld.trans (hb5.mono hHeld.size)) (fun hHeld => ?_)
                clear hK K
                refine nm ?_ ?_ ?_; rotate_left
                · simp only [pA, pB, pC, pD, i64_w, i32_w]; rfl
                refine one_ (i := 12) (N := some 80) #[true, true, true, true, true, true, true, true, true, true, true, true, true, false, false, false, true, false, false] rfl rfl (by kernel_rfl) (by decide) ?_
                · intro K hK
                  refine goes_ Tryz.func10 (by kernel_rfl) rfl #[.agg #[.int .u64 NA.1, .int .u64 NA.2], .agg #[.int .u64 NB.1, .int .u64 NB.2], .agg #[.int .u64 NC.1, .int .u64 NC.2], .agg #[.int .u64 ND.1, .int .u64 ND.2]] (by rfl) rfl rfl (by first | rfl | (simp [Act.eval]; done) | (simp [Act.eval]; done) | (go_simp; rfl)) ?_
                  with_reducible refine (H5.out _).mono ?_
                  rintro e wc6 ⟨rfl, hb6⟩
                  (try replace k7 := (hb6.block _ (heap_lt k7)).trans k7)
                  refine ⟨_, rfl, ?_⟩
                  refine hK.out _ _ (by exact hHeld.trans (hb6.mono hHeld.size)) (fun hHeld => ?_)
                  clear hK K
                  refine nm ?_ ?_ ?_; rotate_left
                  · simp only [pA, pB, pC, pD, i64_w, i32_w]; rfl
                  refine pure_ (i := 13) (N := some 67) (v := ?_) (a' := ?_) #[true, true, true, true, true, true, true, true, true, true, true, true, true, true, false, false, true, false, false] rfl rfl (by kernel_rfl) (fun _ _ _ h => h) (Or.inl ⟨by rfl, ?_⟩) ?_ ?_
                  rotate_left
                  · intro w'
                    go_simp
                    with_reducible rfl
                  rotate_left
                  · simp only [pA, pB, pC, pD, i64_w, i32_w]; rfl
                  refine pure_ (i := 14) (N := some 81) (v := ?_) (a' := ?_) #[true, true, true, true, true, true, true, true, true, true, true, true, true, true, true, false, true, false, false] rfl rfl (by kernel_rfl) (fun _ _ _ h => h) (Or.inl ⟨by rfl, ?_⟩) ?_ ?_
                  rotate_left
                  · intro w'
                    go_simp
                    with_reducible rfl
                  rotate_left
                  · simp only [pA, pB, pC, pD, i64_w, i32_w]; rfl
                  refine pure_ (i := 15) (N := some 82) (v := ?_) (a' := ?_) #[true, true, true, true, true, true, true, true, true, true, true, true, true, true, true, true, true, false, false] rfl rfl (by kernel_rfl) (fun _ _ _ h => h) (Or.inl ⟨by rfl, ?_⟩) ?_ ?_
                  rotate_left
                  · intro w'
                    go_simp
                    with_reducible rfl
                  rotate_left
                  · simp only [pA, pB, pC, pD, i64_w, i32_w]; rfl
                  exact norm_ (by simp only [putAll, pA, pB, pC, pD]) (J _ _ ⟨k7, m7, hHeld⟩)
          · intro K hK
            refine value_ (v := .pointer (some ⟨wc2.heap.size, 0, none⟩)) (w1 := wc2.alloc (.cells #[.int .i64 0, .bool false, .int .u64 0, .int .u64 0, .int .u64 0, .int .u64 0] 29)) (by rfl) rfl ?_ ?_
            · go_simp; (try rfl)
            obtain ⟨wc3, hw3, hb3, hr3⟩ : ∃ x, wc2.alloc (.cells #[.int .i64 0, .bool false, .int .u64 0, .int .u64 0, .int .u64 0, .int .u64 0] 29) = x ∧ Go.RowKit.Below wc2.heap.size wc2 x ∧ x.heap[wc2.heap.size]? = some (.cells #[.int .i64 0, .bool false, .int .u64 0, .int .u64 0, .int .u64 0, .int .u64 0] 29 (0, 0)) := ⟨_, rfl, (Go.RowKit.Below.refl _ _).alloc (Nat.le_refl _) _, alloc_new _ _⟩
            rw [hw3]
            have m7 : v5.heap.size ≤ wc2.heap.size := hHeld.size
            have k7 := hr3
            (try replace k7 := (hb3.block _ (heap_lt k7)).trans k7)
            refine hK.out _ _ (by exact hHeld.trans (hb3.mono hHeld.size)) (fun hHeld => ?_)
            clear hK K
            refine nm ?_ ?_ ?_; rotate_left
            · simp only [pA, pB, pC, pD, i64_w, i32_w]; rfl
            refine one_ (i := 8) (N := some 76) #[true, true, true, true, true, true, true, true, true, true, true, false, false, false, false, false, true, false, false] rfl rfl (by kernel_rfl) (by decide) ?_
            · intro K hK
              refine goes_ Tryz.func23 (by kernel_rfl) rfl #[.agg #[.int .u64 C.1, .int .u64 C.2]] (by rfl) rfl rfl (by first | rfl | (simp [Act.eval]; done) | (simp [Act.eval]; done) | (go_simp; rfl)) ?_
              with_reducible refine (T3.out _).mono ?_
              rintro e wc4 ⟨rfl, hb4⟩
              (try replace k7 := (hb4.block _ (heap_lt k7)).trans k7)
              refine ⟨_, rfl, ?_⟩
              refine hK.out _ _ (by exact hHeld.trans (hb4.mono hHeld.size)) (fun hHeld => ?_)
              clear hK K
              refine nm ?_ ?_ ?_; rotate_left
              · simp only [pA, pB, pC, pD, i64_w, i32_w]; rfl
              refine one_ (i := 11) (N := some 79) #[true, true, true, true, true, true, true, true, true, true, true, true, false, false, false, false, true, false, false] rfl rfl (by kernel_rfl) (by decide) ?_
              · intro K hK
                refine goes_ Tryz.func23 (by kernel_rfl) rfl #[.agg #[.int .u64 D.1, .int .u64 D.2]] (by rfl) rfl rfl (by first | rfl | (simp [Act.eval]; done) | (simp [Act.eval]; done) | (go_simp; rfl)) ?_
                with_reducible refine (T4.out _).mono ?_
                rintro e wc5 ⟨rfl, hb5⟩
                (try replace k7 := (hb5.block _ (heap_lt k7)).trans k7)
                refine ⟨_, rfl, ?_⟩
                refine hK.out _ _ (by exact hHeld.trans (hb5.mono hHeld.size)) (fun hHeld => ?_)
                clear hK K
                refine nm ?_ ?_ ?_; rotate_left
                · simp only [pA, pB, pC, pD, i64_w, i32_w]; rfl
                refine one_ (i := 12) (N := some 80) #[true, true, true, true, true, true, true, true, true, true, true, true, true, false, false, false, true, false, false] rfl rfl (by kernel_rfl) (by decide) ?_
                · intro K hK
                  refine goes_ Tryz.func10 (by kernel_rfl) rfl #[.agg #[.int .u64 NA.1, .int .u64 NA.2], .agg #[.int .u64 NB.1, .int .u64 NB.2], .agg #[.int .u64 NC.1, .int .u64 NC.2], .agg #[.int .u64 ND.1, .int .u64 ND.2]] (by rfl) rfl rfl (by first | rfl | (simp [Act.eval]; done) | (simp [Act.eval]; done) | (go_simp; rfl)) ?_
                  with_reducible refine (H5.out _).mono ?_
                  rintro e wc6 ⟨rfl, hb6⟩
                  (try replace k7 := (hb6.block _ (heap_lt k7)).trans k7)
                  refine ⟨_, rfl, ?_⟩
                  refine hK.out _ _ (by exact hHeld.trans (hb6.mono hHeld.size)) (fun hHeld => ?_)
                  clear hK K
                  refine nm ?_ ?_ ?_; rotate_left
                  · simp only [pA, pB, pC, pD, i64_w, i32_w]; rfl
                  refine pure_ (i := 13) (N := some 67) (v := ?_) (a' := ?_) #[true, true, true, true, true, true, true, true, true, true, true, true, true, true, false, false, true, false, false] rfl rfl (by kernel_rfl) (fun _ _ _ h => h) (Or.inl ⟨by rfl, ?_⟩) ?_ ?_
                  rotate_left
                  · intro w'
                    go_simp
                    with_reducible rfl
                  rotate_left
                  · simp only [pA, pB, pC, pD, i64_w, i32_w]; rfl
                  refine pure_ (i := 14) (N := some 81) (v := ?_) (a' := ?_) #[true, true, true, true, true, true, true, true, true, true, true, true, true, true, true, false, true, false, false] rfl rfl (by kernel_rfl) (fun _ _ _ h => h) (Or.inl ⟨by rfl, ?_⟩) ?_ ?_
                  rotate_left
                  · intro w'
                    go_simp
                    with_reducible rfl
                  rotate_left
                  · simp only [pA, pB, pC, pD, i64_w, i32_w]; rfl
                  refine pure_ (i := 15) (N := some 82) (v := ?_) (a' := ?_) #[true, true, true, true, true, true, true, true, true, true, true, true, true, true, true, true, true, false, false] rfl rfl (by kernel_rfl) (fun _ _ _ h => h) (Or.inl ⟨by rfl, ?_⟩) ?_ ?_
                  rotate_left
                  · intro w'
                    go_simp
                    with_reducible rfl
                  rotate_left
                  · simp only [pA, pB, pC, pD, i64_w, i32_w]; rfl
                  exact norm_ (by simp only [putAll, pA, pB, pC, pD]) (J _ _ ⟨k7, m7, hHeld⟩)
        · intro K hK
          refine value_ (v := .pointer (some ⟨wc1.heap.size, 0, none⟩)) (w1 := wc1.alloc (.cells #[.int .i64 0, .bool false, .int .u64 0, .int .u64 0, .int .u64 0, .int .u64 0] 29)) (by rfl) rfl ?_ ?_
          · go_simp; (try rfl)
          obtain ⟨wc2, hw2, hb2, hr2⟩ : ∃ x, wc1.alloc (.cells #[.int .i64 0, .bool false, .int .u64 0, .int .u64 0, .int .u64 0, .int .u64 0] 29) = x ∧ Go.RowKit.Below wc1.heap.size wc1 x ∧ x.heap[wc1.heap.size]? = some (.cells #[.int .i64 0, .bool false, .int .u64 0, .int .u64 0, .int .u64 0, .int .u64 0] 29 (0, 0)) := ⟨_, rfl, (Go.RowKit.Below.refl _ _).alloc (Nat.le_refl _) _, alloc_new _ _⟩
          rw [hw2]
          have m7 : v5.heap.size ≤ wc1.heap.size := hHeld.size
          have k7 := hr2
          (try replace k7 := (hb2.block _ (heap_lt k7)).trans k7)
          refine hK.out _ _ (by exact hHeld.trans (hb2.mono hHeld.size)) (fun hHeld => ?_)
          clear hK K
          refine nm ?_ ?_ ?_; rotate_left
          · simp only [pA, pB, pC, pD, i64_w, i32_w]; rfl
          refine one_ (i := 5) (N := some 73) #[true, true, true, true, true, true, true, true, false, true, true, false, false, false, false, false, true, false, false] rfl rfl (by kernel_rfl) (by decide) ?_
          · intro K hK
            refine goes_ Tryz.func23 (by kernel_rfl) rfl #[.agg #[.int .u64 B.1, .int .u64 B.2]] (by rfl) rfl rfl (by first | rfl | (simp [Act.eval]; done) | (simp [Act.eval]; done) | (go_simp; rfl)) ?_
            with_reducible refine (T2.out _).mono ?_
            rintro e wc3 ⟨rfl, hb3⟩
            (try replace k7 := (hb3.block _ (heap_lt k7)).trans k7)
            refine ⟨_, rfl, ?_⟩
            refine hK.out _ _ (by exact hHeld.trans (hb3.mono hHeld.size)) (fun hHeld => ?_)
            clear hK K
            refine nm ?_ ?_ ?_; rotate_left
            · simp only [pA, pB, pC, pD, i64_w, i32_w]; rfl
            refine one_ (i := 8) (N := some 76) #[true, true, true, true, true, true, true, true, true, true, true, false, false, false, false, false, true, false, false] rfl rfl (by kernel_rfl) (by decide) ?_
            · intro K hK
              refine goes_ Tryz.func23 (by kernel_rfl) rfl #[.agg #[.int .u64 C.1, .int .u64 C.2]] (by rfl) rfl rfl (by first | rfl | (simp [Act.eval]; done) | (simp [Act.eval]; done) | (go_simp; rfl)) ?_
              with_reducible refine (T3.out _).mono ?_
              rintro e wc4 ⟨rfl, hb4⟩
              (try replace k7 := (hb4.block _ (heap_lt k7)).trans k7)
              refine ⟨_, rfl, ?_⟩
              refine hK.out _ _ (by exact hHeld.trans (hb4.mono hHeld.size)) (fun hHeld => ?_)
              clear hK K
              refine nm ?_ ?_ ?_; rotate_left
              · simp only [pA, pB, pC, pD, i64_w, i32_w]; rfl
              refine one_ (i := 11) (N := some 79) #[true, true, true, true, true, true, true, true, true, true, true, true, false, false, false, false, true, false, false] rfl rfl (by kernel_rfl) (by decide) ?_
              · intro K hK
                refine goes_ Tryz.func23 (by kernel_rfl) rfl #[.agg #[.int .u64 D.1, .int .u64 D.2]] (by rfl) rfl rfl (by first | rfl | (simp [Act.eval]; done) | (simp [Act.eval]; done) | (go_simp; rfl)) ?_
                with_reducible refine (T4.out _).mono ?_
                rintro e wc5 ⟨rfl, hb5⟩
                (try replace k7 := (hb5.block _ (heap_lt k7)).trans k7)
                refine ⟨_, rfl, ?_⟩
                refine hK.out _ _ (by exact hHeld.trans (hb5.mono hHeld.size)) (fun hHeld => ?_)
                clear hK K
                refine nm ?_ ?_ ?_; rotate_left
                · simp only [pA, pB, pC, pD, i64_w, i32_w]; rfl
                refine one_ (i := 12) (N := some 80) #[true, true, true, true, true, true, true, true, true, true, true, true, true, false, false, false, true, false, false] rfl rfl (by kernel_rfl) (by decide) ?_
                · intro K hK
                  refine goes_ Tryz.func10 (by kernel_rfl) rfl #[.agg #[.int .u64 NA.1, .int .u64 NA.2], .agg #[.int .u64 NB.1, .int .u64 NB.2], .agg #[.int .u64 NC.1, .int .u64 NC.2], .agg #[.int .u64 ND.1, .int .u64 ND.2]] (by rfl) rfl rfl (by first | rfl | (simp [Act.eval]; done) | (simp [Act.eval]; done) | (go_simp; rfl)) ?_
                  with_reducible refine (H5.out _).mono ?_
                  rintro e wc6 ⟨rfl, hb6⟩
                  (try replace k7 := (hb6.block _ (heap_lt k7)).trans k7)
                  refine ⟨_, rfl, ?_⟩
                  refine hK.out _ _ (by exact hHeld.trans (hb6.mono hHeld.size)) (fun hHeld => ?_)
                  clear hK K
                  refine nm ?_ ?_ ?_; rotate_left
                  · simp only [pA, pB, pC, pD, i64_w, i32_w]; rfl
                  refine pure_ (i := 13) (N := some 67) (v := ?_) (a' := ?_) #[true, true, true, true, true, true, true, true, true, true, true, true, true, true, false, false, true, false, false] rfl rfl (by kernel_rfl) (fun _ _ _ h => h) (Or.inl ⟨by rfl, ?_⟩) ?_ ?_
                  rotate_left
                  · intro w'
                    go_simp
                    with_reducible rfl
                  rotate_left
                  · simp only [pA, pB, pC, pD, i64_w, i32_w]; rfl
                  refine pure_ (i := 14) (N := some 81) (v := ?_) (a' := ?_) #[true, true, true, true, true, true, true, true, true, true, true, true, true, true, true, false, true, false, false] rfl rfl (by kernel_rfl) (fun _ _ _ h => h) (Or.inl ⟨by rfl, ?_⟩) ?_ ?_
                  rotate_left
                  · intro w'
                    go_simp
                    with_reducible rfl
                  rotate_left
                  · simp only [pA, pB, pC, pD, i64_w, i32_w]; rfl
                  refine pure_ (i := 15) (N := some 82) (v := ?_) (a' := ?_) #[true, true, true, true, true, true, true, true, true, true, true, true, true, true, true, true, true, false, false] rfl rfl (by kernel_rfl) (fun _ _ _ h => h) (Or.inl ⟨by rfl, ?_⟩) ?_ ?_
                  rotate_left
                  · intro w'
                    go_simp
                    with_reducible rfl
                  rotate_left
                  · simp only [pA, pB, pC, pD, i64_w, i32_w]; rfl
                  exact norm_ (by simp only [putAll, pA, pB, pC, pD]) (J _ _ ⟨k7, m7, hHeld⟩)
      · intro K hK
        refine value_ (v := .pointer (some ⟨wc0.heap.size, 0, none⟩)) (w1 := wc0.alloc (.cells #[.int .i64 0, .bool false, .int .u64 0, .int .u64 0, .int .u64 0, .int .u64 0] 29)) (by rfl) rfl ?_ ?_
        · go_simp; (try rfl)
        obtain ⟨wc1, hw1, hb1, hr1⟩ : ∃ x, wc0.alloc (.cells #[.int .i64 0, .bool false, .int .u64 0, .int .u64 0, .int .u64 0, .int .u64 0] 29) = x ∧ Go.RowKit.Below wc0.heap.size wc0 x ∧ x.heap[wc0.heap.size]? = some (.cells #[.int .i64 0, .bool false, .int .u64 0, .int .u64 0, .int .u64 0, .int .u64 0] 29 (0, 0)) := ⟨_, rfl, (Go.RowKit.Below.refl _ _).alloc (Nat.le_refl _) _, alloc_new _ _⟩
        rw [hw1]
        have m7 : v5.heap.size ≤ wc0.heap.size := hHeld.size
        have k7 := hr1
        (try replace k7 := (hb1.block _ (heap_lt k7)).trans k7)
        refine hK.out _ _ (by exact hHeld.trans (hb1.mono hHeld.size)) (fun hHeld => ?_)
        clear hK K
        refine nm ?_ ?_ ?_; rotate_left
        · simp only [pA, pB, pC, pD, i64_w, i32_w]; rfl
        refine one_ (i := 2) (N := some 70) #[true, true, true, true, true, false, true, true, false, true, true, false, false, false, false, false, true, false, false] rfl rfl (by kernel_rfl) (by decide) ?_
        · intro K hK
          refine goes_ Tryz.func23 (by kernel_rfl) rfl #[.agg #[.int .u64 A.1, .int .u64 A.2]] (by rfl) rfl rfl (by first | rfl | (simp [Act.eval]; done) | (simp [Act.eval]; done) | (go_simp; rfl)) ?_
          with_reducible refine (T1.out _).mono ?_
          rintro e wc2 ⟨rfl, hb2⟩
          (try replace k7 := (hb2.block _ (heap_lt k7)).trans k7)
          refine ⟨_, rfl, ?_⟩
          refine hK.out _ _ (by exact hHeld.trans (hb2.mono hHeld.size)) (fun hHeld => ?_)
          clear hK K
          refine nm ?_ ?_ ?_; rotate_left
          · simp only [pA, pB, pC, pD, i64_w, i32_w]; rfl
          refine one_ (i := 5) (N := some 73) #[true, true, true, true, true, true, true, true, false, true, true, false, false, false, false, false, true, false, false] rfl rfl (by kernel_rfl) (by decide) ?_
          · intro K hK
            refine goes_ Tryz.func23 (by kernel_rfl) rfl #[.agg #[.int .u64 B.1, .int .u64 B.2]] (by rfl) rfl rfl (by first | rfl | (simp [Act.eval]; done) | (simp [Act.eval]; done) | (go_simp; rfl)) ?_
            with_reducible refine (T2.out _).mono ?_
            rintro e wc3 ⟨rfl, hb3⟩
            (try replace k7 := (hb3.block _ (heap_lt k7)).trans k7)
            refine ⟨_, rfl, ?_⟩
            refine hK.out _ _ (by exact hHeld.trans (hb3.mono hHeld.size)) (fun hHeld => ?_)
            clear hK K
            refine nm ?_ ?_ ?_; rotate_left
            · simp only [pA, pB, pC, pD, i64_w, i32_w]; rfl
            refine one_ (i := 8) (N := some 76) #[true, true, true, true, true, true, true, true, true, true, true, false, false, false, false, false, true, false, false] rfl rfl (by kernel_rfl) (by decide) ?_
            · intro K hK
              refine goes_ Tryz.func23 (by kernel_rfl) rfl #[.agg #[.int .u64 C.1, .int .u64 C.2]] (by rfl) rfl rfl (by first | rfl | (simp [Act.eval]; done) | (simp [Act.eval]; done) | (go_simp; rfl)) ?_
              with_reducible refine (T3.out _).mono ?_
              rintro e wc4 ⟨rfl, hb4⟩
              (try replace k7 := (hb4.block _ (heap_lt k7)).trans k7)
              refine ⟨_, rfl, ?_⟩
              refine hK.out _ _ (by exact hHeld.trans (hb4.mono hHeld.size)) (fun hHeld => ?_)
              clear hK K
              refine nm ?_ ?_ ?_; rotate_left
              · simp only [pA, pB, pC, pD, i64_w, i32_w]; rfl
              refine one_ (i := 11) (N := some 79) #[true, true, true, true, true, true, true, true, true, true, true, true, false, false, false, false, true, false, false] rfl rfl (by kernel_rfl) (by decide) ?_
              · intro K hK
                refine goes_ Tryz.func23 (by kernel_rfl) rfl #[.agg #[.int .u64 D.1, .int .u64 D.2]] (by rfl) rfl rfl (by first | rfl | (simp [Act.eval]; done) | (simp [Act.eval]; done) | (go_simp; rfl)) ?_
                with_reducible refine (T4.out _).mono ?_
                rintro e wc5 ⟨rfl, hb5⟩
                (try replace k7 := (hb5.block _ (heap_lt k7)).trans k7)
                refine ⟨_, rfl, ?_⟩
                refine hK.out _ _ (by exact hHeld.trans (hb5.mono hHeld.size)) (fun hHeld => ?_)
                clear hK K
                refine nm ?_ ?_ ?_; rotate_left
                · simp only [pA, pB, pC, pD, i64_w, i32_w]; rfl
                refine one_ (i := 12) (N := some 80) #[true, true, true, true, true, true, true, true, true, true, true, true, true, false, false, false, true, false, false] rfl rfl (by kernel_rfl) (by decide) ?_
                · intro K hK
                  refine goes_ Tryz.func10 (by kernel_rfl) rfl #[.agg #[.int .u64 NA.1, .int .u64 NA.2], .agg #[.int .u64 NB.1, .int .u64 NB.2], .agg #[.int .u64 NC.1, .int .u64 NC.2], .agg #[.int .u64 ND.1, .int .u64 ND.2]] (by rfl) rfl rfl (by first | rfl | (simp [Act.eval]; done) | (simp [Act.eval]; done) | (go_simp; rfl)) ?_
                  with_reducible refine (H5.out _).mono ?_
                  rintro e wc6 ⟨rfl, hb6⟩
                  (try replace k7 := (hb6.block _ (heap_lt k7)).trans k7)
                  refine ⟨_, rfl, ?_⟩
                  refine hK.out _ _ (by exact hHeld.trans (hb6.mono hHeld.size)) (fun hHeld => ?_)
                  clear hK K
                  refine nm ?_ ?_ ?_; rotate_left
                  · simp only [pA, pB, pC, pD, i64_w, i32_w]; rfl
                  refine pure_ (i := 13) (N := some 67) (v := ?_) (a' := ?_) #[true, true, true, true, true, true, true, true, true, true, true, true, true, true, false, false, true, false, false] rfl rfl (by kernel_rfl) (fun _ _ _ h => h) (Or.inl ⟨by rfl, ?_⟩) ?_ ?_
                  rotate_left
                  · intro w'
                    go_simp
                    with_reducible rfl
                  rotate_left
                  · simp only [pA, pB, pC, pD, i64_w, i32_w]; rfl
                  refine pure_ (i := 14) (N := some 81) (v := ?_) (a' := ?_) #[true, true, true, true, true, true, true, true, true, true, true, true, true, true, true, false, true, false, false] rfl rfl (by kernel_rfl) (fun _ _ _ h => h) (Or.inl ⟨by rfl, ?_⟩) ?_ ?_
                  rotate_left
                  · intro w'
                    go_simp
                    with_reducible rfl
                  rotate_left
                  · simp only [pA, pB, pC, pD, i64_w, i32_w]; rfl
                  refine pure_ (i := 15) (N := some 82) (v := ?_) (a' := ?_) #[true, true, true, true, true, true, true, true, true, true, true, true, true, true, true, true, true, false, false] rfl rfl (by kernel_rfl) (fun _ _ _ h => h) (Or.inl ⟨by rfl, ?_⟩) ?_ ?_
                  rotate_left
                  · intro w'
                    go_simp
                    with_reducible rfl
                  rotate_left
                  · simp only [pA, pB, pC, pD, i64_w, i32_w]; rfl
                  exact norm_ (by simp only [putAll, pA, pB, pC, pD]) (J _ _ ⟨k7, m7, hHeld⟩)
    rintro gn wj ⟨k7, m7, hHeld⟩
    have HJJ := Lib.hid (And.intro k7 (And.intro m7 hHeld))
    clear k7 m7 hHeld
    refine nm ?_ ?_ ?_; rotate_left
    · simp only [putAll, pA, pB, pC, pD]; rfl
    refine last_ (i := 17) (N := none) #[true, true, true, true, true, true, true, true, true, true, true, true, true, true, true, true, true, true, false] rfl rfl (by kernel_rfl) (by decide) (fun K hK => ?_)
    obtain ⟨z0, z1, z2, z3, z4, z5, z6, z7, z8, z9, z10, z11⟩ := row6 HJJ.out.1
    refine skip_ (w1 := ?_) (by rfl) rfl ?_ ?_
    rotate_left
    · go_simp
      rfl
    refine hK.out _ _ ?_
    clear hK K
    refine pu 18 12 ?_ ?_ rfl rfl (by kernel_rfl) (fun _ _ _ h => h) (by rfl) (fun _ => ?_) ?_ ?_; rotate_left 2
    · go_simp; with_reducible rfl
    · simp only [pA, pB, pC, pD, i64_w, i32_w]; rfl
    refine done_ (by kernel_rfl) ?_
    obtain ⟨k7, m7, hHeld⟩ := HJJ.out
    have hs6 := ((((((hHeld).setCell (show v5.heap.size ≤ (⟨gn, 0, none⟩ : Addr).block from m7) (.int .i64 m5.kind)).setCell (show v5.heap.size ≤ (⟨gn, 1, none⟩ : Addr).block from m7) (.bool m5.proper)).setCell (show v5.heap.size ≤ (⟨gn, 2, none⟩ : Addr).block from m7) (.int .u64 m5.P.1)).setCell (show v5.heap.size ≤ (⟨gn, 3, none⟩ : Addr).block from m7) (.int .u64 m5.P.2)).setCell (show v5.heap.size ≤ (⟨gn, 4, none⟩ : Addr).block from m7) (.int .u64 m5.Q.1)).setCell (show v5.heap.size ≤ (⟨gn, 5, none⟩ : Addr).block from m7) (.int .u64 m5.Q.2)
    have hn6 := heap_set_sixr k7 (.int .i64 m5.kind) (.bool m5.proper) (.int .u64 m5.P.1) (.int .u64 m5.P.2) (.int .u64 m5.Q.1) (.int .u64 m5.Q.2)
    have HQ := Lib.hid (And.intro hs6 hn6)
    clear k7 hHeld hs6 hn6 HJJ z0 z1 z2 z3 z4 z5 z6 z7 z8 z9 z10 z11
    go_wp2_with fail
    go_meet
    exact ⟨gn, rfl, rfl, HQ.out.1, HQ.out.2⟩
  case rest =>
  obtain ⟨gn, rfl, rfl, hb, hrow⟩ := hcut
  generalize wc = v6 at *
  have hm := (HM.out.keep hb).add hrow
  clear HM hb hrow HLT HFO
  have HM := Lib.hid hm
  clear hm
  have HK := Lib.hid (lAlive v6)
  (try unfold qv at HK)
  (try unfold pt at HK)
  (try unfold mv at HK)
  ((try dsimp only); repeat (first | go_values | go_skip | go_guarded | go_step | go_upon))
  refine HK.out.mono ?_
  rintro e w7 ⟨rfl, hb⟩
  have hm := (HM.out.keep hb)
  clear HK HM hb  
  go_upto_region 9 with (fail)
  have HM := Lib.hid hm
  clear hm
  obtain ⟨c1_0, c1_1, c1_2, c1_3, c1_4, c1_5, c1_6, c1_7, c1_8, c1_9, c1_10, c1_11⟩ := row6 (HM.out.l 1 _ _ rfl)
  obtain ⟨c2_0, c2_1, c2_2, c2_3, c2_4, c2_5, c2_6, c2_7, c2_8, c2_9, c2_10, c2_11⟩ := row6 (HM.out.l 2 _ _ rfl)
  have HK := Lib.hid (L1.out w7)
  (try unfold qv at HK)
  (try unfold pt at HK)
  (try unfold mv at HK)
  ((try dsimp only); repeat (first | go_values | go_skip | go_guarded | go_step | go_upon))
  refine HK.out.mono ?_
  rintro e w8 ⟨rfl, hb⟩
  have hm := (HM.out.keep hb)
  clear HK HM hb  c1_0 c1_1 c1_2 c1_3 c1_4 c1_5 c1_6 c1_7 c1_8 c1_9 c1_10 c1_11 c2_0 c2_1 c2_2 c2_3 c2_4 c2_5 c2_6 c2_7 c2_8 c2_9 c2_10 c2_11
  have HM := Lib.hid hm
  clear hm
  obtain ⟨c1_0, c1_1, c1_2, c1_3, c1_4, c1_5, c1_6, c1_7, c1_8, c1_9, c1_10, c1_11⟩ := row6 (HM.out.l 1 _ _ rfl)
  obtain ⟨c3_0, c3_1, c3_2, c3_3, c3_4, c3_5, c3_6, c3_7, c3_8, c3_9, c3_10, c3_11⟩ := row6 (HM.out.l 3 _ _ rfl)
  have HK := Lib.hid (L2.out w8)
  (try unfold qv at HK)
  (try unfold pt at HK)
  (try unfold mv at HK)
  ((try dsimp only); repeat (first | go_values | go_skip | go_guarded | go_step | go_upon))
  refine HK.out.mono ?_
  rintro e w9 ⟨rfl, hb⟩
  have hm := (HM.out.keep hb)
  clear HK HM hb  c1_0 c1_1 c1_2 c1_3 c1_4 c1_5 c1_6 c1_7 c1_8 c1_9 c1_10 c1_11 c3_0 c3_1 c3_2 c3_3 c3_4 c3_5 c3_6 c3_7 c3_8 c3_9 c3_10 c3_11
  have HM := Lib.hid hm
  clear hm
  obtain ⟨c1_0, c1_1, c1_2, c1_3, c1_4, c1_5, c1_6, c1_7, c1_8, c1_9, c1_10, c1_11⟩ := row6 (HM.out.l 1 _ _ rfl)
  obtain ⟨c4_0, c4_1, c4_2, c4_3, c4_4, c4_5, c4_6, c4_7, c4_8, c4_9, c4_10, c4_11⟩ := row6 (HM.out.l 4 _ _ rfl)
  have HK := Lib.hid (L3.out w9)
  (try unfold qv at HK)
  (try unfold pt at HK)
  (try unfold mv at HK)
  ((try dsimp only); repeat (first | go_values | go_skip | go_guarded | go_step | go_upon))
  refine HK.out.mono ?_
  rintro e w10 ⟨rfl, hb⟩
  have hm := (HM.out.keep hb)
  clear HK HM hb  c1_0 c1_1 c1_2 c1_3 c1_4 c1_5 c1_6 c1_7 c1_8 c1_9 c1_10 c1_11 c4_0 c4_1 c4_2 c4_3 c4_4 c4_5 c4_6 c4_7 c4_8 c4_9 c4_10 c4_11
  have HM := Lib.hid hm
  clear hm
  obtain ⟨c1_0, c1_1, c1_2, c1_3, c1_4, c1_5, c1_6, c1_7, c1_8, c1_9, c1_10, c1_11⟩ := row6 (HM.out.l 1 _ _ rfl)
  obtain ⟨c5_0, c5_1, c5_2, c5_3, c5_4, c5_5, c5_6, c5_7, c5_8, c5_9, c5_10, c5_11⟩ := row6 (HM.out.l 5 _ _ rfl)
  have HK := Lib.hid (L4.out w10)
  (try unfold qv at HK)
  (try unfold pt at HK)
  (try unfold mv at HK)
  ((try dsimp only); repeat (first | go_values | go_skip | go_guarded | go_step | go_upon))
  refine HK.out.mono ?_
  rintro e w11 ⟨rfl, hb⟩
  have hm := (HM.out.keep hb)
  clear HK HM hb  c1_0 c1_1 c1_2 c1_3 c1_4 c1_5 c1_6 c1_7 c1_8 c1_9 c1_10 c1_11 c5_0 c5_1 c5_2 c5_3 c5_4 c5_5 c5_6 c5_7 c5_8 c5_9 c5_10 c5_11
  go_upto_region 11 with (fail)
  have HM := Lib.hid hm
  clear hm
  rcases XX.out with ⟨x1, x2⟩ | ⟨x1, x2⟩
  · have X1 := Lib.hid x1
    have X2 := Lib.hid x2
    clear XX x1 x2
    unfold pt at X1 X2
    obtain ⟨c0_0, c0_1, c0_2, c0_3, c0_4, c0_5, c0_6, c0_7⟩ := row8 (HM.out.l 0 _ _ rfl)
    have HK := Lib.hid (X1.out w11)
    (try unfold qv at HK)
    ((try dsimp only); repeat (first | go_values | go_skip | go_guarded | go_step | go_upon))
    refine HK.out.mono ?_
    rintro e w12 ⟨rfl, hb⟩
    have hm : Mem w.heap.size w ((w12.alloc (.cells #[.bool false, .slice none 0 0, .slice none 0 0] 45)).alloc (.cells #[.bool false, .slice none 0 0, .slice none 0 0] 45)) _ _ := ((HM.out.keep hb).alloc zo).alloc zo
    rw [World.size_alloc] at hm
    clear HM HK hb c0_0 c0_1 c0_2 c0_3 c0_4 c0_5 c0_6 c0_7
    go_upto_region 12 with (fail)
    generalize (World.alloc (World.alloc w12 _) _) = v12 at *
    have HM := Lib.hid hm
    clear hm
    obtain ⟨c0_0, c0_1, c0_2, c0_3, c0_4, c0_5, c0_6, c0_7⟩ := row8 (HM.out.l 0 _ _ rfl)
    have HK := Lib.hid (X2.out v12)
    (try unfold qv at HK)
    ((try dsimp only); repeat (first | go_values | go_skip | go_guarded | go_step | go_upon))
    refine HK.out.mono ?_
    rintro e w13 ⟨rfl, hb⟩
    have hm : Mem w.heap.size w ((w13.alloc (.cells #[.bool false, .slice none 0 0, .slice none 0 0] 45)).alloc (.cells #[.bool false, .slice none 0 0, .slice none 0 0] 45)) _ _ := ((HM.out.keep hb).alloc zo).alloc zo
    rw [World.size_alloc] at hm
    clear HM HK hb c0_0 c0_1 c0_2 c0_3 c0_4 c0_5 c0_6 c0_7
    go_upto_region 13 with (fail)
    generalize (World.alloc (World.alloc w13 _) _) = v13 at *
    have HM := Lib.hid hm
    clear hm
    obtain ⟨c6_0, c6_1, c6_2, c6_3, c6_4, c6_5⟩ := row3 (HM.out.l 6 _ _ rfl)
    obtain ⟨c8_0, c8_1, c8_2, c8_3, c8_4, c8_5⟩ := row3 (HM.out.l 8 _ _ rfl)
    have HK := Lib.hid (lOne false none none none none [] [] 0 0 v13 WordsIn.nil WordsIn.nil WordsIn.nil WordsIn.nil (Nat.zero_le _) (Nat.zero_le _) (Nat.zero_le _))
    (try unfold qv at HK)
    (try unfold pt at HK)
    (try unfold mv at HK)
    ((try dsimp only); repeat (first | go_values | go_skip | go_guarded | go_step | go_upon))
    refine HK.out.mono ?_
    rintro e w14 ⟨rfl, hb⟩
    have hm := (HM.out.keep hb)
    clear HK HM hb  c6_0 c6_1 c6_2 c6_3 c6_4 c6_5 c8_0 c8_1 c8_2 c8_3 c8_4 c8_5
    have HM := Lib.hid hm
    clear hm
    obtain ⟨c7_0, c7_1, c7_2, c7_3, c7_4, c7_5⟩ := row3 (HM.out.l 7 _ _ rfl)
    obtain ⟨c9_0, c9_1, c9_2, c9_3, c9_4, c9_5⟩ := row3 (HM.out.l 9 _ _ rfl)
    have HK := Lib.hid (lOne false none none none none [] [] 0 0 w14 WordsIn.nil WordsIn.nil WordsIn.nil WordsIn.nil (Nat.zero_le _) (Nat.zero_le _) (Nat.zero_le _))
    (try unfold qv at HK)
    (try unfold pt at HK)
    (try unfold mv at HK)
    ((try dsimp only); repeat (first | go_values | go_skip | go_guarded | go_step | go_upon))
    refine HK.out.mono ?_
    rintro e w15 ⟨rfl, hb⟩
    have hm := (HM.out.keep hb)
    clear HK HM hb  c7_0 c7_1 c7_2 c7_3 c7_4 c7_5 c9_0 c9_1 c9_2 c9_3 c9_4 c9_5
    ((try dsimp only); repeat (first | go_values | go_skip | go_guarded | go_step | go_upon))
    go_ret
    exact ⟨rfl, hm.b⟩
  · have X1 := Lib.hid x1
    have X2 := Lib.hid x2
    clear XX x1 x2
    unfold pt at X1 X2
    obtain ⟨c0_0, c0_1, c0_2, c0_3, c0_4, c0_5, c0_6, c0_7⟩ := row8 (HM.out.l 0 _ _ rfl)
    have HK := Lib.hid (X1.out w11)
    (try unfold qv at HK)
    ((try dsimp only); repeat (first | go_values | go_skip | go_guarded | go_step | go_upon))
    refine HK.out.mono ?_
    rintro e w12 ⟨E12, F12, G12, I12, rfl, hf1, hf2, hb⟩
    have hm : Mem w.heap.size w ((w12.alloc (.cells #[.bool (decide (x.num < 0)), .slice E12 (qn x).length (qn x).length, .slice F12 (qd x).length (qd x).length] 45)).alloc (.cells #[.bool (decide (y.num < 0)), .slice G12 (qn y).length (qn y).length, .slice I12 (qd y).length (qd y).length] 45)) _ _ := ((((HM.out.keep hb).rat HM.out.z hf1).rat HM.out.z hf2).alloc (qo E12 F12 x)).alloc (qo G12 I12 y)
    rw [World.size_alloc] at hm
    clear HM HK hb hf1 hf2 c0_0 c0_1 c0_2 c0_3 c0_4 c0_5 c0_6 c0_7
    go_upto_region 12 with (fail)
    generalize (World.alloc (World.alloc w12 _) _) = v12 at *
    have HM := Lib.hid hm
    clear hm
    obtain ⟨c0_0, c0_1, c0_2, c0_3, c0_4, c0_5, c0_6, c0_7⟩ := row8 (HM.out.l 0 _ _ rfl)
    have HK := Lib.hid (X2.out v12)
    (try unfold qv at HK)
    ((try dsimp only); repeat (first | go_values | go_skip | go_guarded | go_step | go_upon))
    refine HK.out.mono ?_
    rintro e w13 ⟨E13, F13, G13, I13, rfl, hf1, hf2, hb⟩
    have hm : Mem w.heap.size w ((w13.alloc (.cells #[.bool (decide (x.num < 0)), .slice E13 (qn x).length (qn x).length, .slice F13 (qd x).length (qd x).length] 45)).alloc (.cells #[.bool (decide (y.num < 0)), .slice G13 (qn y).length (qn y).length, .slice I13 (qd y).length (qd y).length] 45)) _ _ := ((((HM.out.keep hb).rat HM.out.z hf1).rat HM.out.z hf2).alloc (qo E13 F13 x)).alloc (qo G13 I13 y)
    rw [World.size_alloc] at hm
    clear HM HK hb hf1 hf2 c0_0 c0_1 c0_2 c0_3 c0_4 c0_5 c0_6 c0_7
    go_upto_region 13 with (fail)
    generalize (World.alloc (World.alloc w13 _) _) = v13 at *
    have HM := Lib.hid hm
    clear hm
    obtain ⟨c6_0, c6_1, c6_2, c6_3, c6_4, c6_5⟩ := HM.out.qrow 6 rfl
    obtain ⟨c8_0, c8_1, c8_2, c8_3, c8_4, c8_5⟩ := HM.out.qrow 8 rfl
    have HK := Lib.hid (lOne (decide (x.num < 0)) E12 F12 E13 F13 (qn x) (qd x) w.heap.size v13.heap.size v13 (HM.out.ins 0 rfl).n (HM.out.ins 0 rfl).d (HM.out.ins 2 rfl).n (HM.out.ins 2 rfl).d (Nat.le_refl _) (by omega) (by omega))
    (try unfold qv at HK)
    (try unfold pt at HK)
    (try unfold mv at HK)
    ((try dsimp only); repeat (first | go_values | go_skip | go_guarded | go_step | go_upon))
    refine HK.out.mono ?_
    rintro e w14 ⟨rfl, hb⟩
    have hm := (HM.out.keep hb)
    clear HK HM hb  c6_0 c6_1 c6_2 c6_3 c6_4 c6_5 c8_0 c8_1 c8_2 c8_3 c8_4 c8_5
    have HM := Lib.hid hm
    clear hm
    obtain ⟨c7_0, c7_1, c7_2, c7_3, c7_4, c7_5⟩ := HM.out.qrow 7 rfl
    obtain ⟨c9_0, c9_1, c9_2, c9_3, c9_4, c9_5⟩ := HM.out.qrow 9 rfl
    have HK := Lib.hid (lOne (decide (y.num < 0)) G12 I12 G13 I13 (qn y) (qd y) w.heap.size w14.heap.size w14 (HM.out.ins 1 rfl).n (HM.out.ins 1 rfl).d (HM.out.ins 3 rfl).n (HM.out.ins 3 rfl).d (Nat.le_refl _) (by omega) (by omega))
    (try unfold qv at HK)
    (try unfold pt at HK)
    (try unfold mv at HK)
    ((try dsimp only); repeat (first | go_values | go_skip | go_guarded | go_step | go_upon))
    refine HK.out.mono ?_
    rintro e w15 ⟨rfl, hb⟩
    have hm := (HM.out.keep hb)
    clear HK HM hb  c7_0 c7_1 c7_2 c7_3 c7_4 c7_5 c9_0 c9_1 c9_2 c9_3 c9_4 c9_5
    ((try dsimp only); repeat (first | go_values | go_skip | go_guarded | go_step | go_upon))
    go_ret
    exact ⟨rfl, hm.b⟩
end Go.Proofs.YtggfppgjabembaaGreatDoor

namespace Go.Proofs.YtggfppgjabembaaGreatDoor
open Go.RowKit
set_option linter.unusedVariables false
def TT (a b c d p : Pl) : Prop := btw a b p = true ∧ btw c d p = true ∧ (p = a ∨ p = b ∨ p = c ∨ p = d)
def nP (p : Pl) : Pl := (-p.1, -p.2)
theorem TT_ab {a b c d p : Pl} : TT a b c d p ↔ TT b a c d p := by
  unfold TT; rw [btw_swap a b]
  exact ⟨fun ⟨h1, h2, h3⟩ => ⟨h1, h2, by rcases h3 with h | h | h | h <;> simp [h]⟩, fun ⟨h1, h2, h3⟩ => ⟨h1, h2, by rcases h3 with h | h | h | h <;> simp [h]⟩⟩
theorem TT_cd {a b c d p : Pl} : TT a b c d p ↔ TT a b d c p := by
  unfold TT; rw [btw_swap c d]
  exact ⟨fun ⟨h1, h2, h3⟩ => ⟨h1, h2, by rcases h3 with h | h | h | h <;> simp [h]⟩, fun ⟨h1, h2, h3⟩ => ⟨h1, h2, by rcases h3 with h | h | h | h <;> simp [h]⟩⟩
theorem TT_sw {a b c d p : Pl} : TT a b c d p ↔ TT c d a b p := by
  unfold TT
  exact ⟨fun ⟨h1, h2, h3⟩ => ⟨h2, h1, by rcases h3 with h | h | h | h <;> simp [h]⟩, fun ⟨h1, h2, h3⟩ => ⟨h2, h1, by rcases h3 with h | h | h | h <;> simp [h]⟩⟩
theorem icmp_neg (x y : Int) : icmp (-x) (-y) = icmp y x := by
  unfold icmp
  rcases Int.lt_trichotomy x y with h | h | h
  · rw [if_neg (by omega), if_neg (by omega), if_neg (by omega), if_neg (by omega)]
  · rw [if_neg (by omega), if_pos (by omega), if_neg (by omega), if_pos (by omega)]
  · rw [if_pos (by omega), if_pos h]
theorem qcmp_neg (a b : Rat) : qcmp (-a) (-b) = qcmp b a := by
  unfold qcmp
  rw [Rat.neg_num, Rat.neg_num, Rat.neg_den, Rat.neg_den, Int.neg_mul, Int.neg_mul, icmp_neg]
theorem pcmp_neg (a b : Pl) : pcmp (nP a) (nP b) = pcmp b a := by
  unfold pcmp nP
  rw [qcmp_neg, qcmp_neg]
theorem area2_neg (a b c : Pl) : area2 (nP a) (nP b) (nP c) = area2 a b c := by unfold area2 nP; grind
theorem side3_neg (a b c : Pl) : side3 (nP a) (nP b) (nP c) = side3 a b c := by unfold side3; rw [area2_neg]
theorem btw_neg (a b p : Pl) : btw (nP a) (nP b) (nP p) = btw a b p := by
  unfold btw
  rw [side3_neg, pcmp_neg, pcmp_neg, pcmp_swap p a, pcmp_swap b p]
  congr 1
  rw [Bool.eq_iff_iff]
  simp
  omega
theorem nP_inj {a b : Pl} : nP a = nP b ↔ a = b := by
  constructor
  · intro h
    unfold nP at h
    rw [Prod.mk.injEq] at h
    have g1 := h.1
    have g2 := h.2
    exact Prod.ext (by grind) (by grind)
  · rintro rfl; rfl
theorem nP_nP (a : Pl) : nP (nP a) = a := by unfold nP; exact Prod.ext (Rat.neg_neg _) (Rat.neg_neg _)
theorem TT_neg {a b c d p : Pl} : TT (nP a) (nP b) (nP c) (nP d) (nP p) ↔ TT a b c d p := by
  unfold TT
  rw [btw_neg, btw_neg, nP_inj, nP_inj, nP_inj, nP_inj]
theorem ple_anti {a b : Pl} (h : pcmp a b ≤ 0) (k : pcmp b a ≤ 0) : a = b := by
  rw [pcmp_swap b a] at k
  exact pcmp_eq.1 (by omega)
structure Sym (T : Pl → Prop) (m : Mt) : Prop where
  k1 : m.proper = true → m.kind = 1
  k0 : m.proper = false → (∀ p, ¬ T p) → m.kind = 0
  ks : m.proper = false → ∀ p, T p → m.kind ≠ 0 ∧ T (pl m.P) ∧ (m.kind = 1 → p = pl m.P) ∧ (m.kind = 2 → pcmp (pl m.P) p ≤ 0 ∧ pcmp p (pl m.Q) ≤ 0 ∧ pcmp (pl m.P) (pl m.Q) < 0 ∧ T (pl m.Q))
  p0 : m.kind = 0 → pl m.P = (0, 0)
  q0 : m.kind ≠ 2 → pl m.Q = (0, 0)
  kd : m.kind = 0 ∨ m.kind = 1 ∨ m.kind = 2
theorem Sym.congr {T T' : Pl → Prop} {m : Mt} (h : ∀ p, T p ↔ T' p) (s : Sym T m) : Sym T' m := by
  have : T = T' := funext fun p => propext (h p)
  rw [← this]; exact s
theorem sym_same {T : Pl → Prop} {m n : Mt} (hm : Sym T m) (hn : Sym T n) (hp : m.proper = n.proper) (hX : m.proper = true → pl m.P = pl n.P) : m.kind = n.kind ∧ pl m.P = pl n.P ∧ pl m.Q = pl n.Q := by
  cases hh : m.proper
  · have hh2 : n.proper = false := by rw [← hp]; exact hh
    by_cases hT : ∃ p, T p
    · obtain ⟨p, hT⟩ := hT
      have a := hm.ks hh
      have b := hn.ks hh2
      obtain ⟨a1, a2, a3, a4⟩ := a p hT
      obtain ⟨b1, b2, b3, b4⟩ := b p hT
      have one : ∀ {m n : Mt}, (∀ p, T p → m.kind ≠ 0 ∧ T (pl m.P) ∧ (m.kind = 1 → p = pl m.P) ∧ (m.kind = 2 → pcmp (pl m.P) p ≤ 0 ∧ pcmp p (pl m.Q) ≤ 0 ∧ pcmp (pl m.P) (pl m.Q) < 0 ∧ T (pl m.Q))) →
          T (pl n.P) → (n.kind = 2 → pcmp (pl n.P) (pl n.Q) < 0 ∧ T (pl n.Q)) → m.kind = 1 → n.kind = 2 → False := by
        intro m n h hP hQ k1 k2
        have e1 := (h _ hP).2.2.1 k1
        have e2 := (h _ (hQ k2).2).2.2.1 k1
        have := (hQ k2).1
        rw [e1, e2, pcmp_self] at this
        omega
      rcases hm.kd with k | k | k
      · exact absurd k a1
      · rcases hn.kd with k' | k' | k'
        · exact absurd k' b1
        · exact ⟨by rw [k, k'], ((a _ b2).2.2.1 k).symm, by rw [hm.q0 (by omega), hn.q0 (by omega)]⟩
        · exact (one a b2 (fun k => ⟨(b4 k).2.2.1, (b4 k).2.2.2⟩) k k').elim
      · rcases hn.kd with k' | k' | k'
        · exact absurd k' b1
        · exact (one b a2 (fun k => ⟨(a4 k).2.2.1, (a4 k).2.2.2⟩) k' k).elim
        · refine ⟨by rw [k, k'], ple_anti ((a _ b2).2.2.2 k).1 ((b _ a2).2.2.2 k').1, ple_anti ((b _ (a4 k).2.2.2).2.2.2 k').2.1 ((a _ (b4 k').2.2.2).2.2.2 k).2.1⟩
    · have n1 : ∀ p, ¬ T p := fun p h => hT ⟨p, h⟩
      have a := hm.k0 hh n1
      have b := hn.k0 hh2 n1
      exact ⟨by rw [a, b], by rw [hm.p0 a, hn.p0 b], by rw [hm.q0 (by omega), hn.q0 (by omega)]⟩
  · have hh2 : n.proper = true := by rw [← hp]; exact hh
    have a := hm.k1 hh
    have b := hn.k1 hh2
    exact ⟨by rw [a, b], hX hh, by rw [hm.q0 (by omega), hn.q0 (by omega)]⟩
def turnM (n : Mt) : Mt := ⟨n.kind, n.proper, if n.kind = 2 then negP n.Q else negP n.P, if n.kind = 2 then negP n.P else negP n.Q⟩
theorem nP_zero : nP (0, 0) = (0, 0) := by unfold nP; exact Prod.ext (Rat.neg_zero) (Rat.neg_zero)
theorem Sym.turn {T T' : Pl → Prop} {n : Mt} (h : ∀ p, T' (nP p) ↔ T p) (s : Sym T' n) (fP : FinP n.P) (fQ : FinP n.Q) : Sym T (turnM n) := by
  have e1 : pl (negP n.P) = nP (pl n.P) := pl_negP fP
  have e2 : pl (negP n.Q) = nP (pl n.Q) := pl_negP fQ
  have back : ∀ p, T p → T' (nP p) := fun p => (h p).2
  have fwd : ∀ p, T' p → T (nP p) := fun p k => (h _).1 (by rw [nP_nP]; exact k)
  obtain ⟨k1, k0, ks, p0, q0, kd⟩ := s
  refine ⟨k1, fun a b => k0 a fun p k => b _ (fwd p k), fun a p k => ?_, fun a => ?_, fun a => ?_, kd⟩
  · obtain ⟨x1, x2, x3, x4⟩ := ks a _ (back p k)
    have a' : n.proper = false := a
    unfold turnM
    by_cases h2 : n.kind = 2
    · obtain ⟨y1, y2, y3, y4⟩ := x4 h2
      simp only [if_pos h2]
      rw [e1, e2]
      refine ⟨x1, fwd _ y4, fun e => by omega, fun _ => ⟨?_, ?_, ?_, fwd _ x2⟩⟩
      · rw [← nP_nP p, pcmp_neg]; exact y2
      · rw [← nP_nP p, pcmp_neg]; exact y1
      · rw [pcmp_neg]; exact y3
    · simp only [if_neg h2]
      rw [e1]
      exact ⟨x1, fwd _ x2, fun e => by rw [← x3 e, nP_nP], fun e => absurd e h2⟩
  · have a' : n.kind = 0 := a
    unfold turnM
    simp only [if_neg (show ¬ n.kind = 2 by omega)]
    rw [e1, p0 a', nP_zero]
  · have a' : n.kind ≠ 2 := a
    unfold turnM
    simp only [if_neg a']
    rw [e2, q0 a', nP_zero]
theorem pl_zero : pl (0, 0) = (0, 0) := by unfold pl; rw [fval_zero]
theorem loops_sym {s0 s1 t0 t1 : Pt} (hd : ∀ p q, TT (pl s0) (pl s1) (pl t0) (pl t1) p → TT (pl s0) (pl s1) (pl t0) (pl t1) q → p = q) : Sym (TT (pl s0) (pl s1) (pl t0) (pl t1)) (loops s0 s1 t0 t1) := by
  have tk : ∀ x : Pt, TT (pl s0) (pl s1) (pl t0) (pl t1) (pl x) → Sym (TT (pl s0) (pl s1) (pl t0) (pl t1)) (touch x) := fun x hx =>
    ⟨fun _ => rfl, fun _ h => absurd hx (h _), fun _ p hp => ⟨show (1:Int) ≠ 0 by decide, hx, fun _ => hd _ _ hp hx, fun e => by simp [touch] at e⟩, fun e => by simp [touch] at e, fun _ => pl_zero, Or.inr (Or.inl rfl)⟩
  unfold loops
  by_cases x1 : btw (pl s0) (pl s1) (pl t0) = true
  · rw [if_pos x1]; exact tk _ ⟨x1, btw_self _ _, by simp⟩
  rw [if_neg x1]
  by_cases x2 : btw (pl s0) (pl s1) (pl t1) = true
  · rw [if_pos x2]; exact tk _ ⟨x2, btw_other _ _, by simp⟩
  rw [if_neg x2]
  by_cases x3 : btw (pl t0) (pl t1) (pl s0) = true
  · rw [if_pos x3]; exact tk _ ⟨btw_self _ _, x3, by simp⟩
  rw [if_neg x3]
  by_cases x4 : btw (pl t0) (pl t1) (pl s1) = true
  · rw [if_pos x4]; exact tk _ ⟨btw_other _ _, x4, by simp⟩
  rw [if_neg x4]
  refine ⟨fun _ => ?_, fun _ _ => rfl, fun _ p hp => ?_, fun _ => pl_zero, fun _ => pl_zero, Or.inl rfl⟩
  · rename_i h; exact absurd h (by decide)
  · obtain ⟨h1, h2, h3⟩ := hp
    rcases h3 with rfl | rfl | rfl | rfl
    · exact absurd h2 x3
    · exact absurd h2 x4
    · exact absurd h1 x1
    · exact absurd h1 x2
theorem along_sym {r0 r1 q0 q1 : Pt} (hr : pcmp (pl r0) (pl r1) < 0) (hq : pcmp (pl q0) (pl q1) < 0) (h0 : sideP r0 r1 q0 = 0) (h1 : sideP r0 r1 q1 = 0) (h2 : sideP q0 q1 r0 = 0) (h3 : sideP q0 q1 r1 = 0) :
    Sym (TT (pl r0) (pl r1) (pl q0) (pl q1)) (alongR r0 r1 q0 q1) := by
  obtain ⟨l1, l2, l3⟩ := low_is r0 q0
  obtain ⟨g1, g2, g3⟩ := high_is r1 q1
  have lo : ∀ p, TT (pl r0) (pl r1) (pl q0) (pl q1) p → pcmp (pl (lowR r0 q0)) p ≤ 0 ∧ pcmp p (pl (highR r1 q1)) ≤ 0 := by
    rintro p ⟨a, b, _⟩
    have a' := (btw_iff hr (btw_side a)).1 a
    have b' := (btw_iff hq (btw_side b)).1 b
    refine ⟨?_, ?_⟩
    · rcases l1 with e | e <;> rw [e]; exact a'.1; exact b'.1
    · rcases g1 with e | e <;> rw [e]; exact a'.2; exact b'.2
  have tl : pcmp (pl (lowR r0 q0)) (pl (highR r1 q1)) ≤ 0 → TT (pl r0) (pl r1) (pl q0) (pl q1) (pl (lowR r0 q0)) := by
    intro hle
    rcases l1 with e | e
    · rw [e] at l3 hle ⊢; exact ⟨btw_self _ _, (btw_iff hq h2).2 ⟨l3, ple_trans hle g3⟩, by simp⟩
    · rw [e] at l2 hle ⊢; exact ⟨(btw_iff hr h0).2 ⟨l2, ple_trans hle g2⟩, btw_self _ _, by simp⟩
  have th : pcmp (pl (lowR r0 q0)) (pl (highR r1 q1)) ≤ 0 → TT (pl r0) (pl r1) (pl q0) (pl q1) (pl (highR r1 q1)) := by
    intro hle
    rcases g1 with e | e
    · rw [e] at g3 hle ⊢; exact ⟨btw_other _ _, (btw_iff hq h3).2 ⟨ple_trans l3 hle, g3⟩, by simp⟩
    · rw [e] at g2 hle ⊢; exact ⟨(btw_iff hr h1).2 ⟨ple_trans l2 hle, g2⟩, btw_other _ _, by simp⟩
  unfold alongR
  by_cases hc : 0 < pcmp (pl (lowR r0 q0)) (pl (highR r1 q1))
  · rw [if_pos hc]
    refine ⟨fun h => absurd h (by decide), fun _ _ => rfl, fun _ p hp => ?_, fun _ => pl_zero, fun _ => pl_zero, Or.inl rfl⟩
    have := ple_trans (lo p hp).1 (lo p hp).2
    omega
  rw [if_neg hc]
  by_cases hz : pcmp (pl (lowR r0 q0)) (pl (highR r1 q1)) = 0
  · rw [if_pos hz]
    have hx := tl (by omega)
    have he := pcmp_eq.1 hz
    refine ⟨fun _ => rfl, fun _ h => absurd hx (h _), fun _ p hp => ⟨show (1:Int) ≠ 0 by decide, hx, fun _ => ?_, fun e => by simp [touch] at e⟩, fun e => by simp [touch] at e, fun _ => pl_zero, Or.inr (Or.inl rfl)⟩
    have := lo p hp
    rw [← he] at this
    exact ple_anti this.2 this.1
  · rw [if_neg hz]
    have hx := tl (by omega)
    have hy := th (by omega)
    refine ⟨fun h => by simp at h, fun _ h => absurd hx (h _), fun _ p hp => ⟨show (2:Int) ≠ 0 by decide, hx, fun e => by simp at e, fun _ => ⟨(lo p hp).1, (lo p hp).2, ?_, hy⟩⟩, fun e => by simp at e, fun e => absurd rfl e, Or.inr (Or.inr rfl)⟩
    show pcmp (pl (lowR r0 q0)) (pl (highR r1 q1)) < 0
    omega
theorem side3_three {a b c d e : Pl} (hab : a ≠ b) (h1 : side3 a b c = 0) (h2 : side3 a b d = 0) (h3 : side3 a b e = 0) : side3 c d e = 0 := by
  rw [side3, qsgn_zero] at *
  have hne : b.1 - a.1 ≠ 0 ∨ b.2 - a.2 ≠ 0 := by
    by_cases h : b.1 - a.1 = 0
    · refine Or.inr fun h' => hab (Prod.ext ?_ ?_) <;> grind
    · exact Or.inl h
  unfold area2 at *
  have k1 : ((d.1 - c.1) * (e.2 - c.2) - (d.2 - c.2) * (e.1 - c.1)) * (b.1 - a.1) = 0 := by grind
  have k2 : ((d.1 - c.1) * (e.2 - c.2) - (d.2 - c.2) * (e.1 - c.1)) * (b.2 - a.2) = 0 := by grind
  rcases hne with h | h
  · rcases Rat.mul_eq_zero.1 k1 with k | k
    · exact k
    · exact absurd k h
  · rcases Rat.mul_eq_zero.1 k2 with k | k
    · exact k
    · exact absurd k h
theorem meetR_sym {X s0 s1 t0 t1 : Pt} (hs0 : Good s0) (hs1 : Good s1) (ht0 : Good t0) (ht1 : Good t1) : Sym (TT (pl s0) (pl s1) (pl t0) (pl t1)) (meetR X s0 s1 t0 t1) := by
  unfold meetR
  by_cases hd : s0 = s1 ∨ t0 = t1
  · rw [if_pos hd]
    refine loops_sym fun p q hp hq => ?_
    rcases hd with e | e
    · subst e; rw [btw_point hp.1, btw_point hq.1]
    · subst e; rw [btw_point hp.2.1, btw_point hq.2.1]
  rw [if_neg hd]
  have ns : pl s0 ≠ pl s1 := fun e => hd (Or.inl (hs0.inj hs1 e))
  have nt : pl t0 ≠ pl t1 := fun e => hd (Or.inr (ht0.inj ht1 e))
  by_cases hc : sideP s0 s1 t0 = 0 ∧ sideP s0 s1 t1 = 0
  · rw [if_pos hc]
    obtain ⟨c2, c3⟩ := side3_turn ns hc.1 hc.2
    have hr := rise_lt hs0 hs1 (fun e => hd (Or.inl e))
    have hq := rise_lt ht0 ht1 (fun e => hd (Or.inr e))
    have sw0 : ∀ a b c : Pt, sideP a b c = 0 → sideP b a c = 0 := fun a b c h => (side3_ba0 (a := pl a) (b := pl b) (c := pl c)).1 h
    rcases rise_is s0 s1 with ⟨es, _⟩ | ⟨es, _⟩ <;> rcases rise_is t0 t1 with ⟨et, _⟩ | ⟨et, _⟩ <;> rw [es] at hr ⊢ <;> rw [et] at hq ⊢
    · exact along_sym hr hq hc.1 hc.2 c2 c3
    · exact (along_sym hr hq hc.2 hc.1 (sw0 _ _ _ c2) (sw0 _ _ _ c3)).congr fun p => TT_cd
    · exact (along_sym hr hq (sw0 _ _ _ hc.1) (sw0 _ _ _ hc.2) c3 c2).congr fun p => TT_ab
    · exact (along_sym hr hq (sw0 _ _ _ hc.2) (sw0 _ _ _ hc.1) (sw0 _ _ _ c3) (sw0 _ _ _ c2)).congr fun p => TT_ab.trans TT_cd
  rw [if_neg hc]
  by_cases hx : sideP s0 s1 t0 * sideP s0 s1 t1 < 0 ∧ sideP t0 t1 s0 * sideP t0 t1 s1 < 0
  · rw [if_pos hx]
    exact ⟨fun _ => rfl, fun h => by simp at h, fun h => by simp at h, fun e => by simp at e, fun _ => pl_zero, Or.inr (Or.inl rfl)⟩
  rw [if_neg hx]
  refine loops_sym fun p q hp hq => ?_
  by_cases e : p = q
  · exact e
  · exfalso
    obtain ⟨a1, a2⟩ := side3_turn ns (btw_side hp.1) (btw_side hq.1)
    obtain ⟨b1, b2⟩ := side3_turn nt (btw_side hp.2.1) (btw_side hq.2.1)
    exact hc ⟨side3_three e a1 a2 b1, side3_three e a1 a2 b2⟩
theorem meetM_sym {a b c d : Pt} (fa : FinP a) (fb : FinP b) (fc : FinP c) (fd : FinP d) : Sym (TT (pl a) (pl b) (pl c) (pl d)) (meetM a b c d) := by
  have := meetR_sym (X := meetX (zp a) (zp b) (zp c) (zp d)) (good_zp fa.1 fa.2) (good_zp fb.1 fb.2) (good_zp fc.1 fc.2) (good_zp fd.1 fd.2)
  rw [pl_zp, pl_zp, pl_zp, pl_zp] at this
  exact this
end Go.Proofs.YtggfppgjabembaaGreatDoor

namespace Go.Proofs.YtggfppgjabembaaGreatDoor
open Go.RowKit
set_option linter.unusedVariables false
set_option linter.unusedSimpArgs false
theorem qsgn_turn (a : Rat) : qsgn (-a) = -qsgn a := by
  unfold qsgn
  rw [Rat.neg_num]
  split <;> split <;> (try split) <;> (try split) <;> omega
theorem sideP_ba (a b c : Pt) : sideP b a c = -sideP a b c := by
  unfold sideP side3
  rw [← qsgn_turn]
  congr 1
  unfold area2
  grind
theorem sideP_neg {a b c : Pt} (fa : FinP a) (fb : FinP b) (fc : FinP c) : sideP (negP a) (negP b) (negP c) = sideP a b c := by
  unfold sideP
  rw [pl_negP fa, pl_negP fb, pl_negP fc]
  exact side3_neg _ _ _
def oppM (a b c d : Pt) : Bool := decide (sideP c d a * sideP c d b = -1) && decide (sideP a b c * sideP a b d = -1)
theorem meetM_opp {a b c d : Pt} (fa : FinP a) (fb : FinP b) (fc : FinP c) (fd : FinP d) : (meetM a b c d).proper = oppM a b c d := by
  have := (meetM_law fa fb fc fd).opp
  simp only [sideP_zp] at this
  exact this
theorem opp_ab (a b c d : Pt) : oppM b a c d = oppM a b c d := by unfold oppM; rw [sideP_ba a b c, sideP_ba a b d, Int.neg_mul_neg, Int.mul_comm (sideP c d b)]
theorem opp_sw (a b c d : Pt) : oppM c d a b = oppM a b c d := by unfold oppM; exact Bool.and_comm _ _
theorem opp_cd (a b c d : Pt) : oppM a b d c = oppM a b c d := by rw [← opp_sw, opp_ab, opp_sw]
theorem opp_neg {a b c d : Pt} (fa : FinP a) (fb : FinP b) (fc : FinP c) (fd : FinP d) : oppM (negP a) (negP b) (negP c) (negP d) = oppM a b c d := by
  unfold oppM
  rw [sideP_neg fc fd fa, sideP_neg fc fd fb, sideP_neg fa fb fc, sideP_neg fa fb fd]
theorem area2_ba (a b c : Pl) : area2 b a c = -area2 a b c := by unfold area2; grind
theorem turn_ab (a b c d : Pl) : turnR b a c d = -turnR a b c d := by unfold turnR; grind
theorem turn_cd (a b c d : Pl) : turnR a b d c = -turnR a b c d := by unfold turnR; grind
theorem turn_sw (a b c d : Pl) : turnR c d a b = -turnR a b c d := by unfold turnR; grind
theorem turn_neg (a b c d : Pl) : turnR (nP a) (nP b) (nP c) (nP d) = turnR a b c d := by unfold turnR nP; grind
theorem neg_ne {x : Rat} (h : x ≠ 0) : -x ≠ 0 := fun e => h (by grind)
theorem neg_z {x : Rat} (h : x = 0) : -x = 0 := by grind
theorem cr_ab {a b c d : Pl} (h : turnR a b c d ≠ 0) : crR b a c d = crR a b c d :=
  cross_one (by rw [turn_ab]; exact neg_ne h) (by rw [area2_ba]; exact neg_z (cross_on1 _ _ _ _)) (cross_on2 h)
theorem cr_cd {a b c d : Pl} (h : turnR a b c d ≠ 0) : crR a b d c = crR a b c d :=
  cross_one (by rw [turn_cd]; exact neg_ne h) (cross_on1 _ _ _ _) (by rw [area2_ba]; exact neg_z (cross_on2 h))
theorem cr_sw {a b c d : Pl} (h : turnR a b c d ≠ 0) : crR c d a b = crR a b c d :=
  cross_one (by rw [turn_sw]; exact neg_ne h) (cross_on2 h) (cross_on1 _ _ _ _)
theorem cr_neg {a b c d : Pl} (h : turnR a b c d ≠ 0) : crR (nP a) (nP b) (nP c) (nP d) = nP (crR a b c d) :=
  cross_one (by rw [turn_neg]; exact h) (by rw [area2_neg]; exact cross_on1 _ _ _ _) (by rw [area2_neg]; exact cross_on2 h)
theorem cr_dc {a b c d : Pl} (h : turnR a b c d ≠ 0) : crR d c a b = crR a b c d := by
  have h' : turnR c d a b ≠ 0 := by rw [turn_sw]; exact neg_ne h
  rw [cr_ab h', cr_sw h]
theorem finR_neg {m x : Int} {s : Bool} (h : (finR false m x s).2 = 0) : (finR true m x s).1 = (finR false m x s).1 + 9223372036854775808 := by
  unfold finR at *
  split at h
  · cases h
  · rename_i k
    rw [if_neg k, if_neg k]
    unfold jn
    simp
    omega
theorem quotR_neg {x y : Int} (hx : x ≠ 0) (h : (quotR false x y).2 = 0) : (quotR true x y).1 = (quotR false x y).1 + 9223372036854775808 := by
  unfold quotR at *
  rw [if_neg hx] at h ⊢
  rw [if_neg hx]
  split at h
  · rename_i k; rw [if_pos k, if_pos k]; exact finR_neg h
  · rename_i k; rw [if_neg k, if_neg k]
    split at h
    · rename_i k; rw [if_pos k, if_pos k]; exact finR_neg h
    · rename_i k; rw [if_neg k, if_neg k]
      split at h
      · rename_i k; rw [if_pos k, if_pos k]; exact finR_neg h
      · rename_i k; rw [if_neg k, if_neg k]; exact finR_neg h
theorem fval_up {x y : Int} (h1 : Fin64 x) (h2 : Fin64 y) (h : x = y + 9223372036854775808) : fval x = -fval y := by
  have : x = negB y := by
    obtain ⟨a, b, _⟩ := h1
    obtain ⟨c, d, _⟩ := h2
    unfold negB
    rw [if_neg (by omega)]
    exact h
  rw [this, fval_negB h2]
theorem near_neg {q : Rat} (h : FitQ q) : fval (nearR (-q)).1 = -fval (nearR q).1 := by
  have h' : FitQ (-q) := by unfold FitQ at *; rw [Rat.neg_num, Rat.neg_den, Int.natAbs_neg]; exact h
  obtain ⟨a1, a2⟩ := nearR_ok h
  obtain ⟨b1, b2⟩ := nearR_ok h'
  by_cases hz : q.num = 0
  · have : q = 0 := Rat.num_eq_zero.1 hz
    subst this
    have e : nearR 0 = (0, 0) := by decide +kernel
    rw [Rat.neg_zero, e]
    rw [show fval (0, 0).1 = 0 from fval_zero]
    rfl
  · unfold nearR at *
    rw [Rat.neg_num, Rat.neg_den, Int.natAbs_neg] at *
    have hn : ((q.num.natAbs : Nat) : Int) ≠ 0 := by omega
    by_cases hs : q.num < 0
    · rw [decide_eq_true hs] at *
      rw [decide_eq_false (show ¬ -q.num < 0 by omega)] at *
      rw [fval_up a2 b2 (quotR_neg hn b1), Rat.neg_neg]
    · rw [decide_eq_false hs] at *
      rw [decide_eq_true (show -q.num < 0 by omega)] at *
      exact fval_up b2 a2 (quotR_neg hn a1)
def nearPl (p : Pl) : Pl := (fval (nearR p.1).1, fval (nearR p.2).1)
theorem meetM_place {a b c d : Pt} (h : (meetM a b c d).proper = true) : pl (meetM a b c d).P = nearPl (crR (pl a) (pl b) (pl c) (pl d)) := by
  rw [(meetM_properP h).1]
  unfold meetX
  rw [pl_zp, pl_zp, pl_zp, pl_zp]
  rfl
theorem fin_ptu {p : Pt} (h : FinP p) : PtU p := ⟨⟨h.1.1, h.1.2.1⟩, ⟨h.2.1, h.2.2.1⟩⟩
theorem lPlaceT {a b : Pt} (fa : FinP a) (fb : FinP b) (h : pl a = pl b) (wz : World) : Calls Tryz.prog 15 #[pt a, pt b] wz fun e w' => e = .returned (.bool true) ∧ Below wz.heap.size wz w' := by
  have := lPlace a b wz fa fb
  rw [show placeB a b = true from decide_eq_true h] at this
  exact this
theorem likeC {m n : Mt} (h : m.kind = n.kind ∧ pl m.P = pl n.P ∧ pl m.Q = pl n.Q) (hp : m.proper = n.proper) (fm : FinP m.P ∧ FinP m.Q) (fn : FinP n.P ∧ FinP n.Q) (wz : World) :
    Calls Tryz.prog 24 #[mv m, mv n, .bool false] wz fun e w' => e = .returned (.bool true) ∧ Below wz.heap.size wz w' := by
  obtain ⟨K, Pr, P, Q⟩ := m
  obtain ⟨K2, Pr2, P2, Q2⟩ := n
  simp only at h hp fm fn
  obtain ⟨rfl, h1, h2⟩ := h
  subst hp
  exact lLike0 K Pr P Q P2 Q2 wz (lPlaceT fm.1 fn.1 h1) (lPlaceT fm.2 fn.2 h2)
theorem likeT {m n : Mt} (h : m.kind = (turnM n).kind ∧ pl m.P = pl (turnM n).P ∧ pl m.Q = pl (turnM n).Q) (hp : m.proper = n.proper) (fm : FinP m.P ∧ FinP m.Q) (fn : FinP n.P ∧ FinP n.Q) (wz : World) :
    Calls Tryz.prog 24 #[mv m, mv n, .bool true] wz fun e w' => e = .returned (.bool true) ∧ Below wz.heap.size wz w' := by
  obtain ⟨K, Pr, P, Q⟩ := m
  obtain ⟨K2, Pr2, P2, Q2⟩ := n
  unfold turnM at h
  simp only at h hp fm fn
  obtain ⟨rfl, h1, h2⟩ := h
  subst hp
  have f1 : FinP (if K = 2 then negP Q2 else negP P2) := by split; exact negP_fin fn.2; exact negP_fin fn.1
  have f2 : FinP (if K = 2 then negP P2 else negP Q2) := by split; exact negP_fin fn.1; exact negP_fin fn.2
  exact lLike1 K Pr P Q P2 Q2 wz (fin_ptu fn.1) (fin_ptu fn.2) (lPlaceT fm.1 f1 h1) (lPlaceT fm.2 f2 h2)
theorem lSegSides (a b c d : Pt) (w : World) (ha : PtU a) (hb : PtU b) (hc : PtU c) (hd : PtU d) :
    Calls Tryz.prog 5 #[fr a b c d] w fun e w' => e = .returned (.bool true) ∧ Below w.heap.size w w' := by
  have hSp := fun wz => lSpots a b c d wz ha hb hc hd
  have fA := spot_fin ha
  have fB := spot_fin hb
  have fC := spot_fin hc
  have fD := spot_fin hd
  generalize spot a = A at *
  generalize spot b = B at *
  generalize spot c = C at *
  generalize spot d = D at *
  have gA := negP_fin fA
  have gB := negP_fin fB
  have gC := negP_fin fC
  have gD := negP_fin fD
  have tu : ∀ (p : Pt), FinP p → ∀ wz, Calls Tryz.prog 23 #[pt p] wz fun e w' => e = .returned (pt (negP p)) ∧ Below wz.heap.size wz w' := fun p f wz => lTurned p wz (fin_ptu f)
  have y1 := meetM_sym fA fB fC fD
  have y2 := (meetM_sym fB fA fC fD).congr (fun p => TT_ab)
  have y3 := (meetM_sym fA fB fD fC).congr (fun p => TT_cd)
  have y4 := (meetM_sym fC fD fA fB).congr (fun p => TT_sw)
  have y5 := (meetM_sym gA gB gC gD).turn (T := TT (pl A) (pl B) (pl C) (pl D)) (fun p => by
    rw [pl_negP fA, pl_negP fB, pl_negP fC, pl_negP fD]; exact TT_neg) (meetM_fin gA gB gC gD).1 (meetM_fin gA gB gC gD).2
  have p1 := meetM_opp fA fB fC fD
  have p2 := (meetM_opp fB fA fC fD).trans (opp_ab A B C D)
  have p3 := (meetM_opp fA fB fD fC).trans (opp_cd A B C D)
  have p4 := (meetM_opp fC fD fA fB).trans (opp_sw A B C D)
  have p5 := (meetM_opp gA gB gC gD).trans (opp_neg fA fB fC fD)
  have HC : SidC a b c d A B C D (negP A) (negP B) (negP C) (negP D) (meetM A B C D) (meetM B A C D) (meetM A B D C) (meetM C D A B) (meetM (negP A) (negP B) (negP C) (negP D)) := by
    refine ⟨hSp, fun wz => sMeetAny _ _ _ _ wz fA fB fC fD, fun wz => sMeetAny _ _ _ _ wz fB fA fC fD, fun wz => sMeetAny _ _ _ _ wz fA fB fD fC, fun wz => sMeetAny _ _ _ _ wz fC fD fA fB,
      fun wz => sMeetAny _ _ _ _ wz gA gB gC gD, tu A fA, tu B fB, tu C fC, tu D fD,
      likeC (sym_same y1 y2 (p1.trans p2.symm) fun h => ?_) (p1.trans p2.symm) (meetM_fin fA fB fC fD) (meetM_fin fB fA fC fD),
      likeC (sym_same y1 y3 (p1.trans p3.symm) fun h => ?_) (p1.trans p3.symm) (meetM_fin fA fB fC fD) (meetM_fin fA fB fD fC),
      likeC (sym_same y1 y4 (p1.trans p4.symm) fun h => ?_) (p1.trans p4.symm) (meetM_fin fA fB fC fD) (meetM_fin fC fD fA fB),
      likeT (sym_same y1 y5 (p1.trans p5.symm) fun h => ?_) (p1.trans p5.symm) (meetM_fin fA fB fC fD) (meetM_fin gA gB gC gD)⟩
    · have ht := meetM_proper fA fB fC fD h
      rw [meetM_place h, meetM_place (show (meetM B A C D).proper = true by rw [p2, ← p1]; exact h), cr_ab ht]
    · have ht := meetM_proper fA fB fC fD h
      rw [meetM_place h, meetM_place (show (meetM A B D C).proper = true by rw [p3, ← p1]; exact h), cr_cd ht]
    · have ht := meetM_proper fA fB fC fD h
      rw [meetM_place h, meetM_place (show (meetM C D A B).proper = true by rw [p4, ← p1]; exact h), cr_sw ht]
    · have ht := meetM_proper fA fB fC fD h
      have h5 : (meetM (negP A) (negP B) (negP C) (negP D)).proper = true := by rw [p5, ← p1]; exact h
      have k5 := (meetM_sym gA gB gC gD).k1 h5
      have hP : (turnM (meetM (negP A) (negP B) (negP C) (negP D))).P = negP (meetM (negP A) (negP B) (negP C) (negP D)).P := if_neg (by rw [k5]; decide)
      obtain ⟨s1, s2⟩ := (meetM_properP h).2
      obtain ⟨f1, f2⟩ := crossFit A B C D fA fB fC fD s1 s2
      rw [hP, pl_negP (meetM_fin gA gB gC gD).1, meetM_place h, meetM_place h5, pl_negP fA, pl_negP fB, pl_negP fC, pl_negP fD]
      show _ = nP (nearPl (crR (nP (pl A)) (nP (pl B)) (nP (pl C)) (nP (pl D))))
      rw [cr_neg ht]
      unfold nearPl nP
      simp only
      rw [near_neg f1, near_neg f2, Rat.neg_neg, Rat.neg_neg]
  have hX := fun wz => lCrossIn A B C D wz fA fB fC fD
  have hY := fun wz => lCrossIn D C A B wz fD fC fA fB
  have hT2 : turnR (pl D) (pl C) (pl A) (pl B) = turnR (pl A) (pl B) (pl C) (pl D) := by unfold turnR; grind
  by_cases hT : turnR (pl A) (pl B) (pl C) (pl D) = 0
  · refine lSegSidesIn a b c d A B C D _ _ _ _ _ _ _ _ _ 0 0 w HC (by decide +kernel) (by decide +kernel) (Or.inl ⟨fun wz => (hX wz).mono ?_, fun wz => (hY wz).mono ?_⟩)
    · rintro e w' ⟨h1, h2, h3⟩
      exact ⟨h1 hT, h3⟩
    · rintro e w' ⟨h1, h2, h3⟩
      exact ⟨h1 (hT2.trans hT), h3⟩
  · have hS : Sz 30000 (crR (pl A) (pl B) (pl C) (pl D)).1 ∧ Sz 30000 (crR (pl A) (pl B) (pl C) (pl D)).2 := cross_sz fA fB fC fD hT
    have l1 := hS.1.lens (by omega)
    have l2 := hS.2.lens (by omega)
    refine lSegSidesIn a b c d A B C D _ _ _ _ _ _ _ _ _ (crR (pl A) (pl B) (pl C) (pl D)).1 (crR (pl A) (pl B) (pl C) (pl D)).2 w HC l1 l2 (Or.inr ⟨fun wz => (hX wz).mono ?_, fun wz => (hY wz).mono ?_⟩)
    · rintro e w' ⟨h1, h2, h3⟩
      obtain ⟨E, F, E', F', he, f1, f2, _, _⟩ := h2 hT
      exact ⟨E, F, E', F', he, f1, f2, h3⟩
    · rintro e w' ⟨h1, h2, h3⟩
      rw [cr_dc hT] at h2
      obtain ⟨E, F, E', F', he, f1, f2, _, _⟩ := h2 (by rw [hT2]; exact hT)
      exact ⟨E, F, E', F', he, f1, f2, h3⟩
end Go.Proofs.YtggfppgjabembaaGreatDoor

namespace Go.Proofs.YtggfppgjabembaaGreatDoor
open Go Go.ChangeShapes Go.WideShapes Go.ChangeAt Go.RowKit
set_option linter.unusedVariables false
set_option maxRecDepth 100000 in
theorem segSides_lifted (os : Os) (started : os.Started) (H : Type) (enc : TypeId × Value → H) :
    ReturnsInHanded {} Tryz.checked os 5 .any (fun w args => (Rows.segSidesSpec.pre enc Tryz.prog Tryz.f5 [] false w args ∧ laidMetH Tryz.prog [("plumb/near.stays", Rows.laid_plumb_near_stays)] w) ∧ sizedMet enc Tryz.prog Tryz.f5 (OpenSpec.ofChange Rows.segSidesSpec) false w args)
      (Rows.segSidesSpec.post enc Tryz.prog Tryz.f5 false true false false) := by
  refine returnsInHanded_of_change_and (C := Tryz.checked) (X := fun w _ => laidMetH Tryz.prog [("plumb/near.stays", Rows.laid_plumb_near_stays)] w) (fun _ _ _ hh h => h.of_heap hh) row_own started (by kernel_rfl) Tryz.func5
    (ChangeSpec.witness_shaped (enc := enc) (C := Tryz.checked) (os := os) (X := fun w _ => laidMetH Tryz.prog [("plumb/near.stays", Rows.laid_plumb_near_stays)] w) false (World.doorLaid Tryz.prog 400 os) #[fr (0, 0) (0, 0) (0, 0) (0, 0)] 8 rfl (World.shaped_of_RefB (by kernel_rfl) (by kernel_rfl)) (by kernel_rfl) (by kernel_rfl) (by kernel_rfl) (door_met os _)) ?_
  intro W base args ds gs before hval0 hW _ _ _ _
  have hval : ∀ (j : Nat) t v, Tryz.f5.params[j]? = some t → args[j]? = some v → Value.okWide Tryz.prog W .any base t v := hval0
  have hW' := hW
  obtain ⟨p, q, hA0, hV, rfl, hfz, hnd⟩ := hW
  have hA : DataW.TrodAll enc Tryz.prog W 0 (fun _ => true) true Tryz.f5.params.toList args.toList ds p := hA0
  rw [Tryz.params5] at hA hval
  obtain ⟨v0, d0, hargs, hds, h0⟩ := trodAll_one hA
  obtain ⟨rfl, rfl⟩ := trodVars_none hV
  subst hargs hds
  obtain ⟨a, b, c, e, rfl, ua, ub, uc, ue⟩ := open_four (hval 0 26 v0 rfl rfl) h0
  simp only [List.append_nil] at hW'
  refine (lSegSides a b c e W ua ub uc ue).mono fun x W' ⟨hx, hb⟩ => ?_
  subst hx
  refine ⟨_, rfl, post_true rfl rfl rfl hW' hb (fun sp hsp => ?_)⟩
  rw [Tryz.params5]
  have hlt : ∀ x ∈ p, x.block < W.heap.size := fun x hx => hW'.lt x hx
  exact trodAll_mk1 (WideElems.Trod_stays row_laidOut (by kernel_rfl) (of_decide_eq_true (by kernel_rfl)) h0 (fun x hx => hb.same (hlt x hx)) hsp)
theorem segSides_said : Rows.SegSidesSaid :=
  OpenClaim.holds_of_wide 5 Tryz.f5 rfl rfl rfl rfl rfl rfl rfl ⟨rfl, rfl, rfl, rfl, rfl⟩ rfl rfl rfl rfl rfl (by kernel_rfl) Tryz.func5 (by kernel_rfl)
    (of_decide_eq_true (by kernel_rfl)) (by unfold Func.isWrapper; first | (rw [if_pos (by decide +kernel)]; kernel_rfl) | (rw [if_neg (by decide +kernel)]; exact ⟨rfl, rfl⟩))
    (fun os started H enc _ => segSides_lifted os started H enc)
theorem segSides_holds : Rows.SegSidesCardSaid :=
  Claim7.holds_tied_plain_at .later [] [.data] true (true, "80a292a554acde2cdd04e5bef36b3977b4b8f6b315eb70e2ed427cc397b18b81") true
    segSides_said (fun _ h => by cases h) (by kernel_rfl) (fun _ h => by cases h) segSides_row_tie rfl ⟨rfl, rfl⟩ (by kernel_rfl) rfl
    (fun f fn hf hfn => by
      obtain rfl : f = 5 := Option.some.inj ((show Tryz.prog.funcNamed "plumb/plumblaw23.SegSides" = some 5 by kernel_rfl).symm.trans hf) |>.symm
      obtain rfl : fn = Tryz.f5 := (Option.some.inj (Tryz.func5.symm.trans hfn)).symm
      exact ⟨by kernel_rfl, fun j t ht => by
        rw [Tryz.params5] at ht
        have hm : t ∈ [26] := by simpa using Array.mem_of_getElem? ht
        have hall : ([26].all fun u => !Tryz.prog.wantsStandIn u) = true := by kernel_rfl
        exact (show Tryz.prog.wantsStandIn t = false by simpa using List.all_eq_true.1 hall t hm)⟩)
    (by kernel_rfl)
end Go.Proofs.YtggfppgjabembaaGreatDoor
