/- Package near: Value. -/
import Derived.Test.YtfpofmifmapmfaaGreatDoorKC
import Derived.Test.YtfpofmifmapmfaaGreatDoorKA
namespace Go.Proofs.YtfpofmifmapmfaaGreatDoor
open Go.RowKit Go.Proofs.YtfpofmifmapmfaaGreatDoorW.PrintLast
set_option linter.unusedVariables false
set_option linter.unusedSimpArgs false
set_option maxRecDepth 100000 in
set_option maxHeartbeats 3200000 in
theorem rAddQ (A B C D : Option Addr) (lo up m n : Nat) (p q : Rat) (w : World) (hp : RatIn lo up w A B p) (hq : RatIn lo up w C D q) (hu : up ≤ w.heap.size)
    (hs : Sz m p) (ht : Sz n q) (hmn : m + n + 1 ≤ 262144) :
    Calls Tryz.prog 38 #[qv A B p, qv C D q] w fun e w' => ∃ E F, e = .returned (.tuple #[qv E F (p + q), .int .i64 0]) ∧ RatFresh w.heap.size w' E F (p + q) ∧ Below w.heap.size w w' := by
  have l1 := hs.lens (by omega)
  have l2 := ht.lens (by omega)
  obtain ⟨h1, h2, h3, h4, h5⟩ := three_new w (.cells #[.bool (decide (p.num < 0)), .slice A (qn p).length (qn p).length, .slice B (qd p).length (qd p).length] 26) (.cells #[.bool (decide (q.num < 0)), .slice C (qn q).length (qn q).length, .slice D (qd q).length (qd q).length] 26) (.cells #[.bool false, .slice none 0 0, .slice none 0 0] 26)
  generalize hww : (((w.alloc (.cells #[.bool (decide (p.num < 0)), .slice A (qn p).length (qn p).length, .slice B (qd p).length (qd p).length] 26)).alloc (.cells #[.bool (decide (q.num < 0)), .slice C (qn q).length (qn q).length, .slice D (qd q).length (qd q).length] 26)).alloc (.cells #[.bool false, .slice none 0 0, .slice none 0 0] 26)) = w1 at *
  have hp1 := hp.keep (Keep.of h5 hu)
  have hq1 := hq.keep (Keep.of h5 hu)
  have HR := Lib.hid (rReckonedAdd (.pointer (some ⟨w.heap.size, 0, none⟩)) (.pointer (some ⟨w.heap.size + 1, 0, none⟩)) A B C D lo up p q w1 (fun s E l l' F m m' w' => RatOut (w.heap.size + 3) (p + q) s E l l' F m m' w1 w') hp1 hq1 (by omega) l1.1 l1.2 l2.1 l2.2 (by
    intro w0 b0 s0
    rw [h4] at b0
    refine (rAddBody w.heap.size (w.heap.size + 1) A B C D lo up m n p q w0 (hp1.keep (Keep.of b0 (by omega))) (hq1.keep (Keep.of b0 (by omega))) (by omega) (caught_new ((b0.block _ (by omega)).trans h1)) (caught_new ((b0.block _ (by omega)).trans h2)) (by omega) (by omega) hs ht hmn).mono ?_
    rintro e w' ⟨E, F, rfl, hf, hb⟩
    exact ⟨_, _, _, _, _, _, _, rfl, ⟨rfl, rfl, rfl, rfl, rfl, hf.wide (by omega), b0.trans (hb.mono (by omega))⟩, Keep.of hb (by omega)⟩))
  rw [h4] at HR
  have H := Lib.hid (And.intro h3 (And.intro h4 (And.intro h5 hww)))
  clear h3 h4 h5 hp hq hp1 hq1 l1 l2 hs ht hww
  clear h1 h2
  have hmf : ∀ (fn : Fn) (first cap : Array Value) (w : World), (Instr.makeFunc fn first cap).run Tryz.prog w = .ok (.func fn first cap) w := fun _ _ _ _ => rfl
  unfold qv at *
  go_enter Tryz.func38, Tryz.ntmps38
  go_wp2_with (fail)
  rw [H.out.2.2.2]
  refine HR.out.mono ?_
  rintro e w2 ⟨s, E, l, l', F, m0, m0', w3, rfl, ⟨rfl, rfl, rfl, rfl, rfl, hf, hb⟩, rfl⟩
  obtain ⟨h3, h4, h5, _⟩ := H.out
  obtain ⟨hw2, hfr, hb6⟩ := after_reck (.bool (decide ((p + q).num < 0))) (.slice E (qn (p + q)).length (qn (p + q)).length) (.slice F (qd (p + q)).length (qd (p + q)).length) (.int .i64 0) hf hb h3 (by omega) h5 (by omega)
  generalize hw4 : fourSet (w.heap.size + 3) (.bool (decide ((p + q).num < 0))) (.slice E (qn (p + q)).length (qn (p + q)).length) (.slice F (qd (p + q)).length (qd (p + q)).length) (.int .i64 0) w3 = w4 at *
  unfold fourSet at hw4
  rw [hw4]
  obtain ⟨d0, d1, d2, g0, g1, g2⟩ := row3 hw2
  have HF := Lib.hid (And.intro hw2 (And.intro hfr hb6))
  clear hw2 hfr hb6 hf hb h3 h4 h5 hw4
  go_wp2_with (fail)
  refine bodyPost_ret (results_row_tmp rfl _ _ (w.heap.size + 2) _ _ _ _ rfl (heap_set_three HF.out.1 _ _ _) rfl rfl rfl) rfl ?_
  exact ⟨E, F, rfl, (rat_three (by omega) HF.out.2.1).wide (by omega), below_three (by omega) HF.out.2.2⟩
end Go.Proofs.YtfpofmifmapmfaaGreatDoor

namespace Go.Proofs.YtfpofmifmapmfaaGreatDoor
open Go.RowKit Go.Proofs.YtfpofmifmapmfaaGreatDoorW.PrintLast
set_option linter.unusedVariables false
set_option linter.unusedSimpArgs false
theorem qn_len_pos {q : Rat} (h : q.num ≠ 0) : 0 < (qn q).length := by
  have := (limbs_len_zero (show (0:Int) ≤ (q.num.natAbs : Nat) by omega)).1
  unfold qn; omega
theorem qn_len_zero {q : Rat} (h : q.num = 0) : (qn q).length = 0 := by
  unfold qn; rw [h]; simp [limbs_zero]
set_option maxRecDepth 100000 in
set_option maxHeartbeats 3200000 in
theorem rDivQ (A B C D : Option Addr) (lo up m n : Nat) (p q : Rat) (w : World) (hp : RatIn lo up w A B p) (hq : RatIn lo up w C D q) (hu : up ≤ w.heap.size)
    (hs : Sz m p) (ht : Sz n q) (hmn : m + n + 1 ≤ 262144) (hq0 : q.num ≠ 0) :
    Calls Tryz.prog 127 #[qv A B p, qv C D q] w fun e w' => ∃ E F, e = .returned (.tuple #[qv E F (p / q), .int .i64 0]) ∧ RatFresh w.heap.size w' E F (p / q) ∧ Below w.heap.size w w' := by
  have l1 := hs.lens (by omega)
  have l2 := ht.lens (by omega)
  obtain ⟨h1, h2, h3, h4, h5⟩ := three_new w (.cells #[.bool (decide (p.num < 0)), .slice A (qn p).length (qn p).length, .slice B (qd p).length (qd p).length] 26) (.cells #[.bool (decide (q.num < 0)), .slice C (qn q).length (qn q).length, .slice D (qd q).length (qd q).length] 26) (.cells #[.bool false, .slice none 0 0, .slice none 0 0] 26)
  generalize hww : (((w.alloc (.cells #[.bool (decide (p.num < 0)), .slice A (qn p).length (qn p).length, .slice B (qd p).length (qd p).length] 26)).alloc (.cells #[.bool (decide (q.num < 0)), .slice C (qn q).length (qn q).length, .slice D (qd q).length (qd q).length] 26)).alloc (.cells #[.bool false, .slice none 0 0, .slice none 0 0] 26)) = w1 at *
  have hp1 := hp.keep (Keep.of h5 hu)
  have hq1 := hq.keep (Keep.of h5 hu)
  have HR : Hid (∀ wz, Below w1.heap.size w1 wz → _) := Lib.hid (fun (wz : World) (bz : Below w1.heap.size w1 wz) => rReckonedDiv (.pointer (some ⟨w.heap.size, 0, none⟩)) (.pointer (some ⟨w.heap.size + 1, 0, none⟩)) A B C D lo up p q wz (fun s E l l' F m m' w' => RatOut wz.heap.size (p / q) s E l l' F m m' wz w') (hp1.keep (Keep.of bz (by omega))) (hq1.keep (Keep.of bz (by omega))) (by have := bz.size; omega) l1.1 l1.2 l2.1 l2.2 (by
    intro w0 b0 s0
    have bs := bz.size
    refine (rDivBody w.heap.size (w.heap.size + 1) A B C D lo up p q w0 ((hp1.keep (Keep.of bz (by omega))).keep (Keep.of b0 (by omega))) ((hq1.keep (Keep.of bz (by omega))).keep (Keep.of b0 (by omega))) (by omega) (caught_new ((b0.block _ (by omega)).trans ((bz.block _ (by omega)).trans h1))) (caught_new ((b0.block _ (by omega)).trans ((bz.block _ (by omega)).trans h2))) (by omega) (by omega)
      hq0 (len_of (n := m + n) (an_lt hs ht) (by omega)) (len_of (n := m + n) (mul_lt_pow (by omega) (by omega) hs.2 ht.1) (by omega)) ⟨l1.1, l1.2, l2.1, l2.2⟩).mono ?_
    rintro e w' ⟨E, F, rfl, hf, hb⟩
    exact ⟨_, _, _, _, _, _, _, rfl, ⟨rfl, rfl, rfl, rfl, rfl, hf.wide (by omega), b0.trans (hb.mono (by omega))⟩, Keep.of hb (by omega)⟩))
  have HK1 := Lib.hid (rCheck A B lo up p w1 hp1 (by omega) l1.1 l1.2)
  have HK2 : Hid (∀ wz, Below w1.heap.size w1 wz → _) := Lib.hid (fun (wz : World) (bz : Below w1.heap.size w1 wz) => rCheck C D lo up q wz (hq1.keep (Keep.of bz (by omega))) (by have := bz.size; omega) l2.1 l2.2)
  have hlb : ((((qn q).length : Nat) : Int) == 0) = false := beq_eq_false_iff_ne.2 (by have := qn_len_pos hq0; omega)
  have H := Lib.hid (And.intro h1 (And.intro h2 (And.intro h3 (And.intro h4 (And.intro h5 hww)))))
  clear h1 h2 h3 h4 h5 hp hq hp1 hq1 l1 l2 hs ht hww
  have hmf : ∀ (fn : Fn) (first cap : Array Value) (w : World), (Instr.makeFunc fn first cap).run Tryz.prog w = .ok (.func fn first cap) w := fun _ _ _ _ => rfl
  unfold qv at *
  go_enter Tryz.func127, Tryz.ntmps127
  go_wp2_with (fail)
  rw [H.out.2.2.2.2.2]
  refine HK1.out.mono ?_
  rintro e w2 ⟨rfl, b2⟩
  have hr2 := row3 ((b2.block _ (by have := H.out.2.2.2.1; omega)).trans H.out.2.1)
  obtain ⟨c0, c1, c2, _⟩ := hr2
  have B2 := Lib.hid b2
  clear b2
  go_wp2_with (fail)
  refine (HK2.out w2 B2.out).mono ?_
  rintro e w3 ⟨rfl, b3⟩
  have b13 := B2.out.trans (b3.mono B2.out.size)
  have hz := H.out.2.2.2.1
  obtain ⟨c0, c1, c2, _⟩ := row3 ((b13.block _ (by omega)).trans H.out.2.1)
  obtain ⟨d0, d1, d2, _⟩ := row3 ((b13.block _ (by omega)).trans H.out.1)
  have B3 := Lib.hid b13
  clear b3 b13 hz
  go_wp2_with (fail)
  refine (HR.out w3 B3.out).mono ?_
  rintro e w2 ⟨s, E, l, l', F, m0, m0', w4, rfl, ⟨rfl, rfl, rfl, rfl, rfl, hf, hb⟩, rfl⟩
  obtain ⟨_, _, h3, h4, h5, _⟩ := H.out
  have b13 := B3.out
  have bs := b13.size
  obtain ⟨hw2, hfr, hb6⟩ := after_reck (.bool (decide ((p / q).num < 0))) (.slice E (qn (p / q)).length (qn (p / q)).length) (.slice F (qd (p / q)).length (qd (p / q)).length) (.int .i64 0) hf hb ((b13.block _ (by omega)).trans h3) (by omega) (h5.trans (b13.mono (by omega))) (by omega)
  generalize hw4 : fourSet w3.heap.size (.bool (decide ((p / q).num < 0))) (.slice E (qn (p / q)).length (qn (p / q)).length) (.slice F (qd (p / q)).length (qd (p / q)).length) (.int .i64 0) w4 = w5 at *
  unfold fourSet at hw4
  rw [hw4]
  obtain ⟨d0, d1, d2, g0, g1, g2⟩ := row3 hw2
  have HF := Lib.hid (And.intro hw2 (And.intro (And.intro hfr hb6) (And.intro h4 bs)))
  clear hw2 hfr hb6 hf hb h3 h4 h5 hw4 b13 bs
  go_wp2_with (fail)
  obtain ⟨r1, ⟨r2, r3⟩, r4, r5⟩ := HF.out
  refine bodyPost_ret (results_row_tmp rfl _ _ (w.heap.size + 2) _ _ _ _ rfl (heap_set_three r1 _ _ _) rfl rfl rfl) rfl ?_
  exact ⟨E, F, rfl, (rat_three (by omega) r2).wide (by omega), below_three (by omega) r3⟩
end Go.Proofs.YtfpofmifmapmfaaGreatDoor

namespace Go.Proofs.YtfpofmifmapmfaaGreatDoor
open Go.RowKit Go.Proofs.YtfpofmifmapmfaaGreatDoorW.PrintLast
set_option linter.unusedVariables false
set_option linter.unusedSimpArgs false
theorem qn_neg (q : Rat) : qn (-q) = qn q := by unfold qn; rw [Rat.neg_num, Int.natAbs_neg]
theorem qd_neg (q : Rat) : qd (-q) = qd q := by unfold qd; rw [Rat.neg_den]
theorem RatIn.neg {lo up : Nat} {w : World} {A B : Option Addr} {q : Rat} (h : RatIn lo up w A B q) : RatIn lo up w A B (-q) := ⟨by rw [qn_neg]; exact h.n, by rw [qd_neg]; exact h.d⟩
theorem turned_neg (q : Rat) : decide ((-q).num < 0) = (!decide (q.num < 0) && decide (0 < (qn q).length)) := by
  rw [Rat.neg_num]
  by_cases x : 0 < q.num
  · rw [decide_eq_true (show -q.num < 0 by omega), decide_eq_false (show ¬ q.num < 0 by omega), decide_eq_true (qn_len_pos (show q.num ≠ 0 by omega))]; rfl
  · rw [decide_eq_false (show ¬ -q.num < 0 by omega)]
    by_cases y : q.num = 0
    · rw [decide_eq_false (show ¬ 0 < (qn q).length by rw [qn_len_zero y]; omega), Bool.and_false]
    · rw [decide_eq_true (show q.num < 0 by omega)]; rfl
set_option maxRecDepth 100000 in
set_option maxHeartbeats 1600000 in
theorem rTurned (A B : Option Addr) (q : Rat) (w : World) :
    Calls Tryz.prog 225 #[qv A B q] w fun e w' => e = .returned (qv A B (-q)) ∧ Below w.heap.size w w' := by
  have ht := turned_neg q
  unfold qv
  rw [qn_neg, qd_neg, ht]
  clear ht
  generalize decide (q.num < 0) = s
  cases s
  · by_cases hl : 0 < (qn q).length
    · go_enter Tryz.func225, Tryz.ntmps225
      go_wp2_with (fail)
      refine bodyPost_ret (results_cell_row rfl _ _ (w.heap.size + 1) _ _ _ _ rfl (two_blocks _ _ _).2 rfl rfl rfl) rfl ?_
      exact ⟨by rw [decide_eq_true hl]; rfl, (by repeat (first | exact Below.refl _ _ | refine belowN ?_ _ | refine Below.drew ?_ | refine Below.alloc ?_ (by first | exact Nat.le_refl _ | (simp; done) | (simp; omega) | omega) _))⟩
    · go_enter Tryz.func225, Tryz.ntmps225
      go_wp2_with (fail)
      refine bodyPost_ret (results_cell_row rfl _ _ (w.heap.size + 1) _ _ _ _ rfl (two_blocks _ _ _).2 rfl rfl rfl) rfl ?_
      exact ⟨by rw [decide_eq_false hl]; rfl, (by repeat (first | exact Below.refl _ _ | refine belowN ?_ _ | refine Below.drew ?_ | refine Below.alloc ?_ (by first | exact Nat.le_refl _ | (simp; done) | (simp; omega) | omega) _))⟩
  · go_enter Tryz.func225, Tryz.ntmps225
    go_wp2_with (fail)
    refine bodyPost_ret (results_cell_row rfl _ _ (w.heap.size + 1) _ _ _ _ rfl (two_blocks _ _ _).2 rfl rfl rfl) rfl ?_
    exact ⟨rfl, (by repeat (first | exact Below.refl _ _ | refine belowN ?_ _ | refine Below.drew ?_ | refine Below.alloc ?_ (by first | exact Nat.le_refl _ | (simp; done) | (simp; omega) | omega) _))⟩
set_option maxRecDepth 100000 in
set_option maxHeartbeats 3200000 in
theorem rSubQ (A B C D : Option Addr) (lo up m n : Nat) (p q : Rat) (w : World) (hp : RatIn lo up w A B p) (hq : RatIn lo up w C D q) (hu : up ≤ w.heap.size)
    (hs : Sz m p) (ht : Sz n q) (hmn : m + n + 1 ≤ 262144) :
    Calls Tryz.prog 187 #[qv A B p, qv C D q] w fun e w' => ∃ E F, e = .returned (.tuple #[qv E F (p - q), .int .i64 0]) ∧ RatFresh w.heap.size w' E F (p - q) ∧ Below w.heap.size w w' := by
  have l1 := hs.lens (by omega)
  have l2 := ht.lens (by omega)
  rw [Rat.sub_eq_add_neg]
  obtain ⟨h1, h2, h3, h4, h5⟩ := three_new w (.cells #[.bool (decide (p.num < 0)), .slice A (qn p).length (qn p).length, .slice B (qd p).length (qd p).length] 26) (.cells #[.bool (decide (q.num < 0)), .slice C (qn q).length (qn q).length, .slice D (qd q).length (qd q).length] 26) (.cells #[.bool false, .slice none 0 0, .slice none 0 0] 26)
  generalize hww : (((w.alloc (.cells #[.bool (decide (p.num < 0)), .slice A (qn p).length (qn p).length, .slice B (qd p).length (qd p).length] 26)).alloc (.cells #[.bool (decide (q.num < 0)), .slice C (qn q).length (qn q).length, .slice D (qd q).length (qd q).length] 26)).alloc (.cells #[.bool false, .slice none 0 0, .slice none 0 0] 26)) = w1 at *
  have hp1 := hp.keep (Keep.of h5 hu)
  have hq1 := hq.keep (Keep.of h5 hu)
  have HK1 := Lib.hid (rCheck C D lo up q w1 hq1 (by omega) l2.1 l2.2)
  have HA : Hid (∀ wz, Below w1.heap.size w1 wz → _) := Lib.hid (fun (wz : World) (bz : Below w1.heap.size w1 wz) => rAddQ A B C D lo up m n p (-q) wz (hp1.keep (Keep.of bz (by omega))) (hq1.keep (Keep.of bz (by omega))).neg (by have := bz.size; omega) hs ht.neg hmn)
  have H := Lib.hid (And.intro h1 (And.intro h2 (And.intro h3 (And.intro h4 (And.intro h5 hww)))))
  clear h1 h2 h3 h4 h5 hp hq hp1 hq1 l1 l2 hs ht hww
  have HT := Lib.hid (rTurned C D q)
  unfold qv at HK1 ⊢
  go_enter Tryz.func187, Tryz.ntmps187
  go_wp2_with (fail)
  rw [H.out.2.2.2.2.2]
  refine HK1.out.mono ?_
  rintro e w2 ⟨rfl, b2⟩
  have hz := H.out.2.2.2.1
  obtain ⟨c0, c1, c2, _⟩ := row3 ((b2.block _ (by omega)).trans H.out.1)
  have hk1 := caught_new ((b2.block _ (by omega)).trans H.out.1)
  have hk2 := caught_new ((b2.block _ (by omega)).trans H.out.2.1)
  have hr3 := (b2.block _ (by omega)).trans H.out.2.2.1
  have B2 := Lib.hid (And.intro b2 (And.intro hk1 (And.intro hk2 hr3)))
  have hsz2 := b2.size
  clear b2 hk1 hk2 hr3
  go_wp2_with (fail)
  have hsz2d : w1.heap.size ≤ w2.drew.heap.size := hsz2
  have hq1 : w.heap.size < w2.drew.heap.size := by show _ < w2.heap.size; omega
  have hq2 : w.heap.size + 1 < w2.drew.heap.size := by show _ < w2.heap.size; omega
  have hq3 : w.heap.size + 2 < w2.drew.heap.size := by show _ < w2.heap.size; omega
  refine start_ (n := 8) (S := fun w' => Caught w' w.heap.size A B p ∧ Caught w' (w.heap.size + 1) C D q) (ds := [6]) (bt 8 0) (by kernel_rfl) rfl rfl (⟨B2.out.2.1.keep (Below.refl _ _).drew (by omega), B2.out.2.2.1.keep (Below.refl _ _).drew (by omega)⟩) (fun hHeld => ?_)
  refine ld_ 0 10 ?_ hHeld ?_ ?_; rotate_left
  · rintro w' ⟨⟨s1, s2, s3⟩, ⟨s4, s5, s6⟩⟩
    go_simp; with_reducible rfl
  refine ld_ 1 11 ?_ hHeld ?_ ?_; rotate_left
  · rintro w' ⟨⟨s1, s2, s3⟩, ⟨s4, s5, s6⟩⟩
    go_simp; with_reducible rfl
  refine ca_ 2 12 Tryz.func225 #[qv C D q] ?_
  with_reducible refine (HT.out _).mono ?_
  rintro e w' ⟨rfl, hb3⟩
  refine ⟨_, rfl, (by first | (exact ⟨hHeld.1.keep hb4 (Nat.lt_of_lt_of_le hq1 hb3.size), hHeld.2.keep hb4 (Nat.lt_of_lt_of_le hq2 hb3.size)⟩) | (exact ⟨hHeld.1.keep hb3 hq1, hHeld.2.keep hb3 hq2⟩)), fun hHeld => ?_⟩
  refine nn ?_
  refine ca_ 3 13 Tryz.func38 #[qv A B p, qv C D (-q)] ?_
  with_reducible refine (HA.out _ (B2.out.1.drew.trans (hb3.mono hsz2d))).mono ?_
  rintro e w' ⟨E, F, rfl, hf4, hb4⟩
  unfold qv
  refine ⟨_, rfl, (by first | (exact ⟨hHeld.1.keep hb4 (Nat.lt_of_lt_of_le hq1 hb3.size), hHeld.2.keep hb4 (Nat.lt_of_lt_of_le hq2 hb3.size)⟩) | (exact ⟨hHeld.1.keep hb3 hq1, hHeld.2.keep hb3 hq2⟩)), fun hHeld => ?_⟩
  refine nn ?_
  refine pv_ 4 14 ?_
  refine pv_ 5 15 ?_
  refine last_ (i := 6) (N := none) (bt 8 127) rfl rfl (by kernel_rfl) (by decide) (fun K hK => ?_)
  have hrow := Lib.hid ((hb4.block _ (Nat.lt_of_lt_of_le hq3 hb3.size)).trans ((hb3.block _ hq3).trans B2.out.2.2.2))
  obtain ⟨d0, d1, d2, g0, g1, g2⟩ := row3 hrow.out
  refine skip_ (w1 := ?_) (by rfl) rfl ?_ ?_
  rotate_left
  · go_simp
    rfl
  refine hK.out _ _ ?_
  clear hK K
  refine pv_ 7 5 ?_
  refine done_ (by kernel_rfl) ?_
  go_wp2_with (fail)
  refine bodyPost_ret (results_row_tmp rfl _ _ (w.heap.size + 2) _ _ _ _ rfl (heap_set_three hrow.out _ _ _) rfl rfl rfl) rfl ?_
  have t3 := Nat.lt_of_lt_of_le hq3 hb3.size
  have t1 := Nat.lt_of_lt_of_le hq1 hb3.size
  obtain ⟨_, _, _, h4, h5, _⟩ := H.out
  exact ⟨E, F, rfl, (rat_three t3 hf4).wide (by omega), below_three (by omega) ((((h5.trans (B2.out.1.mono (by omega))).drew).trans (hb3.mono (Nat.le_of_lt hq1))).trans (hb4.mono (Nat.le_of_lt t1)))⟩
end Go.Proofs.YtfpofmifmapmfaaGreatDoor

namespace Go.Proofs.YtfpofmifmapmfaaGreatDoor
open Go.RowKit Go.Proofs.YtfpofmifmapmfaaGreatDoorW.PrintLast
set_option linter.unusedVariables false
set_option linter.unusedSimpArgs false
theorem sSign1 (v : Int) (w : World) : Calls Tryz.prog 105 #[.int .u64 v] w fun e w' => e = .returned (.bool (!(v == 0))) ∧ w = w' := by
  go_enter Tryz.func105, Tryz.ntmps105
  go_wp2
  go_ret
  exact ⟨rfl, rfl⟩
set_option maxRecDepth 100000 in
set_option maxHeartbeats 1600000 in
theorem sIndex (A : Option Addr) (c lo up : Nat) (xs : List Int) (w : World) (hA : WordsIn lo up w A xs) (hl : xs.length ≤ 35184372088832) :
    Calls Tryz.prog 163 #[.slice A xs.length c, .func (.func 105) #[] #[]] w fun e w' => (∃ r : Int, e = .returned (.int .i64 r) ∧ (decide (0 ≤ r) = true ↔ ∃ i, i < xs.length ∧ xs.getD i 0 ≠ 0)) ∧ w = w' := by
  have HS := Lib.hid sSign1
  go_enter Tryz.func163, Tryz.ntmps163
  go_wp2
  go_loop [8] (fun n => ∃ k : Nat, n = .int .i64 k ∧ k ≤ xs.length ∧ ∀ i, i < k → xs.getD i 0 = 0) (fun n => xs.length - (intOf n).toNat)
  case atStart => exact ⟨0, rfl, Nat.zero_le _, fun i h => by omega⟩
  case round =>
    obtain ⟨k, rfl, hk, hL⟩ := hrel
    have HL := Lib.hid hL
    clear hL
    by_cases h0 : k < xs.length
    · obtain ⟨b, o, rfl, hb1, hb2, hc⟩ := hA.at h0
      generalize hvv : xs.getD k 0 = v at *
      have HV := Lib.hid hvv
      clear hvv
      by_cases hz : v = 0
      · have hz' : (v == 0) = true := by simpa using hz
        have HZ := Lib.hid hz
        clear hz
        go_wp2_with (go_at_call 105; refine (HS.out _ _).mono ?_; rintro e w1 ⟨rfl, rfl⟩)
        refine ⟨⟨k + 1, vint (by omega), by omega, fun i hi => ?_⟩, by simp [intOf]; omega⟩
        by_cases e : i = k
        · rw [e, HV.out, HZ.out]
        · exact HL.out i (by omega)
      · have hz' : (v == 0) = false := by simpa using hz
        have HZ := Lib.hid hz
        clear hz
        go_wp2_with (go_at_call 105; refine (HS.out _ _).mono ?_; rintro e w1 ⟨rfl, rfl⟩)
        go_ret
        exact ⟨⟨k, rfl, ⟨fun _ => ⟨k, h0, by rw [HV.out]; exact HZ.out⟩, fun _ => decide_eq_true (by omega)⟩⟩, rfl⟩
    · obtain rfl : k = xs.length := by omega
      go_wp2
      go_ret
      exact ⟨⟨-1, rfl, ⟨fun e => absurd e (by decide), fun ⟨i, h1, h2⟩ => absurd (HL.out i h1) h2⟩⟩, rfl⟩
set_option maxRecDepth 100000 in
set_option maxHeartbeats 1600000 in
theorem sContains (A : Option Addr) (c lo up : Nat) (q : Rat) (w : World) (hA : WordsIn lo up w A (qn q)) (hl : (qn q).length ≤ 4096) :
    Calls Tryz.prog 104 #[.slice A (qn q).length c, .func (.func 105) #[] #[]] w fun e w' => e = .returned (.bool (!(decide (q.num = 0)))) ∧ w = w' := by
  have HI := Lib.hid (sIndex A c lo up (qn q) w hA (by omega))
  have HE : Hid ((∃ i, i < (qn q).length ∧ (qn q).getD i 0 ≠ 0) ↔ q.num ≠ 0) := Lib.hid ⟨fun ⟨i, h1, h2⟩ e => by rw [qn_len_zero e] at h1; omega, fun e => by
    have := qn_len_pos e
    exact ⟨(qn q).length - 1, by omega, limbs_last (by omega)⟩⟩
  go_enter Tryz.func104, Tryz.ntmps104
  go_wp2_with (fail)
  refine HI.out.mono ?_
  rintro e w1 ⟨⟨r, rfl, hr⟩, rfl⟩
  have HR := Lib.hid hr
  clear hr
  go_wp2_with (fail)
  go_ret
  refine ⟨?_, rfl⟩
  refine R1b ?_
  have h := HR.out.trans HE.out
  rw [Bool.eq_iff_iff, h]
  simp
set_option maxRecDepth 100000 in
set_option maxHeartbeats 1600000 in
theorem rSignQ (A B : Option Addr) (lo up : Nat) (q : Rat) (w : World) (h : RatIn lo up w A B q) (hu : up ≤ w.heap.size) (hl : (qn q).length ≤ 4096) :
    Calls Tryz.prog 44 #[qv A B q] w fun e w' => e = .returned (.int .i64 (qsgn q)) ∧ Below w.heap.size w w' := by
  have HI := Lib.hid (sContains A (qn q).length lo up q _ (h.n.keep ((Keep.refl _ _ _).alloc hu (.cells #[.bool (decide (q.num < 0)), .slice A (qn q).length (qn q).length, .slice B (qd q).length (qd q).length] 26))) hl)
  unfold qv
  by_cases h0 : q.num = 0
  · have hb : decide (q.num = 0) = true := decide_eq_true h0
    have HQ : Hid (qsgn q = 0) := Lib.hid (if_pos h0)
    clear h0
    rw [hb] at HI
    clear hb
    go_enter Tryz.func44, Tryz.ntmps44
    go_wp2_with (go_at_call 104; refine HI.out.mono ?_; rintro e w1 ⟨rfl, rfl⟩)
    go_ret
    exact ⟨by rw [HQ.out]; rfl, (by repeat (first | exact Below.refl _ _ | refine belowN ?_ _ | refine Below.drew ?_ | refine Below.alloc ?_ (by first | exact Nat.le_refl _ | (simp; done) | (simp; omega) | omega) _))⟩
  · have hb : decide (q.num = 0) = false := decide_eq_false h0
    have HQ : Hid (qsgn q = if q.num < 0 then -1 else 1) := Lib.hid (if_neg h0)
    clear h0
    rw [hb] at HI
    clear hb
    by_cases h1 : q.num < 0
    · have hb : decide (q.num < 0) = true := decide_eq_true h1
      have HQ2 : Hid (qsgn q = -1) := Lib.hid (by rw [HQ.out, if_pos h1])
      rw [hb] at HI ⊢
      clear h1 hb HQ
      go_enter Tryz.func44, Tryz.ntmps44
      go_wp2_with (go_at_call 104; refine HI.out.mono ?_; rintro e w1 ⟨rfl, rfl⟩)
      go_ret
      exact ⟨by rw [HQ2.out]; rfl, (by repeat (first | exact Below.refl _ _ | refine belowN ?_ _ | refine Below.drew ?_ | refine Below.alloc ?_ (by first | exact Nat.le_refl _ | (simp; done) | (simp; omega) | omega) _))⟩
    · have hb : decide (q.num < 0) = false := decide_eq_false h1
      have HQ2 : Hid (qsgn q = 1) := Lib.hid (by rw [HQ.out, if_neg h1])
      rw [hb] at HI ⊢
      clear h1 hb HQ
      go_enter Tryz.func44, Tryz.ntmps44
      go_wp2_with (go_at_call 104; refine HI.out.mono ?_; rintro e w1 ⟨rfl, rfl⟩)
      go_ret
      exact ⟨by rw [HQ2.out]; rfl, (by repeat (first | exact Below.refl _ _ | refine belowN ?_ _ | refine Below.drew ?_ | refine Below.alloc ?_ (by first | exact Nat.le_refl _ | (simp; done) | (simp; omega) | omega) _))⟩
end Go.Proofs.YtfpofmifmapmfaaGreatDoor

namespace Go.Proofs.YtfpofmifmapmfaaGreatDoor
open Go.RowKit Go.Proofs.YtfpofmifmapmfaaGreatDoorW.PrintLast
set_option linter.unusedVariables false
set_option linter.unusedSimpArgs false
theorem But.setNew {g : Nat} {a b : World} (h : But g a b) {p : Addr} (hp : a.heap.size ≤ p.block) (v : Value) : But g a (b.setCell p v) :=
  ⟨h.os, h.tape, h.output, by simp [World.setCell]; exact h.size, fun i h1 h2 => (Below.heap_setCell b _ v i (by omega)).trans (h.block i h1 h2)⟩
theorem row1 {w : World} {g : Nat} {x : Value} {t : TypeId} (h : w.heap[g]? = some (.cells #[x] t (0, 0))) : w.cell? ⟨g, 0, none⟩ = some x ∧ w.frozen? ⟨g, 0, none⟩ = false :=
  ⟨by rw [cell_of_cells h]; rfl, free_of_cells h 0⟩
def cmpFin (bo g : Nat) (v a b c : Value) (w : World) : World := (((w.setCell ⟨bo, 0, none⟩ v).setCell ⟨g, 0, none⟩ a).setCell ⟨g, 1, none⟩ b).setCell ⟨g, 2, none⟩ c
theorem cmp_fin {w w1 : World} {bo : Nat} {x y z v : Value} {t t' : TypeId} (h : w1.heap[bo]? = some (.cells #[v] t' (0, 0)) ∧ w1.heap[w.heap.size]? = some (.cells #[x, y, z] t (0, 0)) ∧ But bo w w1) (hbo : bo < w.heap.size) (v' a b c : Value) :
    (cmpFin bo w.heap.size v' a b c w1).heap[bo]? = some (.cells #[v'] t' (0, 0)) ∧ (cmpFin bo w.heap.size v' a b c w1).heap[w.heap.size]? = some (.cells #[a, b, c] t (0, 0)) ∧ But bo w (cmpFin bo w.heap.size v' a b c w1) := by
  obtain ⟨ho, hr, hb⟩ := h
  unfold cmpFin
  refine ⟨?_, heap_set_three (a := x) (b := y) (c := z) ?_ _ _ _, (((hb.setCell _ _).setNew (Nat.le_refl _) _).setNew (Nat.le_refl _) _).setNew (Nat.le_refl _) _⟩
  · rw [Below.heap_setCell _ _ _ _ (by show bo ≠ w.heap.size; omega), Below.heap_setCell _ _ _ _ (by show bo ≠ w.heap.size; omega), Below.heap_setCell _ _ _ _ (by show bo ≠ w.heap.size; omega)]
    exact heap_set_cell ho 0 v'
  · rw [Below.heap_setCell _ _ _ _ (by show w.heap.size ≠ bo; omega), hr]
theorem cmp_set {w w1 : World} {bo : Nat} {x y z v : Value} {t t' : TypeId} (h : w1.heap[bo]? = some (.cells #[v] t' (0, 0)) ∧ w1.heap[w.heap.size]? = some (.cells #[x, y, z] t (0, 0)) ∧ But bo w w1) (hbo : bo < w.heap.size) (v' : Value) :
    (w1.setCell ⟨bo, 0, none⟩ v').heap[bo]? = some (.cells #[v'] t' (0, 0)) ∧ (w1.setCell ⟨bo, 0, none⟩ v').heap[w.heap.size]? = some (.cells #[x, y, z] t (0, 0)) ∧ But bo w (w1.setCell ⟨bo, 0, none⟩ v') := by
  obtain ⟨ho, hr, hb⟩ := h
  exact ⟨heap_set_cell ho 0 v', by rw [Below.heap_setCell _ _ _ _ (by show w.heap.size ≠ bo; omega), hr], hb.setCell _ _⟩
theorem but_of {w w1 : World} {bo : Nat} (h : Below w.heap.size w w1) : But bo w w1 := But.of h
set_option maxRecDepth 100000 in
set_option maxHeartbeats 3200000 in
theorem rCmpBody (bp bq bo : Nat) (A B C D : Option Addr) (lo up m n : Nat) (p q : Rat) (w : World) (hp : RatIn lo up w A B p) (hq : RatIn lo up w C D q) (hu : up ≤ w.heap.size)
    (hcp : Caught w bp A B p) (hcq : Caught w bq C D q) (hbp : bp < w.heap.size) (hbq : bq < w.heap.size) (hs : Sz m p) (ht : Sz n q) (hmn : m + n + 1 ≤ 262144) (ho : w.heap[bo]? = some (.cells #[.int .i64 0] 3 (0, 0))) :
    Calls Tryz.prog 264 #[.pointer (some ⟨bp, 0, none⟩), .pointer (some ⟨bq, 0, none⟩), .pointer (some ⟨bo, 0, none⟩)] w fun e w' => e = .returned (.agg #[.bool false, .slice none 0 0, .slice none 0 0]) ∧ w'.heap[bo]? = some (.cells #[.int .i64 (qcmp p q)] 3 (0, 0)) ∧ But bo w w' := by
  have e1 : val (qn p) = (p.num.natAbs : Nat) := val_limbs (by omega)
  have e2 : val (qn q) = (q.num.natAbs : Nat) := val_limbs (by omega)
  have e3 : val (qd p) = (p.den : Nat) := val_limbs (by omega)
  have e4 : val (qd q) = (q.den : Nat) := val_limbs (by omega)
  obtain ⟨l1, l2⟩ := hs.lens (by omega)
  obtain ⟨l3, l4⟩ := ht.lens (by omega)
  have x1 : val (qn p) * val (qd q) = an p q := by rw [e1, e4]; rfl
  have x2 : val (qn q) * val (qd p) = an q p := by rw [e2, e3]; rfl
  have z1 := an_lt hs ht
  have z2 := an_lt ht hs
  have n1 := an_nonneg p q
  have n2 := an_nonneg q p
  have q1 := len_of z1 (by omega)
  have q2 := len_of z2 (by omega)
  have hbo := heap_lt ho
  have HM : Hid (∀ (w' : World) (hk : Keep lo up w w') (hz : up ≤ w'.heap.size),
      (Calls Tryz.prog 92 #[.slice A (qn p).length (qn p).length, .slice D (qd q).length (qd q).length] w' fun e w'' => ∃ A1, e = .returned (.slice A1 (limbs (an p q)).length (limbs (an p q)).length) ∧ FreshAt w'.heap.size w'' A1 (limbs (an p q)).length (limbs (an p q)) ∧ Below w'.heap.size w' w'') ∧
      (Calls Tryz.prog 92 #[.slice C (qn q).length (qn q).length, .slice B (qd p).length (qd p).length] w' fun e w'' => ∃ A1, e = .returned (.slice A1 (limbs (an q p)).length (limbs (an q p)).length) ∧ FreshAt w'.heap.size w'' A1 (limbs (an q p)).length (limbs (an q p)) ∧ Below w'.heap.size w' w'')) := Lib.hid fun w' hk hz => by
    have k1 := rMul A D (qn p).length (qd q).length lo up (qn p) (qd q) w' (limbs_ws _) (hp.n.keep hk) (limbs_ws _) (hq.d.keep hk) hz (Nat.le_refl _) (Nat.le_refl _) (by omega) (by omega) (by rw [x1]; exact q1)
    have k2 := rMul C B (qn q).length (qd p).length lo up (qn q) (qd p) w' (limbs_ws _) (hq.n.keep hk) (limbs_ws _) (hp.d.keep hk) hz (Nat.le_refl _) (Nat.le_refl _) (by omega) (by omega) (by rw [x2]; exact q2)
    rw [x1] at k1; rw [x2] at k2
    exact ⟨k1, k2⟩
  have HG : Hid (∀ (w' : World) (hk : Keep lo up w w') (hz : up ≤ w'.heap.size),
      (Calls Tryz.prog 44 #[qv A B p] w' fun e w'' => e = .returned (.int .i64 (qsgn p)) ∧ Below w'.heap.size w' w'') ∧
      (Calls Tryz.prog 44 #[qv C D q] w' fun e w'' => e = .returned (.int .i64 (qsgn q)) ∧ Below w'.heap.size w' w'')) := Lib.hid fun w' hk hz =>
    ⟨rSignQ A B lo up p w' (hp.keep hk) hz l1, rSignQ C D lo up q w' (hq.keep hk) hz l3⟩
  have HS := Lib.hid (And.intro (@qcmp_of_sgn_lt p q) (And.intro (@qcmp_of_sgn_gt p q) (@qcmp_of_sgn_eq p q)))
  clear x1 x2 e1 e2 e3 e4 z1 z2 hs ht
  generalize an p q = N at *
  generalize an q p = M at *
  generalize qsgn p = s at *
  generalize qsgn q = t at *
  generalize qcmp p q = r at *
  have HC := Lib.hid (And.intro hcp (And.intro hcq ho))
  clear hcp hcq hp hq ho
  go_enter Tryz.func264, Tryz.ntmps264
  go_wp2_with (fail)
  have hka : Keep lo up w (w.alloc (.cells #[.bool false, .slice none 0 0, .slice none 0 0] 26)) := (Keep.refl _ _ _).alloc hu _
  have hba : Below w.heap.size w (w.alloc (.cells #[.bool false, .slice none 0 0, .slice none 0 0] 26)) := (Below.refl _ _).alloc (Nat.le_refl _) _
  have hba0 : (w.alloc (.cells #[.bool false, .slice none 0 0, .slice none 0 0] 26)).drew.heap[w.heap.size]? = some (.cells #[.bool false, .slice none 0 0, .slice none 0 0] 26 (0, 0)) := by
    show (w.alloc _).heap[w.heap.size]? = _
    rw [alloc_heap_at, if_pos rfl]
  refine start_ (n := 6) (S := fun w' => Caught w' bp A B p ∧ Caught w' bq C D q) (ds := []) (bt 6 0) (by kernel_rfl) rfl rfl (⟨HC.out.1.keep hba.drew hbp, HC.out.2.1.keep hba.drew hbq⟩) (fun hHeld => ?_)
  refine ld_ 0 8 ?_ hHeld ?_ ?_; rotate_left
  · rintro w' ⟨⟨s1, s2, s3⟩, ⟨s4, s5, s6⟩⟩
    go_simp; with_reducible rfl
  refine ld_ 2 10 ?_ hHeld ?_ ?_; rotate_left
  · rintro w' ⟨⟨s1, s2, s3⟩, ⟨s4, s5, s6⟩⟩
    go_simp; with_reducible rfl
  refine ca_ 1 9 Tryz.func44 #[qv A B p] ?_
  with_reducible refine ((HG.out _ hka.drew (by simp; omega)).1).mono ?_
  rintro e w' ⟨rfl, hb1⟩
  refine ⟨_, rfl, (by first | (exact ⟨hHeld.1.keep hb2 (lt2 hbp hb1), hHeld.2.keep hb2 (lt2 hbq hb1)⟩) | (exact ⟨hHeld.1.keep hb1 (lt1 hbp), hHeld.2.keep hb1 (lt1 hbq)⟩)), fun hHeld => ?_⟩
  refine nn ?_
  refine ca_ 3 11 Tryz.func44 #[qv C D q] ?_
  with_reducible refine ((HG.out _ (hka.drew.below hb1 (by simp; omega)) (by have := hb1.size; simp at this; omega)).2).mono ?_
  rintro e w' ⟨rfl, hb2⟩
  refine ⟨_, rfl, (by first | (exact ⟨hHeld.1.keep hb2 (lt2 hbp hb1), hHeld.2.keep hb2 (lt2 hbq hb1)⟩) | (exact ⟨hHeld.1.keep hb1 (lt1 hbp), hHeld.2.keep hb1 (lt1 hbq)⟩)), fun hHeld => ?_⟩
  refine nn ?_
  refine pv_ 4 4 ?_
  refine pv_ 5 5 ?_
  refine done_ (by kernel_rfl) ?_
  have t1 := lt0 w (.cells #[.bool false, .slice none 0 0, .slice none 0 0] 26)
  have hB := (hba.drew.trans (hb1.mono (Nat.le_of_lt t1))).trans (hb2.mono (Nat.le_of_lt (Nat.lt_of_lt_of_le t1 hb1.size)))
  have hrow := ((hb2.block _ (Nat.lt_of_lt_of_le t1 hb1.size)).trans (hb1.block _ t1)).trans hba0
  clear hb1 hb2 hba hba0 hka t1
  generalize w' = wr at *
  have hC1 := HC.out.1.keep hB hbp
  have hC2 := HC.out.2.1.keep hB hbq
  have ho := (hB.block bo hbo).trans HC.out.2.2
  have hsz := heap_lt hrow
  have HQ := Lib.hid (And.intro hC1 (And.intro hC2 (And.intro hB (And.intro hrow ho))))
  obtain ⟨o1, o2⟩ := row1 ho
  obtain ⟨r0, r1, r2, r3, r4, r5⟩ := row3 hrow
  clear hC1 hC2 hB hrow ho HC HG
  rcases Int.lt_trichotomy s t with hlt | heq | hgt
  · have HR := Lib.hid (HS.out.1 hlt)
    clear HS
    have hn : ¬ t < s := by omega
    go_wp2_with (fail)
    have hF := cmp_fin (w := w) ⟨HQ.out.2.2.2.2, HQ.out.2.2.2.1, But.of HQ.out.2.2.1⟩ hbo (.int .i64 (-1)) (.bool false) (.slice none 0 0) (.slice none 0 0)
    refine bodyPost_ret (results_cell_row rfl _ _ w.heap.size _ _ _ _ rfl hF.2.1 rfl rfl rfl) rfl ?_
    rw [HR.out]
    exact ⟨rfl, hF.1, hF.2.2⟩
  · subst heq
    have HR := Lib.hid (HS.out.2.2 rfl)
    clear HS
    have hn : ¬ s < s := by omega
    have hbp' := Nat.lt_of_lt_of_le hbp HQ.out.2.2.1.size
    have hbq' := Nat.lt_of_lt_of_le hbq HQ.out.2.2.1.size
    have hbpd : bp < wr.drew.heap.size := hbp'
    have hbqd : bq < wr.drew.heap.size := hbq'
    have hkr : Keep lo up w wr.drew := (Keep.of HQ.out.2.2.1 hu).drew
    have hur : up ≤ wr.drew.heap.size := Nat.le_trans hu HQ.out.2.2.1.size
    go_wp2_with (fail)
    refine start_ (n := 12) (S := fun w' => Caught w' bp A B p ∧ Caught w' bq C D q) (ds := []) (bt 12 0) (by kernel_rfl) rfl rfl (⟨HQ.out.1.keep (Below.refl _ _).drew hbp', HQ.out.2.1.keep (Below.refl _ _).drew hbq'⟩) (fun hHeld => ?_)
    refine pv_ 0 12 ?_
    refine ld_ 1 13 ?_ hHeld ?_ ?_; rotate_left
    · rintro w' ⟨⟨s1, s2, s3⟩, ⟨s4, s5, s6⟩⟩
      go_simp; with_reducible rfl
    refine pv_ 2 14 ?_
    refine ld_ 3 15 ?_ hHeld ?_ ?_; rotate_left
    · rintro w' ⟨⟨s1, s2, s3⟩, ⟨s4, s5, s6⟩⟩
      go_simp; with_reducible rfl
    refine pv_ 5 17 ?_
    refine ld_ 6 18 ?_ hHeld ?_ ?_; rotate_left
    · rintro w' ⟨⟨s1, s2, s3⟩, ⟨s4, s5, s6⟩⟩
      go_simp; with_reducible rfl
    refine pv_ 7 19 ?_
    refine ld_ 8 20 ?_ hHeld ?_ ?_; rotate_left
    · rintro w' ⟨⟨s1, s2, s3⟩, ⟨s4, s5, s6⟩⟩
      go_simp; with_reducible rfl
    refine ca_ 4 16 Tryz.func92 #[.slice A (qn p).length (qn p).length, .slice D (qd q).length (qd q).length] ?_
    with_reducible refine ((HM.out _ hkr hur).1).mono ?_
    rintro e w' ⟨A1, rfl, hf1, hb1⟩
    refine ⟨_, rfl, (by first | (exact ⟨hHeld.1.keep hb2 (Nat.lt_of_lt_of_le hbpd hb1.size), hHeld.2.keep hb2 (Nat.lt_of_lt_of_le hbqd hb1.size)⟩) | (exact ⟨hHeld.1.keep hb1 hbpd, hHeld.2.keep hb1 hbqd⟩)), fun hHeld => ?_⟩
    refine nn ?_
    refine ca_ 9 21 Tryz.func92 #[.slice C (qn q).length (qn q).length, .slice B (qd p).length (qd p).length] ?_
    with_reducible refine ((HM.out _ (hkr.below hb1 hur) (Nat.le_trans hur hb1.size)).2).mono ?_
    rintro e w' ⟨A2, rfl, hf2, hb2⟩
    refine ⟨_, rfl, (by first | (exact ⟨hHeld.1.keep hb2 (Nat.lt_of_lt_of_le hbpd hb1.size), hHeld.2.keep hb2 (Nat.lt_of_lt_of_le hbqd hb1.size)⟩) | (exact ⟨hHeld.1.keep hb1 hbpd, hHeld.2.keep hb1 hbqd⟩)), fun hHeld => ?_⟩
    refine nn ?_
    refine pv_ 10 6 ?_
    refine pv_ 11 7 ?_
    refine done_ (by kernel_rfl) ?_
    have hszd : w.heap.size < wr.drew.heap.size := hsz
    have hrow := (hb2.block _ (Nat.lt_of_lt_of_le hszd hb1.size)).trans ((hb1.block _ hszd).trans HQ.out.2.2.2.1)
    have hbod : bo < wr.drew.heap.size := Nat.lt_trans hbo hszd
    have ho := (hb2.block _ (Nat.lt_of_lt_of_le hbod hb1.size)).trans ((hb1.block _ hbod).trans HQ.out.2.2.2.2)
    have hB := (HQ.out.2.2.1.drew.trans (hb1.mono (Nat.le_of_lt hszd))).trans (hb2.mono (Nat.le_of_lt (Nat.lt_of_lt_of_le hszd hb1.size)))
    have hF1 := hf1.words.keep (Keep.of hb2 (Nat.le_refl _))
    have hF2 := hf2.words
    have HN := Lib.hid (nCmp A1 A2 (limbs N).length (limbs M).length _ _ _ _ (limbs N) (limbs M) _ (limbs_ws _) hF1 (limbs_ws _) hF2 (by omega) (by omega))
    clear hF1 hF2 hf1 hf2 hb1 hb2 HQ hkr hur hHeld
    generalize w' = wz at *
    have HQ := Lib.hid (And.intro ho (And.intro hrow (but_of (bo := bo) hB)))
    clear hrow ho hB o1 o2 r0 r1 r2 r3 r4 r5
    go_wp2_with (fail)
    refine HN.out.mono ?_
    rintro e w5 ⟨rfl, qq, rfl⟩
    rw [val_limbs n1, val_limbs n2]
    have HQ5 : Hid ((wz.drewN qq).heap[bo]? = _ ∧ (wz.drewN qq).heap[w.heap.size]? = _ ∧ But bo w (wz.drewN qq)) := Lib.hid ⟨HQ.out.1, HQ.out.2.1, HQ.out.2.2.drewN qq⟩
    obtain ⟨o1, o2⟩ := row1 HQ5.out.1
    obtain ⟨r0, r1, r2, r3, r4, r5⟩ := row3 HQ5.out.2.1
    clear HQ HN
    generalize wz.drewN qq = wy at *
    have hcc : IntKind.i64.wrap (- icmp N M) = - icmp N M := by unfold icmp; split <;> (try split) <;> rfl
    generalize icmp N M = c at *
    by_cases hs0 : s < 0
    · rw [if_pos hs0] at HR
      go_wp2_with (fail)
      have hF := cmp_fin (w := w) (cmp_set HQ5.out hbo (.int .i64 c)) hbo (.int .i64 (-c)) (.bool false) (.slice none 0 0) (.slice none 0 0)
      refine bodyPost_ret (results_cell_row rfl _ _ w.heap.size _ _ _ _ rfl hF.2.1 rfl rfl rfl) rfl ?_
      rw [HR.out]
      exact ⟨rfl, hF.1, hF.2.2⟩
    · rw [if_neg hs0] at HR
      go_wp2_with (fail)
      have hF := cmp_fin (w := w) HQ5.out hbo (.int .i64 c) (.bool false) (.slice none 0 0) (.slice none 0 0)
      refine bodyPost_ret (results_cell_row rfl _ _ w.heap.size _ _ _ _ rfl hF.2.1 rfl rfl rfl) rfl ?_
      rw [HR.out]
      exact ⟨rfl, hF.1, hF.2.2⟩
  · have HR := Lib.hid (HS.out.2.1 hgt)
    clear HS
    have hn : ¬ s < t := by omega
    go_wp2_with (fail)
    have hF := cmp_fin (w := w) ⟨HQ.out.2.2.2.2, HQ.out.2.2.2.1, But.of HQ.out.2.2.1⟩ hbo (.int .i64 1) (.bool false) (.slice none 0 0) (.slice none 0 0)
    refine bodyPost_ret (results_cell_row rfl _ _ w.heap.size _ _ _ _ rfl hF.2.1 rfl rfl rfl) rfl ?_
    rw [HR.out]
    exact ⟨rfl, hF.1, hF.2.2⟩
end Go.Proofs.YtfpofmifmapmfaaGreatDoor

namespace Go.Proofs.YtfpofmifmapmfaaGreatDoor
open Go.RowKit Go.Proofs.YtfpofmifmapmfaaGreatDoorW.PrintLast
set_option linter.unusedVariables false
set_option linter.unusedSimpArgs false
set_option maxRecDepth 100000 in
set_option maxHeartbeats 3200000 in
theorem rCmpQ (A B C D : Option Addr) (lo up m n : Nat) (p q : Rat) (w : World) (hp : RatIn lo up w A B p) (hq : RatIn lo up w C D q) (hu : up ≤ w.heap.size)
    (hs : Sz m p) (ht : Sz n q) (hmn : m + n + 1 ≤ 262144) :
    Calls Tryz.prog 244 #[qv A B p, qv C D q] w fun e w' => e = .returned (.tuple #[.int .i64 (qcmp p q), .int .i64 0]) ∧ Below w.heap.size w w' := by
  have l1 := hs.lens (by omega)
  have l2 := ht.lens (by omega)
  obtain ⟨h1, h2, h3, h4, h5⟩ := three_new w (.cells #[.bool (decide (p.num < 0)), .slice A (qn p).length (qn p).length, .slice B (qd p).length (qd p).length] 26) (.cells #[.bool (decide (q.num < 0)), .slice C (qn q).length (qn q).length, .slice D (qd q).length (qd q).length] 26) (.cells #[.int .i64 0] 3)
  generalize hww : (((w.alloc (.cells #[.bool (decide (p.num < 0)), .slice A (qn p).length (qn p).length, .slice B (qd p).length (qd p).length] 26)).alloc (.cells #[.bool (decide (q.num < 0)), .slice C (qn q).length (qn q).length, .slice D (qd q).length (qd q).length] 26)).alloc (.cells #[.int .i64 0] 3)) = w1 at *
  have hp1 := hp.keep (Keep.of h5 hu)
  have hq1 := hq.keep (Keep.of h5 hu)
  have HR := Lib.hid (rReckonedCmp (.pointer (some ⟨w.heap.size, 0, none⟩)) (.pointer (some ⟨w.heap.size + 1, 0, none⟩)) (.pointer (some ⟨w.heap.size + 2, 0, none⟩)) A B C D lo up p q w1 (fun s E l l' F m m' w' => (s = false ∧ E = none ∧ l = 0 ∧ l' = 0 ∧ F = none ∧ m = 0 ∧ m' = 0) ∧ w'.heap[w.heap.size + 2]? = some (.cells #[.int .i64 (qcmp p q)] 3 (0, 0)) ∧ Below w.heap.size w w') hp1 hq1 (by omega) l1.1 l1.2 l2.1 l2.2 (by
    intro w0 b0 s0
    rw [h4] at b0
    refine (rCmpBody w.heap.size (w.heap.size + 1) (w.heap.size + 2) A B C D lo up m n p q w0 (hp1.keep (Keep.of b0 (by omega))) (hq1.keep (Keep.of b0 (by omega))) (by omega) (caught_new ((b0.block _ (by omega)).trans h1)) (caught_new ((b0.block _ (by omega)).trans h2)) (by omega) (by omega) hs ht hmn ((b0.block _ (by omega)).trans h3)).mono ?_
    rintro e w' ⟨rfl, hf, hb⟩
    exact ⟨_, _, _, _, _, _, _, rfl, ⟨⟨rfl, rfl, rfl, rfl, rfl, rfl, rfl⟩, hf, _root_.Go.Proofs.YtfpofmifmapmfaaGreatDoor.Below.but (h5.trans (b0.mono (by omega))) hb (by omega) (by omega)⟩, hb.keep (by omega) (by omega)⟩))
  rw [h4] at HR
  have H := Lib.hid (And.intro h4 hww)
  clear h1 h2 h3 h4 h5 hp hq hp1 hq1 l1 l2 hs ht hww
  have hmf : ∀ (fn : Fn) (first cap : Array Value) (w : World), (Instr.makeFunc fn first cap).run Tryz.prog w = .ok (.func fn first cap) w := fun _ _ _ _ => rfl
  unfold qv at *
  go_enter Tryz.func244, Tryz.ntmps244
  go_wp2_with (fail)
  rw [H.out.2]
  refine HR.out.mono ?_
  rintro e w2 ⟨s, E, l, l', F, m0, m0', w3, rfl, ⟨⟨rfl, rfl, rfl, rfl, rfl, rfl, rfl⟩, hf, hb⟩, rfl⟩
  have hc := heap_fourSet (n := w.heap.size + 3) (v1 := .bool false) (v2 := .slice none 0 0) (v3 := .slice none 0 0) (v4 := .int .i64 0) hf (by omega)
  have hb2 := (fourSet_below (n := w.heap.size + 3) (v1 := .bool false) (v2 := .slice none 0 0) (v3 := .slice none 0 0) (v4 := .int .i64 0) (Below.refl (w.heap.size + 3) w3))
  have hb3 := hb.trans (hb2.mono (by omega))
  generalize (((w3.setCell ⟨w.heap.size + 3 + 2, 0, none⟩ (.bool false)).setCell ⟨w.heap.size + 3 + 2, 1, none⟩ (.slice none 0 0)).setCell ⟨w.heap.size + 3 + 2, 2, none⟩ (.slice none 0 0)).setCell ⟨w.heap.size + 3 + 3, 0, none⟩ (.int .i64 0) = w4 at *
  obtain ⟨c0, c1⟩ := row1 hc
  have hsz := heap_lt hc
  have HB := Lib.hid hb3
  clear hb2 hb3 hb hf hc
  go_wp2_with (fail)
  go_ret2
  exact ⟨rfl, HB.out.alloc (by omega) _⟩
end Go.Proofs.YtfpofmifmapmfaaGreatDoor

namespace Go.Proofs.YtfpofmifmapmfaaGreatDoor
open Go.RowKit Go.Proofs.YtfpofmifmapmfaaGreatDoorW.PrintLast
set_option linter.unusedVariables false
set_option linter.unusedSimpArgs false
theorem alloc_new (w : World) (o : Obj) : (w.alloc o).heap[w.heap.size]? = some o := by rw [alloc_heap_at, if_pos rfl]
theorem alloc_old {w : World} {k : Nat} {o x : Obj} (h : w.heap[k]? = some o) : (w.alloc x).heap[k]? = some o := by
  have := heap_lt h
  rw [alloc_heap_at, if_neg (by omega), h]
theorem alloc_at {w : World} {k : Nat} (o : Obj) (h : k = w.heap.size) : (w.alloc o).heap[k]? = some o := by subst h; exact alloc_new w o
theorem norm_row (w : World) (xs : List Int) : FreshAt w.heap.size (w.alloc (.cells (wv xs).toArray 36 (0, 0))) (some ⟨w.heap.size, 0, none⟩) xs.length xs :=
  FreshAt.row (Nat.le_refl _) (by rw [alloc_heap_at, if_pos rfl])
set_option maxRecDepth 100000 in
set_option maxHeartbeats 3200000 in
theorem rNewQ (neg : Bool) (A B : Option Addr) (c d lo up : Nat) (xs ys : List Int) (w : World) (hx : Ws xs) (hA : WordsIn lo up w A xs) (hy : Ws ys) (hB : WordsIn lo up w B ys) (hu : up ≤ w.heap.size)
    (hy0 : 0 < val ys) (hxl : xs.length ≤ 17592186040000) (hyl : ys.length ≤ 17592186040000) (hn : (limbs (val xs)).length ≤ 4096) (hd : (limbs (val ys)).length ≤ 4096) :
    Calls Tryz.prog 183 #[.bool neg, .slice A xs.length c, .slice B ys.length d] w fun e w' => ∃ E F, e = .returned (.tuple #[qv E F (quo neg (val xs) (val ys)), .int .i64 0]) ∧ RatFresh w.heap.size w' E F (quo neg (val xs) (val ys)) ∧ Below w.heap.size w w' := by
  have hxv := val_nonneg hx
  have hld : 0 < (limbs (val ys)).length := by have := (limbs_len_zero (show 0 ≤ val ys by omega)).1; omega
  have HN1 := Lib.hid (nNorm A c lo up xs (w.alloc (.cells #[.bool false, .slice none 0 0, .slice none 0 0] 26)) hx (hA.keep ((Keep.refl _ _ _).alloc hu _)) (by simp; omega) (by omega))
  have HN2 : Hid (∀ o1, Calls Tryz.prog 147 #[.slice B ys.length d] ((w.alloc (.cells #[.bool false, .slice none 0 0, .slice none 0 0] 26)).alloc o1) _) := Lib.hid fun o1 => nNorm B d lo up ys ((w.alloc (.cells #[.bool false, .slice none 0 0, .slice none 0 0] 26)).alloc o1) hy (hB.keep (((Keep.refl _ _ _).alloc hu _).alloc (by simp; omega) _)) (by simp; omega) (by omega)
  have hb : ((((limbs (val ys)).length : Nat) : Int) == 0) = false := beq_eq_false_iff_ne.2 (by omega)
  have H1 := three_new w (.cells #[.bool false, .slice none 0 0, .slice none 0 0] 26) (.cells (wv (limbs (val xs))).toArray 36 (0, 0)) (.cells (wv (limbs (val ys))).toArray 36 (0, 0))
  have HL := Lib.hid (fun (w3 : World) (hA' : WordsIn 0 w3.heap.size w3 (some ⟨w.heap.size + 1, 0, none⟩) (limbs (val xs))) (hB' : WordsIn 0 w3.heap.size w3 (some ⟨w.heap.size + 2, 0, none⟩) (limbs (val ys))) => rLowest neg (some ⟨w.heap.size + 1, 0, none⟩) (some ⟨w.heap.size + 2, 0, none⟩) (limbs (val xs)).length (limbs (val ys)).length 0 w3.heap.size (limbs (val xs)) (limbs (val ys)) w3 (limbs_ws _) hA' (limbs_ws _) hB' (Nat.le_refl _) (by rw [val_limbs (by omega)]; exact hy0) (by omega) (by omega))
  rw [val_limbs hxv, val_limbs (by omega)] at HL
  generalize val xs = N at *
  generalize val ys = D' at *
  have H := Lib.hid H1
  clear H1 hA hB hx hy
  go_enter Tryz.func183, Tryz.ntmps183
  go_wp2_with (first | (go_at_call_of 147 (Value.slice A xs.length c); refine HN1.out.mono ?_; rintro e w1 ⟨rfl, rfl⟩) | (go_at_call_of 147 (Value.slice B ys.length d); refine (HN2.out _).mono ?_; rintro e w2 ⟨rfl, rfl⟩))
  obtain ⟨g1, g2, g3, g4, g5⟩ := H.out
  have f2 := (FreshAt.row (Nat.zero_le _) g2).words
  have f3 := (FreshAt.row (Nat.zero_le _) g3).words
  clear HN1 HN2 H
  generalize (((w.alloc (.cells #[.bool false, .slice none 0 0, .slice none 0 0] 26)).alloc (.cells (wv (limbs N)).toArray 36 (0, 0))).alloc (.cells (wv (limbs D')).toArray 36 (0, 0))) = w3 at *
  refine (HL.out w3 f2 f3).mono ?_
  rintro e w4 ⟨E, F, rfl, hf, hb⟩
  have hrow := (hb.block _ (by omega)).trans g1
  obtain ⟨d0, d1, d2, d3, d4, d5⟩ := row3 hrow
  have HQ := Lib.hid (And.intro hrow (And.intro hf (And.intro (g5.trans (hb.mono (by omega))) g4)))
  clear f2 f3 hrow hf hb g1 g2 g3 g4 g5
  unfold qv
  go_wp2_with (fail)
  obtain ⟨r1, r2, r3, r4⟩ := HQ.out
  refine bodyPost_ret (results_row_tmp rfl _ _ w.heap.size _ _ _ _ rfl (heap_set_three r1 _ _ _) rfl rfl rfl) rfl ?_
  exact ⟨E, F, rfl, (rat_three (by omega) r2).wide (by omega), below_three (by omega) r3⟩
set_option maxRecDepth 100000 in
set_option maxHeartbeats 3200000 in
theorem rIntQ (v : Int) (w : World) (h0 : 0 ≤ v) (h1 : v ≤ 9223372036854775807) :
    Calls Tryz.prog 35 #[.int .i64 v] w fun e w' => ∃ E F, e = .returned (qv E F (v : Rat)) ∧ RatFresh w.heap.size w' E F (v : Rat) ∧ Below w.heap.size w w' := by
  have hF := fun wz => nFrom v wz h0 (by omega)
  have hG := fun wz => nFrom 1 wz (by omega) (by omega)
  have e1 : qn (v : Rat) = limbs v := by unfold qn; rw [Rat.num_intCast]; congr 1; omega
  have e2 : qd (v : Rat) = limbs 1 := by unfold qd; rw [Rat.den_intCast]; rfl
  have e3 : decide ((v : Rat).num < 0) = false := by rw [Rat.num_intCast]; exact decide_eq_false (by omega)
  have HF := Lib.hid (And.intro hF hG)
  have HE := Lib.hid (And.intro e1 (And.intro e2 e3))
  have hw : wrap64 v = v := by unfold wrap64; omega
  clear hF hG e1 e2 e3
  go_enter Tryz.func35, Tryz.ntmps35
  go_wp2_with (first | (go_at_call_of 88 (Value.int IntKind.u64 1); refine (HF.out.2 _).mono ?_; rintro e w2 ⟨rfl, rfl⟩) | (go_at_call_of 88 (Value.int IntKind.u64 v); refine (HF.out.1 _).mono ?_; rintro e w1 ⟨rfl, rfl⟩))
  refine bodyPost_ret (results_cell_row rfl _ _ w.heap.size _ _ _ _ rfl (alloc_old (alloc_old (alloc_old (alloc_old (alloc_new _ _))))) rfl rfl rfl) rfl ?_
  refine ⟨some ⟨w.heap.size + 1 + 1, 0, none⟩, some ⟨w.heap.size + 1 + 1 + 1 + 1, 0, none⟩, ?_, ⟨?_, ?_⟩, (by repeat (first | exact Below.refl _ _ | refine belowN ?_ _ | refine Below.drew ?_ | refine Below.alloc ?_ (by first | exact Nat.le_refl _ | (simp; done) | (simp; omega) | omega) _))⟩
  · unfold qv; rw [HE.out.1, HE.out.2.1, HE.out.2.2]
  · rw [HE.out.1]; exact FreshAt.row (by omega) (alloc_old (alloc_old (alloc_at _ (by simp))))
  · rw [HE.out.2.1]; exact FreshAt.row (by omega) (alloc_at _ (by simp))
end Go.Proofs.YtfpofmifmapmfaaGreatDoor

namespace Go.Proofs.YtfpofmifmapmfaaGreatDoor
open Go.RowKit Go.Proofs.YtfpofmifmapmfaaGreatDoorW.PrintLast
set_option linter.unusedVariables false
set_option linter.unusedSimpArgs false
def fe (b : Int) : Int := b / 4503599627370496 % 2048
def ff (b : Int) : Int := b % 4503599627370496
def fneg (b : Int) : Bool := decide (9223372036854775808 ≤ b)
def fm (b : Int) : Int := if fe b = 0 then ff b else 4503599627370496 + ff b
def fx (b : Int) : Int := if fe b = 0 then -1074 else fe b - 1075
def fnum (b : Int) : Int := fm b * 2 ^ (fx b).toNat
def fden (b : Int) : Int := 2 ^ (-(fx b)).toNat
def fval (b : Int) : Rat := quo (fneg b) (fnum b) (fden b)
def Fin64 (b : Int) : Prop := 0 ≤ b ∧ b ≤ 18446744073709551615 ∧ fe b ≠ 2047
theorem fe_range (b : Int) : 0 ≤ fe b ∧ fe b ≤ 2047 := by unfold fe; omega
theorem ff_range (b : Int) : 0 ≤ ff b ∧ ff b < 4503599627370496 := by unfold ff; omega
theorem fm_range (b : Int) : 0 ≤ fm b ∧ fm b < 9007199254740992 := by have := ff_range b; unfold fm; split <;> omega
theorem fx_range {b : Int} (h : Fin64 b) : -1074 ≤ fx b ∧ fx b ≤ 971 := by have := fe_range b; have := h.2.2; unfold fx; split <;> omega
theorem fnum_nonneg (b : Int) : 0 ≤ fnum b := Int.mul_nonneg (fm_range b).1 (Int.le_of_lt (Int.pow_pos (by decide)))
theorem fden_pos (b : Int) : 0 < fden b := Int.pow_pos (by decide)
theorem fnum_lt {b : Int} (h : Fin64 b) : fnum b < 2 ^ 1024 := by
  have h1 := fm_range b
  have h2 := fx_range h
  have h3 := mul_lt_pow (x := fm b) (y := 1) (m := 53) (n := 1) h1.1 (by omega) (by rw [show (2:Int)^53 = 9007199254740992 from by decide]; omega) (by decide)
  have p : (0:Int) < 2 ^ (fx b).toNat := Int.pow_pos (by decide)
  have h4 : fm b * 2 ^ (fx b).toNat < 2 ^ 53 * 2 ^ (fx b).toNat := Int.mul_lt_mul_of_pos_right (by rw [show (2:Int)^53 = 9007199254740992 from by decide]; omega) p
  rw [← Int.pow_add] at h4
  have h5 := ipow_le (show 53 + (fx b).toNat ≤ 1024 by omega)
  unfold fnum
  omega
theorem fden_le {b : Int} (h : Fin64 b) : fden b ≤ 2 ^ 1074 := by
  have h2 := fx_range h
  exact ipow_le (by omega)
theorem fval_sz {b : Int} (h : Fin64 b) : Sz 1075 (fval b) := by
  have h1 := fnum_lt h
  have h2 := fden_le h
  have h3 : (2:Int) ^ 1075 = 2 ^ 1074 + 2 ^ 1074 := by rw [Int.pow_succ]; omega
  have h4 := ipow_le (show 1024 ≤ 1075 by omega)
  have h5 : (0:Int) < 2 ^ 1074 := Int.pow_pos (by decide)
  exact sz_quo (fnum_nonneg b) (fden_pos b) (by omega) (by omega)
theorem quo_zero (s : Bool) (y : Int) : quo s 0 y = 0 := by cases s <;> simp [quo]
theorem fval_of_fm {b : Int} (h : fm b = 0) : fval b = 0 := by
  unfold fval fnum; rw [h, Int.zero_mul]; exact quo_zero _ _
theorem fval_zero : fval 0 = 0 := fval_of_fm (by decide)
theorem fval_nzero : fval 9223372036854775808 = 0 := fval_of_fm (by decide)
def zed (b : Int) : Int := if b = 9223372036854775808 then 0 else b
theorem fval_zed (b : Int) : fval (zed b) = fval b := by
  unfold zed; split
  · rename_i h; rw [h, fval_zero, fval_nzero]
  · rfl
theorem zed_fin {b : Int} (h : Fin64 b) : Fin64 (zed b) := by
  unfold zed; split
  · exact ⟨by omega, by omega, by decide⟩
  · exact h
theorem zed_ne (b : Int) : zed b ≠ 9223372036854775808 := by unfold zed; split <;> omega
theorem zed_zed (b : Int) : zed (zed b) = zed b := by unfold zed; split <;> simp [*]
theorem fnum_fden (b : Int) (h : Fin64 b) : fnum b * 2 ^ 1074 = fm b * 2 ^ (fx b + 1074).toNat * fden b := by
  have h2 := fx_range h
  unfold fnum fden
  by_cases h3 : 0 ≤ fx b
  · rw [show (-(fx b)).toNat = 0 by omega, show (fx b + 1074).toNat = (fx b).toNat + 1074 by omega, Int.pow_add, Int.pow_zero, Int.mul_one, Int.mul_assoc]
  · rw [show (fx b).toNat = 0 by omega, Int.pow_zero, Int.mul_one, Int.mul_assoc, ← Int.pow_add, show (fx b + 1074).toNat + (-(fx b)).toNat = 1074 by omega]
theorem fval_inj {a b : Int} (ha : Fin64 a) (hb : Fin64 b) (na : a ≠ 9223372036854775808) (nb : b ≠ 9223372036854775808) (h : fval a = fval b) : a = b := by
  unfold fval quo at h
  have pa := fden_pos a
  have pb := fden_pos b
  rw [Rat.mkRat_eq_iff (by omega) (by omega), Int.toNat_of_nonneg (by omega), Int.toNat_of_nonneg (by omega)] at h
  have ra := fnum_fden a ha
  have rb := fnum_fden b hb
  have xa := fnum_nonneg a
  have xb := fnum_nonneg b
  -- the signed numbers, over one denominator
  have key : (if fneg a then -(fm a * 2 ^ (fx a + 1074).toNat) else fm a * 2 ^ (fx a + 1074).toNat) = (if fneg b then -(fm b * 2 ^ (fx b + 1074).toNat) else fm b * 2 ^ (fx b + 1074).toNat) := by
    have q : (0:Int) < 2 ^ 1074 := Int.pow_pos (by decide)
    have e : ∀ s t : Int, s * fden b = t * fden a → ∀ m n : Int, s * 2 ^ 1074 = m * fden a → t * 2 ^ 1074 = n * fden b → m = n := by
      intro s t h m n h1 h2
      have : (m * fden a) * fden b = (n * fden b) * fden a := by rw [← h1, ← h2, Int.mul_right_comm, h, Int.mul_right_comm]
      rw [Int.mul_right_comm n, Int.mul_assoc, Int.mul_assoc] at this
      exact Int.eq_of_mul_eq_mul_right (Int.ne_of_gt (Int.mul_pos pa pb)) this
    refine e _ _ h _ _ ?_ ?_
    · split <;> simp only [Int.neg_mul, ra]
    · split <;> simp only [Int.neg_mul, rb]
  clear h ra rb xa xb pa pb
  have h1 := fm_range a
  have h2 := fm_range b
  have h3 := fx_range ha
  have h4 := fx_range hb
  have qa : (0:Int) < 2 ^ (fx a + 1074).toNat := Int.pow_pos (by decide)
  have qb : (0:Int) < 2 ^ (fx b + 1074).toNat := Int.pow_pos (by decide)
  have ia : (fm a ≥ 4503599627370496 ∨ fx a = -1074) := by have := ff_range a; have := fe_range a; unfold fm fx; split <;> omega
  have ib : (fm b ≥ 4503599627370496 ∨ fx b = -1074) := by have := ff_range b; have := fe_range b; unfold fm fx; split <;> omega
  have ya := Int.mul_nonneg h1.1 (Int.le_of_lt qa)
  have yb := Int.mul_nonneg h2.1 (Int.le_of_lt qb)
  have za : fm a * 2 ^ (fx a + 1074).toNat = 0 → fm a = 0 := fun e => by rcases Int.mul_eq_zero.1 e with e | e <;> omega
  have zb : fm b * 2 ^ (fx b + 1074).toNat = 0 → fm b = 0 := fun e => by rcases Int.mul_eq_zero.1 e with e | e <;> omega
  have mg : fm a * 2 ^ (fx a + 1074).toNat = fm b * 2 ^ (fx b + 1074).toNat ∧ (fneg a = fneg b ∨ (fm a = 0 ∧ fm b = 0)) := by
    generalize fm a * 2 ^ (fx a + 1074).toNat = U at *
    generalize fm b * 2 ^ (fx b + 1074).toNat = V at *
    cases hx : fneg a <;> cases hy : fneg b <;> simp [hx, hy] at key ⊢ <;> omega
  have step : ∀ {m n : Int} {i j : Nat}, 0 < m → n ≥ 4503599627370496 ∨ j = 0 → m < 9007199254740992 → i < j → m * 2 ^ i = n * 2 ^ j → False := by
    intro m n i j hm hn hm2 hij h
    obtain ⟨k, rfl⟩ := Nat.exists_eq_add_of_lt hij
    rw [show i + k + 1 = (k + 1) + i by omega, Int.pow_add, ← Int.mul_assoc] at h
    have := Int.eq_of_mul_eq_mul_right (Int.ne_of_gt (Int.pow_pos (by decide))) h
    rw [Int.pow_succ] at this
    have hk : (1:Int) ≤ 2 ^ k := Int.pow_pos (by decide)
    have : n * 1 ≤ n * 2 ^ k := Int.mul_le_mul_of_nonneg_left hk (by omega)
    have e : n * (2 ^ k * 2) = 2 * (n * 2 ^ k) := by rw [← Int.mul_assoc, Int.mul_comm]
    omega
  have eq : fm a = fm b ∧ (fx a = fx b ∨ fm a = 0) := by
    by_cases e0 : fm a = 0
    · rw [e0, Int.zero_mul] at mg
      have := zb mg.1.symm
      omega
    · have e1 : fm b ≠ 0 := fun e => by rw [e, Int.zero_mul] at mg; exact e0 (za mg.1)
      rcases Nat.lt_trichotomy (fx a + 1074).toNat (fx b + 1074).toNat with x | x | x
      · exact (step (by omega) (by omega) h1.2 x mg.1).elim
      · rw [x] at mg
        exact ⟨Int.eq_of_mul_eq_mul_right (Int.ne_of_gt (Int.pow_pos (by decide))) mg.1, Or.inl (by omega)⟩
      · exact (step (by omega) (by omega) h2.2 x mg.1.symm).elim
  have sg := mg.2
  clear mg step za zb ya yb key qa qb
  obtain ⟨a0, a1, a2⟩ := ha
  obtain ⟨b0, b1, b2⟩ := hb
  have sgn : (9223372036854775808 ≤ a ↔ 9223372036854775808 ≤ b) ∨ (fm a = 0 ∧ fm b = 0) := by
    unfold fneg at sg
    rcases sg with e | e
    · exact Or.inl (decide_eq_decide.1 e)
    · exact Or.inr e
  clear sg
  unfold fm fx fe ff at *
  split at eq <;> split at eq <;> simp_all <;> omega
abbrev Pl := Rat × Rat
def area2 (a b c : Pl) : Rat := (b.1 - a.1) * (c.2 - a.2) - (b.2 - a.2) * (c.1 - a.1)
def side3 (a b c : Pl) : Int := qsgn (area2 a b c)
def pcmp (a b : Pl) : Int := if qcmp a.1 b.1 ≠ 0 then qcmp a.1 b.1 else qcmp a.2 b.2
def btw (a b p : Pl) : Bool := decide (side3 a b p = 0) && (decide (pcmp a p ≤ 0) && decide (pcmp p b ≤ 0) || decide (0 ≤ pcmp a p) && decide (0 ≤ pcmp p b))
theorem icmp_swap (x y : Int) : icmp x y = - icmp y x := by
  unfold icmp
  rcases Int.lt_trichotomy x y with h | h | h
  · rw [if_pos h, if_neg (by omega), if_neg (by omega)]
  · rw [if_neg (by omega), if_pos h, if_neg (by omega), if_pos (by omega)]; rfl
  · rw [if_neg (by omega), if_neg (by omega), if_pos (by omega)]; rfl
theorem qcmp_swap (a b : Rat) : qcmp a b = - qcmp b a := icmp_swap _ _
theorem qcmp_self (a : Rat) : qcmp a a = 0 := qcmp_eq.2 rfl
theorem qsgn_zero {a : Rat} : qsgn a = 0 ↔ a = 0 := by
  rw [← Rat.num_eq_zero]
  unfold qsgn
  split
  · rename_i h; exact ⟨fun _ => h, fun _ => rfl⟩
  · rename_i h; split <;> exact ⟨fun e => absurd e (by decide), fun e => absurd e h⟩
theorem qsgn_cases (a : Rat) : qsgn a = -1 ∨ qsgn a = 0 ∨ qsgn a = 1 := by
  by_cases h : a.num = 0
  · exact Or.inr (Or.inl (if_pos h))
  · by_cases k : a.num < 0
    · refine Or.inl ?_; unfold qsgn; rw [if_neg h, if_pos k]
    · refine Or.inr (Or.inr ?_); unfold qsgn; rw [if_neg h, if_neg k]
theorem pcmp_cases (a b : Pl) : pcmp a b = -1 ∨ pcmp a b = 0 ∨ pcmp a b = 1 := by
  unfold pcmp
  rcases qcmp_cases a.1 b.1 with h | h | h <;> rcases qcmp_cases a.2 b.2 with k | k | k <;> simp [h.1, k.1]
theorem pcmp_swap (a b : Pl) : pcmp a b = - pcmp b a := by
  unfold pcmp
  rw [qcmp_swap a.1, qcmp_swap a.2]
  split <;> split <;> omega
theorem pcmp_self (a : Pl) : pcmp a a = 0 := by unfold pcmp; simp [qcmp_self]
theorem pcmp_eq {a b : Pl} : pcmp a b = 0 ↔ a = b := by
  unfold pcmp
  constructor
  · intro h
    split at h
    · omega
    · rename_i k
      have k : qcmp a.1 b.1 = 0 := by omega
      exact Prod.ext (qcmp_eq.1 k) (qcmp_eq.1 h)
  · rintro rfl; simp [qcmp_self]
theorem pcmp_le {a b : Pl} : pcmp a b ≤ 0 ↔ a.1 < b.1 ∨ (a.1 = b.1 ∧ a.2 ≤ b.2) := by
  unfold pcmp
  rcases qcmp_cases a.1 b.1 with ⟨h, k⟩ | ⟨h, k⟩ | ⟨h, k⟩
  · rw [h, if_pos (by decide)]; exact ⟨fun _ => Or.inl k, fun _ => by decide⟩
  · rw [h, if_neg (by decide)]
    have n : ¬ a.1 < b.1 := by rw [k]; exact Rat.lt_irrefl
    rcases qcmp_cases a.2 b.2 with ⟨h2, k2⟩ | ⟨h2, k2⟩ | ⟨h2, k2⟩
    · rw [h2]; exact ⟨fun _ => Or.inr ⟨k, Rat.le_of_lt k2⟩, fun _ => by decide⟩
    · rw [h2]; exact ⟨fun _ => Or.inr ⟨k, by rw [k2]; exact Rat.le_refl⟩, fun _ => by decide⟩
    · rw [h2]; exact ⟨fun e => absurd e (by decide), fun e => by rcases e with e | e; exact absurd e n; exact absurd e.2 (Rat.not_le.2 k2)⟩
  · rw [h, if_pos (by decide)]
    have n : ¬ a.1 < b.1 := Rat.not_lt.2 (Rat.le_of_lt k)
    exact ⟨fun e => absurd e (by decide), fun e => by rcases e with e | e; exact absurd e n; exact absurd k (by rw [e.1]; exact Rat.lt_irrefl)⟩
theorem ple_trans {a b c : Pl} (h : pcmp a b ≤ 0) (k : pcmp b c ≤ 0) : pcmp a c ≤ 0 := by
  rw [pcmp_le] at *
  grind
theorem side3_aa (a c : Pl) : side3 a a c = 0 := by
  rw [side3, qsgn_zero, area2]; grind
theorem side3_aba (a b : Pl) : side3 a b a = 0 := by
  rw [side3, qsgn_zero, area2]; grind
theorem side3_abb (a b : Pl) : side3 a b b = 0 := by
  rw [side3, qsgn_zero, area2]; grind
theorem side3_ba0 {a b c : Pl} : side3 a b c = 0 ↔ side3 b a c = 0 := by
  rw [side3, side3, qsgn_zero, qsgn_zero, area2, area2]; grind
theorem side3_turn {a b c d : Pl} (hab : a ≠ b) (h1 : side3 a b c = 0) (h2 : side3 a b d = 0) : side3 c d a = 0 ∧ side3 c d b = 0 := by
  rw [side3, qsgn_zero] at *
  rw [side3, qsgn_zero]
  have hne : b.1 - a.1 ≠ 0 ∨ b.2 - a.2 ≠ 0 := by
    by_cases h : b.1 - a.1 = 0
    · refine Or.inr fun h' => hab (Prod.ext ?_ ?_) <;> grind
    · exact Or.inl h
  unfold area2 at *
  have k1 : ((d.1 - c.1) * (a.2 - c.2) - (d.2 - c.2) * (a.1 - c.1)) * (b.1 - a.1) = 0 := by grind
  have k2 : ((d.1 - c.1) * (a.2 - c.2) - (d.2 - c.2) * (a.1 - c.1)) * (b.2 - a.2) = 0 := by grind
  have k3 : ((d.1 - c.1) * (b.2 - c.2) - (d.2 - c.2) * (b.1 - c.1)) * (b.1 - a.1) = 0 := by grind
  have k4 : ((d.1 - c.1) * (b.2 - c.2) - (d.2 - c.2) * (b.1 - c.1)) * (b.2 - a.2) = 0 := by grind
  rcases hne with h | h
  · exact ⟨(Rat.mul_eq_zero.1 k1).resolve_right h, (Rat.mul_eq_zero.1 k3).resolve_right h⟩
  · exact ⟨(Rat.mul_eq_zero.1 k2).resolve_right h, (Rat.mul_eq_zero.1 k4).resolve_right h⟩
end Go.Proofs.YtfpofmifmapmfaaGreatDoor

namespace Go.Proofs.YtfpofmifmapmfaaGreatDoor
open Go.RowKit Go.Proofs.YtfpofmifmapmfaaGreatDoorW.PrintLast
set_option linter.unusedVariables false
set_option linter.unusedSimpArgs false
abbrev Pt := Int × Int
def zp (p : Pt) : Pt := (zed p.1, zed p.2)
def pl (p : Pt) : Pl := (fval p.1, fval p.2)
theorem pl_zp (p : Pt) : pl (zp p) = pl p := by unfold pl zp; rw [fval_zed, fval_zed]
structure Good (p : Pt) : Prop where
  f1 : Fin64 p.1
  f2 : Fin64 p.2
  n1 : p.1 ≠ 9223372036854775808
  n2 : p.2 ≠ 9223372036854775808
theorem good_zp {p : Pt} (h1 : Fin64 p.1) (h2 : Fin64 p.2) : Good (zp p) := ⟨zed_fin h1, zed_fin h2, zed_ne _, zed_ne _⟩
theorem Good.inj {p q : Pt} (hp : Good p) (hq : Good q) (h : pl p = pl q) : p = q := by
  unfold pl at h
  rw [Prod.mk.injEq] at h
  exact Prod.ext (fval_inj hp.f1 hq.f1 hp.n1 hq.n1 h.1) (fval_inj hp.f2 hq.f2 hp.n2 hq.n2 h.2)
structure Mt where
  kind : Int
  proper : Bool
  P : Pt
  Q : Pt
def touch (p : Pt) : Mt := ⟨1, false, p, (0, 0)⟩
def apartM : Mt := ⟨0, false, (0, 0), (0, 0)⟩
def loops (s0 s1 t0 t1 : Pt) : Mt := if btw (pl s0) (pl s1) (pl t0) then touch t0 else if btw (pl s0) (pl s1) (pl t1) then touch t1 else if btw (pl t0) (pl t1) (pl s0) then touch s0 else if btw (pl t0) (pl t1) (pl s1) then touch s1 else apartM
def lowR (r0 q0 : Pt) : Pt := if 0 < pcmp (pl q0) (pl r0) then q0 else r0
def highR (r1 q1 : Pt) : Pt := if pcmp (pl q1) (pl r1) < 0 then q1 else r1
def alongR (r0 r1 q0 q1 : Pt) : Mt := if 0 < pcmp (pl (lowR r0 q0)) (pl (highR r1 q1)) then apartM else if pcmp (pl (lowR r0 q0)) (pl (highR r1 q1)) = 0 then touch (lowR r0 q0) else ⟨2, false, lowR r0 q0, highR r1 q1⟩
def riseR (a b : Pt) : Pt × Pt := if 0 < pcmp (pl a) (pl b) then (b, a) else (a, b)
def sideP (a b c : Pt) : Int := side3 (pl a) (pl b) (pl c)
def btwP (a b c : Pt) : Bool := btw (pl a) (pl b) (pl c)
def meetR (X : Pt) (s0 s1 t0 t1 : Pt) : Mt :=
  if s0 = s1 ∨ t0 = t1 then loops s0 s1 t0 t1
  else if sideP s0 s1 t0 = 0 ∧ sideP s0 s1 t1 = 0 then alongR (riseR s0 s1).1 (riseR s0 s1).2 (riseR t0 t1).1 (riseR t0 t1).2
  else if sideP s0 s1 t0 * sideP s0 s1 t1 < 0 ∧ sideP t0 t1 s0 * sideP t0 t1 s1 < 0 then ⟨1, true, X, (0, 0)⟩
  else loops s0 s1 t0 t1
theorem btw_self (a b : Pl) : btw a b a = true := by unfold btw; simp [side3_aba, pcmp_self]; exact (Int.le_total _ _)
theorem btw_other (a b : Pl) : btw a b b = true := by unfold btw; simp [side3_abb, pcmp_self]; exact (Int.le_total _ _)
theorem btw_point {e p : Pl} : btw e e p = true → p = e := by
  unfold btw
  intro h
  rw [pcmp_swap p e] at h
  simp at h
  exact (pcmp_eq.1 (show pcmp e p = 0 by omega)).symm
theorem btw_swap (a b p : Pl) : btw a b p = btw b a p := by
  unfold btw
  rw [pcmp_swap p b, pcmp_swap a p, pcmp_swap b p, pcmp_swap p a, decide_eq_decide.2 (side3_ba0 (a := a) (b := b) (c := p))]
  congr 1
  rw [Bool.eq_iff_iff]
  simp
  omega
theorem btw_iff {a b p : Pl} (h : pcmp a b < 0) (hs : side3 a b p = 0) : btw a b p = true ↔ pcmp a p ≤ 0 ∧ pcmp p b ≤ 0 := by
  unfold btw
  simp [hs]
  rintro h1 h2
  have h3 : pcmp p a ≤ 0 := by rw [pcmp_swap]; omega
  have h4 : pcmp b p ≤ 0 := by rw [pcmp_swap]; omega
  have := ple_trans h4 h3
  rw [pcmp_swap] at this
  omega
theorem btw_side {a b p : Pl} (h : btw a b p = true) : side3 a b p = 0 := by
  unfold btw at h; simp at h; exact h.1
theorem ple_total (a b : Pl) : pcmp a b ≤ 0 ∨ pcmp b a ≤ 0 := by rw [pcmp_swap b a]; omega
theorem rise_is (a b : Pt) : riseR a b = (a, b) ∧ pcmp (pl a) (pl b) ≤ 0 ∨ riseR a b = (b, a) ∧ pcmp (pl b) (pl a) ≤ 0 := by
  unfold riseR
  split
  · right; refine ⟨rfl, ?_⟩; rw [pcmp_swap]; omega
  · left; exact ⟨rfl, by omega⟩
theorem low_is (a b : Pt) : (lowR a b = a ∨ lowR a b = b) ∧ pcmp (pl a) (pl (lowR a b)) ≤ 0 ∧ pcmp (pl b) (pl (lowR a b)) ≤ 0 := by
  unfold lowR
  split
  · refine ⟨Or.inr rfl, ?_, ?_⟩
    · rw [pcmp_swap]; omega
    · rw [pcmp_self]; omega
  · refine ⟨Or.inl rfl, ?_, by omega⟩
    rw [pcmp_self]; omega
theorem high_is (a b : Pt) : (highR a b = a ∨ highR a b = b) ∧ pcmp (pl (highR a b)) (pl a) ≤ 0 ∧ pcmp (pl (highR a b)) (pl b) ≤ 0 := by
  unfold highR
  split
  · refine ⟨Or.inr rfl, by omega, ?_⟩
    rw [pcmp_self]; omega
  · refine ⟨Or.inl rfl, ?_, ?_⟩
    · rw [pcmp_self]; omega
    · rw [pcmp_swap]; omega
theorem along_law {r0 r1 q0 q1 : Pt} (hr : pcmp (pl r0) (pl r1) < 0) (hq : pcmp (pl q0) (pl q1) < 0) (h0 : sideP r0 r1 q0 = 0) (h1 : sideP r0 r1 q1 = 0) (h2 : sideP q0 q1 r0 = 0) (h3 : sideP q0 q1 r1 = 0) :
    (alongR r0 r1 q0 q1).proper = false ∧
    ((alongR r0 r1 q0 q1).kind = 0 ∧ btwP r0 r1 q0 = false ∧ btwP r0 r1 q1 = false ∧ btwP q0 q1 r0 = false ∧ btwP q0 q1 r1 = false ∨
     ((btwP r0 r1 q0 = true ∧ (alongR r0 r1 q0 q1).P = q0) ∨ (btwP q0 q1 r0 = true ∧ (alongR r0 r1 q0 q1).P = r0)) ∧
      ((alongR r0 r1 q0 q1).kind = 1 ∧ (alongR r0 r1 q0 q1).Q = (0, 0) ∨ (alongR r0 r1 q0 q1).kind = 2 ∧ pcmp (pl (alongR r0 r1 q0 q1).P) (pl (alongR r0 r1 q0 q1).Q) < 0 ∧
        btwP r0 r1 (alongR r0 r1 q0 q1).Q = true ∧ btwP q0 q1 (alongR r0 r1 q0 q1).Q = true)) := by
  have b0 := btw_iff hr h0
  have b1 := btw_iff hr h1
  have b2 := btw_iff hq h2
  have b3 := btw_iff hq h3
  obtain ⟨l1, l2, l3⟩ := low_is r0 q0
  obtain ⟨g1, g2, g3⟩ := high_is r1 q1
  refine ⟨by unfold alongR; (repeat' split) <;> rfl, ?_⟩
  by_cases hc : 0 < pcmp (pl (lowR r0 q0)) (pl (highR r1 q1))
  · left
    have hn : ∀ x y : Pt, pcmp (pl (lowR r0 q0)) (pl x) ≤ 0 → pcmp (pl x) (pl (highR r1 q1)) ≤ 0 → False := fun x y a b => by have := ple_trans a b; omega
    have key : ¬ (pcmp (pl r0) (pl q1) ≤ 0 ∧ pcmp (pl q0) (pl r1) ≤ 0) := by
      rintro ⟨k1, k2⟩
      have : pcmp (pl (lowR r0 q0)) (pl (highR r1 q1)) ≤ 0 := by
        rcases l1 with e | e <;> rcases g1 with e' | e' <;> rw [e, e'] <;> omega
      omega
    have f0 : btwP r0 r1 q0 = false := Bool.eq_false_iff.2 fun e => by have e := b0.1 e; exact key ⟨ple_trans e.1 (Int.le_of_lt hq), e.2⟩
    have f1 : btwP r0 r1 q1 = false := Bool.eq_false_iff.2 fun e => by have e := b1.1 e; exact key ⟨e.1, ple_trans (Int.le_of_lt hq) e.2⟩
    have f2 : btwP q0 q1 r0 = false := Bool.eq_false_iff.2 fun e => by have e := b2.1 e; exact key ⟨e.2, ple_trans e.1 (Int.le_of_lt hr)⟩
    have f3 : btwP q0 q1 r1 = false := Bool.eq_false_iff.2 fun e => by have e := b3.1 e; exact key ⟨ple_trans (Int.le_of_lt hr) e.2, e.1⟩
    exact ⟨by unfold alongR; rw [if_pos hc]; rfl, f0, f1, f2, f3⟩
  · right
    have hle : pcmp (pl (lowR r0 q0)) (pl (highR r1 q1)) ≤ 0 := by omega
    have hP : (alongR r0 r1 q0 q1).P = lowR r0 q0 := by unfold alongR; rw [if_neg hc]; split <;> rfl
    refine ⟨?_, ?_⟩
    · rw [hP]
      rcases l1 with e | e
      · right; rw [e] at l3 hle; exact ⟨b2.2 ⟨l3, ple_trans hle g3⟩, e⟩
      · left; rw [e] at l2 hle; exact ⟨b0.2 ⟨l2, ple_trans hle g2⟩, e⟩
    · by_cases hz : pcmp (pl (lowR r0 q0)) (pl (highR r1 q1)) = 0
      · left; unfold alongR; rw [if_neg hc, if_pos hz]; exact ⟨rfl, rfl⟩
      · right
        unfold alongR
        rw [if_neg hc, if_neg hz]
        refine ⟨rfl, by change pcmp (pl (lowR r0 q0)) (pl (highR r1 q1)) < 0; omega, ?_, ?_⟩
        · show btw (pl r0) (pl r1) (pl (highR r1 q1)) = true
          refine (btw_iff hr ?_).2 ⟨ple_trans l2 hle, g2⟩
          rcases g1 with e | e <;> rw [e]
          · exact side3_abb _ _
          · exact h1
        · show btw (pl q0) (pl q1) (pl (highR r1 q1)) = true
          refine (btw_iff hq ?_).2 ⟨ple_trans l3 hle, g3⟩
          rcases g1 with e | e <;> rw [e]
          · exact h3
          · exact side3_abb _ _
structure MeetLaw (m : Mt) (s0 s1 t0 t1 : Pt) : Prop where
  proper : m.proper = true → m.kind = 1 ∧ (btwP s0 s1 t0 || btwP s0 s1 t1 || btwP t0 t1 s0 || btwP t0 t1 s1) = false
  opp : m.proper = (decide (sideP t0 t1 s0 * sideP t0 t1 s1 = -1) && decide (sideP s0 s1 t0 * sideP s0 s1 t1 = -1))
  none : (btwP s0 s1 t0 || btwP s0 s1 t1 || btwP t0 t1 s0 || btwP t0 t1 s1) = false → m.proper = false → m.kind = 0
  some : (btwP s0 s1 t0 || btwP s0 s1 t1 || btwP t0 t1 s0 || btwP t0 t1 s1) = true → m.kind ≠ 0 ∧
    ((btwP s0 s1 t0 = true ∧ m.P = t0) ∨ (btwP s0 s1 t1 = true ∧ m.P = t1) ∨ (btwP t0 t1 s0 = true ∧ m.P = s0) ∨ (btwP t0 t1 s1 = true ∧ m.P = s1)) ∧
    (m.kind ≠ 2 → m.Q = (0, 0))
  two : m.kind = 2 → pcmp (pl m.P) (pl m.Q) < 0 ∧ btwP s0 s1 m.Q = true ∧ btwP t0 t1 m.Q = true ∧ sideP t0 t1 s0 = 0 ∧ sideP t0 t1 s1 = 0 ∧ sideP s0 s1 t0 = 0 ∧ sideP s0 s1 t1 = 0
theorem loops_law {s0 s1 t0 t1 : Pt} (h : (decide (sideP t0 t1 s0 * sideP t0 t1 s1 = -1) && decide (sideP s0 s1 t0 * sideP s0 s1 t1 = -1)) = false) : MeetLaw (loops s0 s1 t0 t1) s0 s1 t0 t1 := by
  have hp : (loops s0 s1 t0 t1).proper = false := by unfold loops touch apartM; (repeat' split) <;> rfl
  have hk : (loops s0 s1 t0 t1).kind ≠ 2 := by unfold loops touch apartM; (repeat' split) <;> simp
  have hQ : (loops s0 s1 t0 t1).Q = (0, 0) := by unfold loops touch apartM; (repeat' split) <;> rfl
  refine ⟨fun e => by rw [hp] at e; simp at e, by rw [hp, h], ?_, ?_, fun e => absurd e hk⟩
  · intro e _
    unfold btwP at e
    simp at e
    unfold loops
    simp [e]
    rfl
  · intro e
    unfold btwP at e ⊢
    unfold loops touch
    by_cases x1 : btw (pl s0) (pl s1) (pl t0) = true
    · rw [if_pos x1]; exact ⟨by simp, Or.inl ⟨x1, rfl⟩, fun _ => rfl⟩
    · rw [if_neg x1]
      by_cases x2 : btw (pl s0) (pl s1) (pl t1) = true
      · rw [if_pos x2]; exact ⟨by simp, Or.inr (Or.inl ⟨x2, rfl⟩), fun _ => rfl⟩
      · rw [if_neg x2]
        by_cases x3 : btw (pl t0) (pl t1) (pl s0) = true
        · rw [if_pos x3]; exact ⟨by simp, Or.inr (Or.inr (Or.inl ⟨x3, rfl⟩)), fun _ => rfl⟩
        · rw [if_neg x3]
          by_cases x4 : btw (pl t0) (pl t1) (pl s1) = true
          · rw [if_pos x4]; exact ⟨by simp, Or.inr (Or.inr (Or.inr ⟨x4, rfl⟩)), fun _ => rfl⟩
          · simp [x1, x2, x3, x4] at e
theorem side_prod (a b : Int) (ha : a = -1 ∨ a = 0 ∨ a = 1) (hb : b = -1 ∨ b = 0 ∨ b = 1) : (a * b < 0 ↔ a * b = -1) ∧ (a * b = -1 → a ≠ 0 ∧ b ≠ 0) := by
  rcases ha with rfl | rfl | rfl <;> rcases hb with rfl | rfl | rfl <;> decide
theorem sideP_cases (a b c : Pt) : sideP a b c = -1 ∨ sideP a b c = 0 ∨ sideP a b c = 1 := qsgn_cases _
theorem rise_lt {a b : Pt} (ha : Good a) (hb : Good b) (h : a ≠ b) : pcmp (pl (riseR a b).1) (pl (riseR a b).2) < 0 := by
  have hn : pcmp (pl a) (pl b) ≠ 0 := fun e => h (ha.inj hb (pcmp_eq.1 e))
  unfold riseR
  split
  · show pcmp (pl b) (pl a) < 0; rw [pcmp_swap]; omega
  · show pcmp (pl a) (pl b) < 0; omega
theorem meet_law {X s0 s1 t0 t1 : Pt} (hs0 : Good s0) (hs1 : Good s1) (ht0 : Good t0) (ht1 : Good t1) : MeetLaw (meetR X s0 s1 t0 t1) s0 s1 t0 t1 := by
  have p1 := side_prod _ _ (sideP_cases s0 s1 t0) (sideP_cases s0 s1 t1)
  have p2 := side_prod _ _ (sideP_cases t0 t1 s0) (sideP_cases t0 t1 s1)
  unfold meetR
  by_cases hd : s0 = s1 ∨ t0 = t1
  · rw [if_pos hd]
    apply loops_law
    rcases hd with e | e
    · have : sideP s0 s1 t0 = 0 := by rw [e]; exact side3_aa _ _
      rw [this]; simp
    · have : sideP t0 t1 s0 = 0 := by rw [e]; exact side3_aa _ _
      rw [this]; simp
  · rw [if_neg hd]
    have ns : s0 ≠ s1 := fun e => hd (Or.inl e)
    have nt : t0 ≠ t1 := fun e => hd (Or.inr e)
    by_cases hc : sideP s0 s1 t0 = 0 ∧ sideP s0 s1 t1 = 0
    · rw [if_pos hc]
      have npl : pl s0 ≠ pl s1 := fun e => ns (hs0.inj hs1 e)
      obtain ⟨c2, c3⟩ := side3_turn npl hc.1 hc.2
      have hr := rise_lt hs0 hs1 ns
      have hq := rise_lt ht0 ht1 nt
      have sw0 : ∀ a b c : Pt, sideP a b c = 0 → sideP b a c = 0 := fun a b c h => (side3_ba0 (a := pl a) (b := pl b) (c := pl c)).1 h
      have bs : ∀ p : Pt, btwP (riseR s0 s1).1 (riseR s0 s1).2 p = btwP s0 s1 p := fun p => by
        rcases rise_is s0 s1 with e | e <;> rw [e.1]
        exact btw_swap _ _ _
      have bt : ∀ p : Pt, btwP (riseR t0 t1).1 (riseR t0 t1).2 p = btwP t0 t1 p := fun p => by
        rcases rise_is t0 t1 with e | e <;> rw [e.1]
        exact btw_swap _ _ _
      have es := rise_is s0 s1
      have et := rise_is t0 t1
      generalize hA : (riseR s0 s1).1 = r0 at *
      generalize hB : (riseR s0 s1).2 = r1 at *
      generalize hC : (riseR t0 t1).1 = q0 at *
      generalize hD : (riseR t0 t1).2 = q1 at *
      have es : (r0 = s0 ∧ r1 = s1) ∨ (r0 = s1 ∧ r1 = s0) := by
        rcases es with e | e
        · left; rw [← hA, ← hB, e.1]; exact ⟨rfl, rfl⟩
        · right; rw [← hA, ← hB, e.1]; exact ⟨rfl, rfl⟩
      have et : (q0 = t0 ∧ q1 = t1) ∨ (q0 = t1 ∧ q1 = t0) := by
        rcases et with e | e
        · left; rw [← hC, ← hD, e.1]; exact ⟨rfl, rfl⟩
        · right; rw [← hC, ← hD, e.1]; exact ⟨rfl, rfl⟩
      have hz : sideP t0 t1 s0 = 0 ∧ sideP t0 t1 s1 = 0 := ⟨c2, c3⟩
      have h0 : sideP r0 r1 q0 = 0 := by rcases es with ⟨rfl, rfl⟩ | ⟨rfl, rfl⟩ <;> rcases et with ⟨rfl, rfl⟩ | ⟨rfl, rfl⟩ <;> (first | exact hc.1 | exact hc.2 | exact sw0 _ _ _ hc.1 | exact sw0 _ _ _ hc.2)
      have h1 : sideP r0 r1 q1 = 0 := by rcases es with ⟨rfl, rfl⟩ | ⟨rfl, rfl⟩ <;> rcases et with ⟨rfl, rfl⟩ | ⟨rfl, rfl⟩ <;> (first | exact hc.1 | exact hc.2 | exact sw0 _ _ _ hc.1 | exact sw0 _ _ _ hc.2)
      have h2 : sideP q0 q1 r0 = 0 := by rcases es with ⟨rfl, rfl⟩ | ⟨rfl, rfl⟩ <;> rcases et with ⟨rfl, rfl⟩ | ⟨rfl, rfl⟩ <;> (first | exact c2 | exact c3 | exact sw0 _ _ _ c2 | exact sw0 _ _ _ c3)
      have h3 : sideP q0 q1 r1 = 0 := by rcases es with ⟨rfl, rfl⟩ | ⟨rfl, rfl⟩ <;> rcases et with ⟨rfl, rfl⟩ | ⟨rfl, rfl⟩ <;> (first | exact c2 | exact c3 | exact sw0 _ _ _ c2 | exact sw0 _ _ _ c3)
      obtain ⟨ap, al⟩ := along_law hr hq h0 h1 h2 h3
      rw [bs, bs, bt, bt] at al
      generalize alongR r0 r1 q0 q1 = m at *
      have any : (btwP s0 s1 t0 || btwP s0 s1 t1 || btwP t0 t1 s0 || btwP t0 t1 s1) = (btwP s0 s1 q0 || btwP s0 s1 q1 || btwP t0 t1 r0 || btwP t0 t1 r1) := by
        rcases es with ⟨e1, e2⟩ | ⟨e1, e2⟩ <;> rcases et with ⟨e3, e4⟩ | ⟨e3, e4⟩ <;> rw [e1, e2, e3, e4] <;> cases btwP s0 s1 t0 <;> cases btwP s0 s1 t1 <;> cases btwP t0 t1 s0 <;> cases btwP t0 t1 s1 <;> rfl
      refine ⟨fun e => by rw [ap] at e; simp at e, by rw [ap, hc.1, hz.1]; simp, ?_, ?_, ?_⟩
      · intro e _
        rw [any] at e
        rcases al with al | al
        · exact al.1
        · exfalso
          simp at e
          rcases al.1 with x | x
          · rw [e.1.1.1] at x; simp at x
          · rw [e.1.2] at x; simp at x
      · intro e
        rw [any] at e
        rcases al with al | al
        · simp [al.2.1, al.2.2.1, al.2.2.2.1, al.2.2.2.2] at e
        · obtain ⟨x, y⟩ := al
          refine ⟨by rcases y with y | y <;> omega, ?_, fun e => by rcases y with y | y; exact y.2; exact absurd y.1 e⟩
          rcases x with x | x
          · rcases et with ⟨rfl, rfl⟩ | ⟨rfl, rfl⟩
            · exact Or.inl x
            · exact Or.inr (Or.inl x)
          · rcases es with ⟨rfl, rfl⟩ | ⟨rfl, rfl⟩
            · exact Or.inr (Or.inr (Or.inl x))
            · exact Or.inr (Or.inr (Or.inr x))
      · intro e
        rcases al with al | al
        · omega
        · rcases al.2 with y | y
          · omega
          · refine ⟨y.2.1, ?_, ?_, hz.1, hz.2, hc.1, hc.2⟩
            · rw [← bs]; exact y.2.2.1
            · rw [← bt]; exact y.2.2.2
    · rw [if_neg hc]
      by_cases hx : sideP s0 s1 t0 * sideP s0 s1 t1 < 0 ∧ sideP t0 t1 s0 * sideP t0 t1 s1 < 0
      · rw [if_pos hx]
        have y1 := p1.1.1 hx.1
        have y2 := p2.1.1 hx.2
        have z1 := p1.2 y1
        have z2 := p2.2 y2
        have nb : ∀ a b c : Pt, sideP a b c ≠ 0 → btwP a b c = false := fun a b c h => Bool.eq_false_iff.2 fun e => h (btw_side e)
        have hn : (btwP s0 s1 t0 || btwP s0 s1 t1 || btwP t0 t1 s0 || btwP t0 t1 s1) = false := by rw [nb _ _ _ z1.1, nb _ _ _ z1.2, nb _ _ _ z2.1, nb _ _ _ z2.2]; rfl
        refine ⟨fun _ => ⟨rfl, hn⟩, by simp [y1, y2], fun _ e => by simp at e, fun e => by rw [hn] at e; simp at e, fun e => by simp at e⟩
      · rw [if_neg hx]
        apply loops_law
        refine Bool.eq_false_iff.2 fun hb => hx ?_
        rw [Bool.and_eq_true, decide_eq_true_iff, decide_eq_true_iff] at hb
        exact ⟨p1.1.2 hb.2, p2.1.2 hb.1⟩
theorem meet_point (X f t e : Pt) (hf : Good f) (ht : Good t) (he : Good e) : meetR X f t e e = if btwP f t e then touch e else apartM := by
  unfold meetR
  rw [if_pos (Or.inr rfl)]
  unfold loops btwP
  by_cases h : btw (pl f) (pl t) (pl e) = true
  · rw [if_pos h, if_pos h]
  · rw [if_neg h, if_neg h, if_neg h]
    have h1 : ¬ btw (pl e) (pl e) (pl f) = true := fun k => h (by have := btw_point k; rw [← this]; exact btw_self _ _)
    have h2 : ¬ btw (pl e) (pl e) (pl t) = true := fun k => h (by have := btw_point k; rw [← this]; exact btw_other _ _)
    rw [if_neg h1, if_neg h2]
end Go.Proofs.YtfpofmifmapmfaaGreatDoor

namespace Go.Proofs.YtfpofmifmapmfaaGreatDoor
open Go.RowKit Go.Proofs.YtfpofmifmapmfaaGreatDoorW.PrintLast
set_option linter.unusedVariables false
set_option linter.unusedSimpArgs false
set_option maxRecDepth 100000 in
theorem fFields (b : Int) (w : World) (h0 : 0 ≤ b) (h1 : b ≤ 18446744073709551615) :
    Calls Tryz.prog 210 #[.int .u64 b] w fun e w' => e = .returned (.tuple #[.int .i64 (fe b), .int .u64 (ff b)]) ∧ w = w' := by
  go_enter Tryz.func210, Tryz.ntmps210
  go_wp2
  go_ret2
  exact ⟨R2 (by rw [and_2047 _ (by omega) (by omega)]; unfold fe wrap64; omega) (and_frac b h0 h1), rfl⟩
def fcl (b : Int) : Int := if fe b = 0 then (if ff b = 0 then 0 else 1) else if fe b < 2047 then 2 else if ff b = 0 then 3 else 4
set_option maxRecDepth 100000 in
theorem fClass (b : Int) (w : World) (h0 : 0 ≤ b) (h1 : b ≤ 18446744073709551615) :
    Calls Tryz.prog 145 #[.int .u64 b] w fun e w' => e = .returned (.int .i64 (fcl b)) ∧ w = w' := by
  have HF := Lib.hid (fFields b w h0 h1)
  have HC : Hid (fcl b = if fe b = 0 then (if ff b = 0 then 0 else 1) else if fe b < 2047 then 2 else if ff b = 0 then 3 else 4) := Lib.hid rfl
  generalize fe b = x at *
  generalize ff b = y at *
  generalize fcl b = z at *
  by_cases hx : x = 0
  · have hxb : (x == 0) = true := beq_iff_eq.2 hx
    by_cases hy : y = 0
    · have hyb : (y == 0) = true := beq_iff_eq.2 hy
      rw [if_pos hx, if_pos hy] at HC
      clear hx hy
      go_enter Tryz.func145, Tryz.ntmps145
      go_wp2_with (go_at_call 210; refine HF.out.mono ?_; rintro e w1 ⟨rfl, rfl⟩)
      go_ret
      exact ⟨R1 (by rw [HC.out]), rfl⟩
    · have hyb : (y == 0) = false := beq_eq_false_iff_ne.2 hy
      rw [if_pos hx, if_neg hy] at HC
      clear hx hy
      go_enter Tryz.func145, Tryz.ntmps145
      go_wp2_with (go_at_call 210; refine HF.out.mono ?_; rintro e w1 ⟨rfl, rfl⟩)
      go_ret
      exact ⟨R1 (by rw [HC.out]), rfl⟩
  · have hxb : (x == 0) = false := beq_eq_false_iff_ne.2 hx
    rw [if_neg hx] at HC
    clear hx
    by_cases hl : x < 2047
    · rw [if_pos hl] at HC
      go_enter Tryz.func145, Tryz.ntmps145
      go_wp2_with (go_at_call 210; refine HF.out.mono ?_; rintro e w1 ⟨rfl, rfl⟩)
      go_ret
      exact ⟨R1 (by rw [HC.out]), rfl⟩
    · rw [if_neg hl] at HC
      by_cases hy : y = 0
      · have hyb : (y == 0) = true := beq_iff_eq.2 hy
        rw [if_pos hy] at HC
        clear hy
        go_enter Tryz.func145, Tryz.ntmps145
        go_wp2_with (go_at_call 210; refine HF.out.mono ?_; rintro e w1 ⟨rfl, rfl⟩)
        go_ret
        exact ⟨R1 (by rw [HC.out]), rfl⟩
      · have hyb : (y == 0) = false := beq_eq_false_iff_ne.2 hy
        rw [if_neg hy] at HC
        clear hy
        go_enter Tryz.func145, Tryz.ntmps145
        go_wp2_with (go_at_call 210; refine HF.out.mono ?_; rintro e w1 ⟨rfl, rfl⟩)
        go_ret
        exact ⟨R1 (by rw [HC.out]), rfl⟩
theorem nat_top (n : Nat) (h : n < 18446744073709551616) : n &&& 9223372036854775808 = if 9223372036854775808 ≤ n then 9223372036854775808 else 0 := by
  rw [show (9223372036854775808 : Nat) = 2 ^ 63 from rfl]
  apply Nat.eq_of_testBit_eq
  intro i
  rw [Nat.testBit_and, Nat.testBit_two_pow]
  by_cases hi : 63 = i
  · subst hi
    rw [Nat.testBit_eq_decide_div_mod_eq]
    by_cases h2 : 2 ^ 63 ≤ n
    · rw [if_pos h2, Nat.testBit_two_pow_self, decide_eq_true (by omega)]; rfl
    · rw [if_neg h2, Nat.zero_testBit, decide_eq_false (by omega)]; rfl
  · rw [decide_eq_false hi, Bool.and_false]
    split
    · rw [Nat.testBit_two_pow, decide_eq_false hi]
    · rw [Nat.zero_testBit]
theorem and_top {x : Int} (h0 : 0 ≤ x) (h1 : x ≤ 18446744073709551615) : bits .and .u64 x 9223372036854775808 = if 9223372036854775808 ≤ x then 9223372036854775808 else 0 := by
  rw [u64_and _ _ h0 (by omega) (by omega) (by omega)]
  obtain ⟨n, rfl⟩ := Int.eq_ofNat_of_zero_le h0
  rw [Int.toNat_natCast, show ((9223372036854775808 : Int)).toNat = 9223372036854775808 from rfl, nat_top n (by omega)]
  by_cases h : 9223372036854775808 ≤ n
  · rw [if_pos h, if_pos (by omega)]; rfl
  · rw [if_neg h, if_neg (by omega)]; rfl
theorem top_neg {x : Int} (h0 : 0 ≤ x) (h1 : x ≤ 18446744073709551615) : (bits .and .u64 x 9223372036854775808 != 0) = fneg x := by
  rw [and_top h0 h1]
  unfold fneg
  split <;> simp [*]
theorem R4 {p q : Bool} {a b c a' b' c' : Int} (h : p = q) (h1 : a = a') (h2 : b = b') (h3 : c = c') : Ending.returned (.tuple #[.bool p, .int .u64 a, .int .i64 b, .int .i64 c]) = .returned (.tuple #[.bool q, .int .u64 a', .int .i64 b', .int .i64 c']) := by rw [h, h1, h2, h3]
theorem results_tmp4 {fn : Func} {t u v x : Tmp} (h : fn.results = #[.tmp t, .tmp u, .tmp v, .tmp x]) (tmps : Array Value) (P : Program) (w : World) :
    (results fn tmps).run P w = .ok (.tuple #[tmps.getD t undef, tmps.getD u undef, tmps.getD v undef, tmps.getD x undef]) w := by
  simp [results, h]
theorem or_hidden (b : Int) : bits .or .u64 4503599627370496 (ff b) = 4503599627370496 + ff b := by
  have := ff_range b
  exact or_join 52 4503599627370496 (ff b) (by omega) (by omega) (by decide) (by omega) (by show _ < (4503599627370496 : Int); omega) (by decide)
theorem fcl_cases (b : Int) : (fe b = 0 → fcl b = 0 ∨ fcl b = 1) ∧ (fe b ≠ 0 → fe b ≠ 2047 → fcl b = 2) ∧ (fe b = 2047 → fcl b = 3 ∨ fcl b = 4) := by
  have := fe_range b
  unfold fcl
  refine ⟨fun h => ?_, fun h h2 => ?_, fun h => ?_⟩
  · rw [if_pos h]; split <;> simp
  · rw [if_neg h, if_pos (by omega)]
  · rw [if_neg (by omega), if_neg (by omega)]; split <;> simp
set_option maxRecDepth 100000 in
theorem fSplit (b : Int) (w : World) (h : Fin64 b) :
    Calls Tryz.prog 181 #[.int .u64 b] w fun e w' => e = .returned (.tuple #[.bool (fneg b), .int .u64 (fm b), .int .i64 (fx b), .int .i64 0]) ∧ w = w' := by
  obtain ⟨h0, h1, h2⟩ := h
  have HF := Lib.hid (fFields b w h0 h1)
  have HK := Lib.hid (fClass b w h0 h1)
  have ht := top_neg h0 h1
  have ho := or_hidden b
  have hr := fe_range b
  have HM : Hid (fm b = if fe b = 0 then ff b else 4503599627370496 + ff b) := Lib.hid rfl
  have HX : Hid (fx b = if fe b = 0 then -1074 else fe b - 1075) := Lib.hid rfl
  obtain ⟨k1, k2, _⟩ := fcl_cases b
  by_cases hz : fe b = 0
  · rw [if_pos hz] at HM HX
    have hc := k1 hz
    clear k1 k2 hz
    generalize fe b = x at *
    generalize ff b = y at *
    generalize fm b = m at *
    generalize fx b = xx at *
    generalize fcl b = z at *
    have HT := Lib.hid ht
    clear ht
    rcases hc with rfl | rfl
    · go_enter Tryz.func181, Tryz.ntmps181
      go_wp2_with (first | (go_at_call 210; refine HF.out.mono ?_; rintro e w1 ⟨rfl, rfl⟩) | (go_at_call 145; refine HK.out.mono ?_; rintro e w1 ⟨rfl, rfl⟩))
      refine bodyPost_ret (results_tmp4 rfl _ _ _) rfl ?_
      exact ⟨by rw [HM.out, HX.out, ← HT.out]; rfl, rfl⟩
    · go_enter Tryz.func181, Tryz.ntmps181
      go_wp2_with (first | (go_at_call 210; refine HF.out.mono ?_; rintro e w1 ⟨rfl, rfl⟩) | (go_at_call 145; refine HK.out.mono ?_; rintro e w1 ⟨rfl, rfl⟩))
      refine bodyPost_ret (results_tmp4 rfl _ _ _) rfl ?_
      exact ⟨by rw [HM.out, HX.out, ← HT.out]; rfl, rfl⟩
  · rw [if_neg hz] at HM HX
    have hc := k2 hz h2
    rw [hc] at HK
    have HT := Lib.hid ht
    have hw : wrap64 (fe b - 1075) = fe b - 1075 := by unfold wrap64; omega
    clear ht k1 k2 hz hc h2 hr
    generalize fe b = x at *
    generalize ff b = y at *
    generalize fm b = m at *
    generalize fx b = xx at *
    go_enter Tryz.func181, Tryz.ntmps181
    go_wp2_with (first | (go_at_call 210; refine HF.out.mono ?_; rintro e w1 ⟨rfl, rfl⟩) | (go_at_call 145; refine HK.out.mono ?_; rintro e w1 ⟨rfl, rfl⟩))
    refine bodyPost_ret (results_tmp4 rfl _ _ _) rfl ?_
    exact ⟨R4 HT.out HM.out.symm (hw.trans HX.out.symm) rfl, rfl⟩
end Go.Proofs.YtfpofmifmapmfaaGreatDoor

namespace Go.Proofs.YtfpofmifmapmfaaGreatDoor
open Go.RowKit Go.Proofs.YtfpofmifmapmfaaGreatDoorW.PrintLast
set_option linter.unusedVariables false
set_option linter.unusedSimpArgs false
theorem five_new (w : World) (o1 o2 o3 o4 o5 : Obj) : (((((w.alloc o1).alloc o2).alloc o3).alloc o4).alloc o5).heap[w.heap.size]? = some o1 ∧ (((((w.alloc o1).alloc o2).alloc o3).alloc o4).alloc o5).heap[w.heap.size + 1 + 1]? = some o3 ∧
    (((((w.alloc o1).alloc o2).alloc o3).alloc o4).alloc o5).heap[w.heap.size + 1 + 1 + 1 + 1]? = some o5 ∧ (((((w.alloc o1).alloc o2).alloc o3).alloc o4).alloc o5).heap.size = w.heap.size + 5 ∧ Below w.heap.size w (((((w.alloc o1).alloc o2).alloc o3).alloc o4).alloc o5) :=
  ⟨alloc_old (alloc_old (alloc_old (alloc_old (alloc_new _ _)))), alloc_old (alloc_old (alloc_at _ (by simp))), alloc_at _ (by simp), by simp only [World.size_alloc], (by repeat (first | exact Below.refl _ _ | refine belowN ?_ _ | refine Below.drew ?_ | refine Below.alloc ?_ (by first | exact Nat.le_refl _ | (simp; done) | (simp; omega) | omega) _))⟩
set_option maxRecDepth 100000 in
set_option maxHeartbeats 3200000 in
theorem vValue (b : Int) (w : World) (h : Fin64 b) :
    Calls Tryz.prog 120 #[.int .u64 b] w fun e w' => ∃ E F, e = .returned (.tuple #[qv E F (fval b), .int .i64 0]) ∧ RatFresh w.heap.size w' E F (fval b) ∧ Below w.heap.size w w' := by
  have hx := fx_range h
  have hm := fm_range b
  have hnl := fnum_lt h
  have hdl := fden_le h
  have hd0 := fden_pos b
  have hn0 := fnum_nonneg b
  have hSp := fun wz => fSplit b wz h
  have hF1 := fun wz => nFrom (fm b) wz hm.1 (by omega)
  have hF2 := fun wz => nFrom 1 wz (by omega) (by omega)
  have HSp := Lib.hid (And.intro hSp (And.intro hF1 hF2))
  have HV : Hid (fval b = quo (fneg b) (fnum b) (fden b)) := Lib.hid rfl
  have HD : Hid (fnum b = fm b * 2 ^ (fx b).toNat ∧ fden b = 2 ^ (-(fx b)).toNat) := Lib.hid ⟨rfl, rfl⟩
  have ln := len_of hnl (by omega)
  have ld := len_of (x := fden b) (n := 1075) (by have := ipow_lt (show 1074 < 1075 by omega); omega) (by omega)
  have lm : (limbs (fm b)).length ≤ 4096 := len_of (n := 53) (by have : (2:Int)^53 = 9007199254740992 := by decide
                                                                 omega) (by omega)
  have l1 : (limbs 1).length ≤ 4096 := len_of (n := 1) (by decide) (by omega)
  clear hSp hF1 hF2 hnl hdl h
  have hm0 := hm.1
  clear hm
  generalize fval b = q at *
  generalize fm b = m at *
  generalize fx b = xx at *
  generalize fnum b = N at *
  generalize fden b = D' at *
  generalize fneg b = ng at *
  by_cases hx0 : xx < 0
  · have e1 : xx.toNat = 0 := by omega
    obtain ⟨n, hn⟩ : ∃ n : Nat, (-xx).toNat = n := ⟨_, rfl⟩
    have hw : wrap64 (-xx) = (n : Int) := by unfold wrap64; omega
    rw [e1, hn, Int.pow_zero, Int.mul_one] at HD
    clear e1 hn hx
    go_enter Tryz.func120, Tryz.ntmps120
    go_wp2_with (first | (go_at_call 181; refine (HSp.out.1 _).mono ?_; rintro e w1 ⟨rfl, rfl⟩) | (go_at_call_of 88 (Value.int IntKind.u64 1); refine (HSp.out.2.2 _).mono ?_; rintro e w2 ⟨rfl, rfl⟩) | (go_at_call_of 88 (Value.int IntKind.u64 m); refine (HSp.out.2.1 _).mono ?_; rintro e w1 ⟨rfl, rfl⟩))
    obtain ⟨g1, g2, g3, g4, g5⟩ := five_new w (.cells #[.bool false, .slice none 0 0, .slice none 0 0] 26) (.cells (wv [m]).toArray 36) (.cells (wv (limbs m)).toArray 36 (0, 0)) (.cells (wv [1]).toArray 36) (.cells (wv (limbs 1)).toArray 36 (0, 0))
    have f2 := (FreshAt.row (Nat.zero_le _) g2).words
    have f3 := (FreshAt.row (Nat.zero_le _) g3).words
    generalize (((((w.alloc (.cells #[.bool false, .slice none 0 0, .slice none 0 0] 26)).alloc (.cells (wv [m]).toArray 36)).alloc (.cells (wv (limbs m)).toArray 36 (0, 0))).alloc (.cells (wv [1]).toArray 36)).alloc (.cells (wv (limbs 1)).toArray 36 (0, 0))) = w5 at *
    rw [HD.out.1] at ln
    rw [HD.out.2] at ld hd0
    refine (nShl (some ⟨w.heap.size + 1 + 1 + 1 + 1, 0, none⟩) (limbs 1).length 0 w5.heap.size (limbs 1) n w5 (limbs_ws _) f3 (Nat.le_refl _) (Nat.le_refl _) (by omega) (by rw [val_limbs (by omega), Int.one_mul]; exact ld)).mono ?_
    rintro e w6 ⟨A4, rfl, hf4, hb6⟩
    rw [val_limbs (by omega), Int.one_mul] at hf4 ⊢
    have f2' := (f2.keep (Keep.of hb6 (Nat.le_refl _))).wide (Nat.le_refl _) hb6.size
    have f4 := hf4.words.wide (Nat.zero_le _) (Nat.le_refl _)
    have hNw := rNewQ ng (some ⟨w.heap.size + 1 + 1, 0, none⟩) A4 (limbs m).length (limbs (2 ^ n)).length 0 w6.heap.size (limbs m) (limbs (2 ^ n)) w6 (limbs_ws _) f2' (limbs_ws _) f4 (Nat.le_refl _) (by rw [val_limbs (Int.le_of_lt hd0)]; exact hd0) (by omega) (by omega) (by rw [val_limbs hm0]; exact lm) (by rw [val_limbs (Int.le_of_lt hd0)]; exact ld)
    rw [val_limbs hm0, val_limbs (Int.le_of_lt hd0), show quo ng m (2 ^ n) = q by rw [HV.out, HD.out.1, HD.out.2], ← HD.out.2] at hNw
    have HNw := Lib.hid hNw
    clear hNw f2' f4 hf4
    rw [← HD.out.2]
    go_wp2_with (fail)
    refine HNw.out.mono ?_
    rintro e w7 ⟨E, F, rfl, hf, hb⟩
    have s6 := hb6.size
    have hrow := (hb.block _ (by omega)).trans ((hb6.block _ (by omega)).trans g1)
    obtain ⟨d0, d1, d2, d3, d4, d5⟩ := row3 hrow
    have HQ := Lib.hid (And.intro hrow (And.intro hf (And.intro ((g5.trans (hb6.mono (by omega))).trans (hb.mono (by omega))) (And.intro g4 s6))))
    clear f2 f3 hrow hf hb hb6 s6 g1 g2 g3 g4 g5
    unfold qv
    go_wp2_with (fail)
    obtain ⟨r1, r2, r3, r4, r5⟩ := HQ.out
    refine bodyPost_ret (results_row_tmp rfl _ _ w.heap.size _ _ _ _ rfl (heap_set_three r1 _ _ _) rfl rfl rfl) rfl ?_
    exact ⟨E, F, rfl, (rat_three (by omega) r2).wide (by omega), below_three (by omega) r3⟩
  · have e1 : (-xx).toNat = 0 := by omega
    obtain ⟨n, rfl⟩ : ∃ n : Nat, xx = n := ⟨xx.toNat, by omega⟩
    rw [e1, Int.toNat_natCast, Int.pow_zero] at HD
    clear e1 hx
    go_enter Tryz.func120, Tryz.ntmps120
    go_wp2_with (first | (go_at_call 181; refine (HSp.out.1 _).mono ?_; rintro e w1 ⟨rfl, rfl⟩) | (go_at_call_of 88 (Value.int IntKind.u64 1); refine (HSp.out.2.2 _).mono ?_; rintro e w2 ⟨rfl, rfl⟩) | (go_at_call_of 88 (Value.int IntKind.u64 m); refine (HSp.out.2.1 _).mono ?_; rintro e w1 ⟨rfl, rfl⟩))
    obtain ⟨g1, g2, g3, g4, g5⟩ := five_new w (.cells #[.bool false, .slice none 0 0, .slice none 0 0] 26) (.cells (wv [m]).toArray 36) (.cells (wv (limbs m)).toArray 36 (0, 0)) (.cells (wv [1]).toArray 36) (.cells (wv (limbs 1)).toArray 36 (0, 0))
    have f2 := (FreshAt.row (Nat.zero_le _) g2).words
    have f3 := (FreshAt.row (Nat.zero_le _) g3).words
    generalize (((((w.alloc (.cells #[.bool false, .slice none 0 0, .slice none 0 0] 26)).alloc (.cells (wv [m]).toArray 36)).alloc (.cells (wv (limbs m)).toArray 36 (0, 0))).alloc (.cells (wv [1]).toArray 36)).alloc (.cells (wv (limbs 1)).toArray 36 (0, 0))) = w5 at *
    rw [HD.out.1] at ln
    have hN0 := hn0
    rw [HD.out.1] at hN0
    refine (nShl (some ⟨w.heap.size + 1 + 1, 0, none⟩) (limbs m).length 0 w5.heap.size (limbs m) n w5 (limbs_ws _) f2 (Nat.le_refl _) (Nat.le_refl _) (by omega) (by rw [val_limbs hm0]; exact ln)).mono ?_
    rintro e w6 ⟨A4, rfl, hf4, hb6⟩
    rw [val_limbs hm0] at hf4 ⊢
    have f3' := (f3.keep (Keep.of hb6 (Nat.le_refl _))).wide (Nat.le_refl _) hb6.size
    have f4 := hf4.words.wide (Nat.zero_le _) (Nat.le_refl _)
    have hNw := rNewQ ng A4 (some ⟨w.heap.size + 1 + 1 + 1 + 1, 0, none⟩) (limbs (m * 2 ^ n)).length (limbs 1).length 0 w6.heap.size (limbs (m * 2 ^ n)) (limbs 1) w6 (limbs_ws _) f4 (limbs_ws _) f3' (Nat.le_refl _) (by rw [val_limbs (by omega)]; omega) (by omega) (by omega) (by rw [val_limbs hN0]; exact ln) (by rw [val_limbs (by omega)]; exact l1)
    rw [val_limbs hN0, val_limbs (by omega), ← HD.out.1, show quo ng N 1 = q by rw [HV.out, HD.out.2]] at hNw
    have HNw := Lib.hid hNw
    clear hNw f3' f4 hf4
    rw [← HD.out.1]
    go_wp2_with (fail)
    refine HNw.out.mono ?_
    rintro e w7 ⟨E, F, rfl, hf, hb⟩
    have s6 := hb6.size
    have hrow := (hb.block _ (by omega)).trans ((hb6.block _ (by omega)).trans g1)
    obtain ⟨d0, d1, d2, d3, d4, d5⟩ := row3 hrow
    have HQ := Lib.hid (And.intro hrow (And.intro hf (And.intro ((g5.trans (hb6.mono (by omega))).trans (hb.mono (by omega))) (And.intro g4 s6))))
    clear f2 f3 hrow hf hb hb6 s6 g1 g2 g3 g4 g5
    unfold qv
    go_wp2_with (fail)
    obtain ⟨r1, r2, r3, r4, r5⟩ := HQ.out
    refine bodyPost_ret (results_row_tmp rfl _ _ w.heap.size _ _ _ _ rfl (heap_set_three r1 _ _ _) rfl rfl rfl) rfl ?_
    exact ⟨E, F, rfl, (rat_three (by omega) r2).wide (by omega), below_three (by omega) r3⟩
end Go.Proofs.YtfpofmifmapmfaaGreatDoor
