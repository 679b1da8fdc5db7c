/- append to a list of one point, made whole: always a new block. -/
import Derived.Test.YtfpofmifmapmfaaGreatDoorRC
namespace Go.Proofs.YtfpofmifmapmfaaGreatDoor
open Go.RowKit Go.Proofs.YtfpofmifmapmfaaGreatDoorW.PrintLast
set_option linter.unusedVariables false
set_option linter.unusedSimpArgs false
def njn (neg : Bool) (m e : Int) : Int := jn neg (m / 2 ^ (ctz m).toNat * 2 ^ (53 - blen (m / 2 ^ (ctz m).toNat)).toNat) (e + ctz m - (53 - blen (m / 2 ^ (ctz m).toNat)))
set_option maxRecDepth 100000 in
set_option maxHeartbeats 1600000 in
theorem vJoinN (neg : Bool) (m e : Int) (w : World) (h0 : 0 < m) (h1 : m < 9007199254740992) (he : -900 ≤ e) (he1 : e ≤ 900) :
    Calls Tryz.prog 122 #[.bool neg, .int .u64 m, .int .i64 e] w fun x w' => x = .returned (.tuple #[.int .u64 (njn neg m e), .int .i64 0]) ∧ w = w' := by
  have hz := fun wz => wZeros m wz (by omega) (by omega)
  have z0 := ctz_range m
  have z1 := ctz_lt h0 (show m ≤ 18446744073709551615 by omega)
  have z2 := ctz_dvd h0 (show m ≤ 18446744073709551615 by omega)
  have HJ : Hid (njn neg m e = jn neg (m / 2 ^ (ctz m).toNat * 2 ^ (53 - blen (m / 2 ^ (ctz m).toNat)).toNat) (e + ctz m - (53 - blen (m / 2 ^ (ctz m).toNat)))) := Lib.hid rfl
  generalize njn neg m e = R at *
  obtain ⟨z, hzz⟩ : ∃ z : Nat, ctz m = z := ⟨(ctz m).toNat, by omega⟩
  rw [hzz] at hz z1 z2 z0 HJ
  rw [Int.toNat_natCast] at z2 HJ
  have HZ := Lib.hid hz
  clear hz
  obtain ⟨q, hq⟩ : ∃ q, m / 2 ^ z = q := ⟨_, rfl⟩
  rw [hq] at HJ
  have hqm : q * 2 ^ z = m := by rw [← hq]; exact Int.ediv_mul_cancel (Int.dvd_of_emod_eq_zero z2)
  have hq0 : 0 < q := by
    have hp := ipow_pos z
    rcases Int.lt_trichotomy q 0 with h | h | h
    · have := Int.mul_neg_of_neg_of_pos h hp; omega
    · rw [h, Int.zero_mul] at hqm; omega
    · exact h
  have hbl := blen_mul_pow z hq0
  rw [hqm] at hbl
  have hbm : blen m ≤ 53 := blen_le_of_lt (n := 53) (by show m < 9007199254740992; omega)
  have hq1 : q ≤ m := by rw [← hqm]; have := ipow_pos z; exact Int.le_trans (by rw [Int.mul_one]; exact Int.le_refl _) (Int.mul_le_mul_of_nonneg_left (show (1:Int) ≤ 2 ^ z by omega) (by omega))
  have hln := fun wz => wLen q wz (by omega) (by omega)
  have hb1 := blen_pos hq0
  obtain ⟨u, hu⟩ : ∃ u : Nat, (53 - blen q : Int) = u := ⟨(53 - blen q).toNat, by omega⟩
  have hbM := blen_mul_pow u hq0
  have hM0 : 0 < q * 2 ^ u := Int.mul_pos hq0 (ipow_pos u)
  have hM1 : 4503599627370496 ≤ q * 2 ^ u := by
    have := blen_le hM0
    rw [hbM, show (blen q + u - 1).toNat = 52 by omega] at this
    exact this
  have hM2 : q * 2 ^ u < 9007199254740992 := by
    have := blen_lt (q * 2 ^ u)
    rw [hbM, show (blen q + u).toNat = 53 by omega] at this
    exact this
  have hzu : z ≤ 53 := by omega
  rw [hu, Int.toNat_natCast] at HJ
  generalize blen q = n at *
  have hn53 : n ≤ 53 := by omega
  have hmin : (if e + (z : Int) + 1074 < 53 - n then e + (z : Int) + 1074 else 53 - n) = u := by split <;> omega
  obtain ⟨M, hM⟩ : ∃ M, q * 2 ^ u = M := ⟨_, rfl⟩
  rw [hM] at hM0 hM1 hM2 HJ
  have hwr : IntKind.u64.wrap (m / 2 ^ z * 2 ^ u) = M := by rw [hq, hM]; exact wrap_u64_in (by omega) (by omega)
  rw [← hq] at hln
  have HN := Lib.hid hln
  clear hln hbl hbm hqm hq hbM hM
  have hmb : (m == 0) = false := beq_eq_false_iff_ne.2 (by omega)
  cases neg
  · go_enter Tryz.func122, Tryz.ntmps122
    ((try dsimp only); repeat (first | go_values | go_skip | go_guarded | go_step | go_upon))
    refine (HZ.out _).mono ?_
    rintro x w1 ⟨rfl, rfl⟩
    ((try dsimp only); repeat (first | go_values | go_skip | go_guarded | go_step | go_upon))
    refine (HN.out _).mono ?_
    rintro x w1 ⟨rfl, rfl⟩
    ((try dsimp only); repeat (first | go_values | go_skip | go_guarded | go_step | go_upon))
    go_ret2
    refine ⟨R2 ?_ rfl, rfl⟩
    rw [jn_big (by decide) (by omega) hM2 (by omega) (by omega), HJ.out]
    unfold jn
    simp
  · go_enter Tryz.func122, Tryz.ntmps122
    ((try dsimp only); repeat (first | go_values | go_skip | go_guarded | go_step | go_upon))
    refine (HZ.out _).mono ?_
    rintro x w1 ⟨rfl, rfl⟩
    ((try dsimp only); repeat (first | go_values | go_skip | go_guarded | go_step | go_upon))
    refine (HN.out _).mono ?_
    rintro x w1 ⟨rfl, rfl⟩
    ((try dsimp only); repeat (first | go_values | go_skip | go_guarded | go_step | go_upon))
    go_ret2
    refine ⟨R2 ?_ rfl, rfl⟩
    rw [jn_big (by decide) (by omega) hM2 (by omega) (by omega), HJ.out]
    unfold jn
    simp
def numP (v : Int) : Int := if v = 0 then 0 else njn (decide (v < 0)) (v.natAbs : Nat) 0
set_option maxRecDepth 100000 in
set_option maxHeartbeats 1600000 in
theorem lNum (v : Int) (w : World) (h : -9007199254740991 ≤ v ∧ v ≤ 9007199254740991) : Calls Tryz.prog 138 #[.int .i64 v] w fun e w' => e = .returned (.int .u64 (numP v)) ∧ w = w' := by
  have HV : Hid (numP v = if v = 0 then 0 else njn (decide (v < 0)) (v.natAbs : Nat) 0) := Lib.hid rfl
  generalize numP v = V at *
  rcases Int.lt_trichotomy v 0 with hv | hv | hv
  · rw [if_neg (by omega), decide_eq_true hv] at HV
    rw [show ((v.natAbs : Nat) : Int) = -v by omega] at HV
    have HJ := Lib.hid (fun wz => vJoinN true (-v) 0 wz (by omega) (by omega) (by omega) (by omega))
    rw [← HV.out] at HJ
    have hw0 : wrap64 (-v) = -v := by unfold wrap64; omega
    have hw : IntKind.u64.wrap (-v) = -v := wrap_u64_in (by omega) (by omega)
    go_enter Tryz.func138, Tryz.ntmps138
    ((try dsimp only); repeat (first | go_values | go_skip | go_guarded | go_step | go_upon))
    refine (HJ.out _).mono ?_
    rintro e w1 ⟨rfl, rfl⟩
    ((try dsimp only); repeat (first | go_values | go_skip | go_guarded | go_step | go_upon))
    go_ret
    exact ⟨rfl, rfl⟩
  · subst hv
    rw [if_pos rfl] at HV
    have HJ := Lib.hid (fun wz => vJoin0 false 0 wz)
    go_enter Tryz.func138, Tryz.ntmps138
    ((try dsimp only); repeat (first | go_values | go_skip | go_guarded | go_step | go_upon))
    refine (HJ.out _).mono ?_
    rintro e w1 ⟨rfl, rfl⟩
    ((try dsimp only); repeat (first | go_values | go_skip | go_guarded | go_step | go_upon))
    go_ret
    exact ⟨by rw [HV.out]; rfl, rfl⟩
  · rw [if_neg (by omega), show ((v.natAbs : Nat) : Int) = v by omega] at HV
    have HJ := Lib.hid (fun wz => vJoinN (decide (v < 0)) v 0 wz (by omega) (by omega) (by omega) (by omega))
    rw [← HV.out] at HJ
    have hw : IntKind.u64.wrap v = v := wrap_u64_in (by omega) (by omega)
    go_enter Tryz.func138, Tryz.ntmps138
    ((try dsimp only); repeat (first | go_values | go_skip | go_guarded | go_step | go_upon))
    refine (HJ.out _).mono ?_
    rintro e w1 ⟨rfl, rfl⟩
    ((try dsimp only); repeat (first | go_values | go_skip | go_guarded | go_step | go_upon))
    go_ret
    exact ⟨rfl, rfl⟩
set_option maxRecDepth 100000 in
set_option maxHeartbeats 1600000 in
theorem lPt (x y : Int) (w : World) (hx : -9007199254740991 ≤ x ∧ x ≤ 9007199254740991) (hy : -9007199254740991 ≤ y ∧ y ≤ 9007199254740991) : Calls Tryz.prog 76 #[.int .i64 x, .int .i64 y] w fun e w' => e = .returned (.agg #[.int .u64 (numP x), .int .u64 (numP y)]) ∧ Below w.heap.size w w' := by
  have hmm := (Bx.start w).alloc (.cells #[.int .u64 0, .int .u64 0] 38 (0, 0))
  simp only [List.nil_append] at hmm
  have HX := Lib.hid (fun wz => lNum x wz hx)
  have HY := Lib.hid (fun wz => lNum y wz hy)
  clear hx hy
  generalize numP x = a at *
  generalize numP y = b at *
  have HM := Lib.hid hmm
  clear hmm
  go_enter Tryz.func76, Tryz.ntmps76
  ((try dsimp only); repeat (first | go_values | go_skip | go_guarded | go_step | go_upon))
  generalize World.alloc w _ = v at *
  refine (HX.out _).mono ?_
  rintro e w1 ⟨rfl, rfl⟩
  ((try dsimp only); repeat (first | go_values | go_skip | go_guarded | go_step | go_upon))
  refine (HY.out _).mono ?_
  rintro e w2 ⟨rfl, rfl⟩
  obtain ⟨e0, e1, f0, f1⟩ := rw2 (HM.out.at 0 rfl)
  ((try dsimp only); repeat (first | go_values | go_skip | go_guarded | go_step | go_upon))
  have hN := HM.out.puts 0 rfl (by decide) [(0, .int .u64 a), (1, .int .u64 b)]
  simp only [putsC, puts, pB, pC, pD, List.set_cons_zero, List.set_cons_succ] at hN
  refine bodyPost_ret (results_cell_row rfl _ _ w.heap.size _ _ _ _ rfl (hN.at 0 rfl) rfl rfl rfl) rfl ⟨rfl, hN.m.b⟩
end Go.Proofs.YtfpofmifmapmfaaGreatDoor

namespace Go.Proofs.YtfpofmifmapmfaaGreatDoor
open Go.RowKit Go.Proofs.YtfpofmifmapmfaaGreatDoorW.PrintLast
set_option linter.unusedVariables false
set_option linter.unusedSimpArgs false
theorem numP_0 : numP 0 = 0 := by decide +kernel
theorem numP_1 : numP 1 = 4607182418800017408 := by decide +kernel
theorem numP_2 : numP 2 = 4611686018427387904 := by decide +kernel
theorem numP_4 : numP 4 = 4616189618054758400 := by decide +kernel
def sq4 : List Pt := [(0, 0), (4616189618054758400, 0), (4616189618054758400, 4616189618054758400), (0, 4616189618054758400), (0, 0)]
theorem sq4_u : ∀ p ∈ sq4, PtU p := by
  intro p hp
  unfold sq4 at hp
  simp only [List.mem_cons, List.not_mem_nil, or_false] at hp
  rcases hp with rfl | rfl | rfl | rfl | rfl <;> exact ⟨⟨by decide, by decide⟩, ⟨by decide, by decide⟩⟩
theorem sq4_chk : chkE sq4 [] = 0 := by decide +kernel
theorem sq4_turn : turnV sq4 = (1, 0) := by decide +kernel
theorem sq4_side : sideV sq4 (4607182418800017408, 4607182418800017408) = (1, 0) := by decide +kernel
theorem sq4_area : sumE crs (edgesR sq4) ≠ 0 := by decide +kernel
theorem sq4_x : nearR (cenX sq4) = (4611686018427387904, 0) := by decide +kernel
theorem sq4_y : nearR (cenY sq4) = (4611686018427387904, 0) := by decide +kernel
theorem sq4_fx : FitQ (cenX sq4) := by unfold FitQ; decide +kernel
theorem sq4_fy : FitQ (cenY sq4) := by unfold FitQ; decide +kernel
set_option maxRecDepth 100000 in
set_option maxHeartbeats 1600000 in
theorem lSquare4 (w : World) : Calls Tryz.prog 75 #[] w fun e w' => ∃ g, e = .returned (.slice (some ⟨g, 0, none⟩) 5 5) ∧ PtsAt w' g 0 sq4 ∧ g < w'.heap.size ∧ Below w.heap.size w w' := by
  have HP : Hid (∀ x y wz, (-9007199254740991 ≤ x ∧ x ≤ 9007199254740991) → (-9007199254740991 ≤ y ∧ y ≤ 9007199254740991) → Calls Tryz.prog 76 #[.int .i64 x, .int .i64 y] wz fun e w' => e = .returned (.agg #[.int .u64 (numP x), .int .u64 (numP y)]) ∧ Below wz.heap.size wz w') := Lib.hid (fun x y wz hx hy => lPt x y wz hx hy)
  go_enter Tryz.func75, Tryz.ntmps75
  ((try dsimp only); repeat (first | go_values | go_skip | go_guarded | go_step | go_upon))
  refine (HP.out 0 0 _ (by omega) (by omega)).mono ?_
  rintro e w1 ⟨rfl, hb1⟩
  rw [numP_0]
  ((try dsimp only); repeat (first | go_values | go_skip | go_guarded | go_step | go_upon))
  refine (HP.out 4 0 _ (by omega) (by omega)).mono ?_
  rintro e w2 ⟨rfl, hb2⟩
  rw [numP_0, numP_4]
  ((try dsimp only); repeat (first | go_values | go_skip | go_guarded | go_step | go_upon))
  refine (HP.out 4 4 _ (by omega) (by omega)).mono ?_
  rintro e w3 ⟨rfl, hb3⟩
  rw [numP_4]
  ((try dsimp only); repeat (first | go_values | go_skip | go_guarded | go_step | go_upon))
  refine (HP.out 0 4 _ (by omega) (by omega)).mono ?_
  rintro e w4 ⟨rfl, hb4⟩
  rw [numP_0, numP_4]
  ((try dsimp only); repeat (first | go_values | go_skip | go_guarded | go_step | go_upon))
  refine (HP.out 0 0 _ (by omega) (by omega)).mono ?_
  rintro e w5 ⟨rfl, hb5⟩
  rw [numP_0]
  have hB := (((hb1.trans (hb2.mono hb1.size)).trans (hb3.mono (Nat.le_trans hb1.size hb2.size))).trans (hb4.mono (Nat.le_trans (Nat.le_trans hb1.size hb2.size) hb3.size))).trans (hb5.mono (Nat.le_trans (Nat.le_trans (Nat.le_trans hb1.size hb2.size) hb3.size) hb4.size))
  have HB := Lib.hid hB
  clear hb1 hb2 hb3 hb4 hb5 hB HP
  ((try dsimp only); repeat (first | go_values | go_skip | go_guarded | go_step | go_upon))
  go_ret
  refine ⟨w5.heap.size, rfl, ?_, by simp, HB.out.alloc HB.out.size _⟩
  intro i hi
  have hn := alloc_new w5 (.cells #[.int .u64 0, .int .u64 0, .int .u64 4616189618054758400, .int .u64 0, .int .u64 4616189618054758400, .int .u64 4616189618054758400, .int .u64 0, .int .u64 4616189618054758400, .int .u64 0, .int .u64 0] 38)
  match i, hi with
  | 0, _ | 1, _ | 2, _ | 3, _ | 4, _ => exact ⟨by rw [cell_of_cells hn]; rfl, by rw [cell_of_cells hn]; rfl⟩
set_option maxRecDepth 100000 in
set_option maxHeartbeats 1600000 in
theorem lAlive24 (w : World) : Calls Tryz.prog 22 #[] w fun e w' => e = .returned (.bool true) ∧ Below w.heap.size w w' := by
  have HQ := Lib.hid (lSquare4 w)
  have HT : Hid (∀ g wz, PtsAt wz g 0 sq4 → g < wz.heap.size → Calls Tryz.prog 18 #[.slice (some ⟨g, 0, none⟩) 5 5] wz fun e w' => e = .returned (.tuple #[.int .i64 1, .int .i64 0]) ∧ Below wz.heap.size wz w') := Lib.hid (fun g wz h hg => by
    have := gTurn (some ⟨g, 0, none⟩) 5 sq4 wz (Or.inr ⟨g, 0, rfl, hg, h⟩) (by decide) sq4_u
    rwa [sq4_turn] at this)
  have HS : Hid (∀ g wz, PtsAt wz g 0 sq4 → g < wz.heap.size → Calls Tryz.prog 25 #[.slice (some ⟨g, 0, none⟩) 5 5, .agg #[.int .u64 4607182418800017408, .int .u64 4607182418800017408]] wz fun e w' => e = .returned (.tuple #[.int .i64 1, .int .i64 0]) ∧ Below wz.heap.size wz w') := Lib.hid (fun g wz h hg => by
    have := gSide (some ⟨g, 0, none⟩) 5 sq4 (4607182418800017408, 4607182418800017408) wz (Or.inr ⟨g, 0, rfl, hg, h⟩) (by decide) sq4_u ⟨⟨by decide, by decide⟩, ⟨by decide, by decide⟩⟩
    rwa [sq4_side] at this)
  have HC : Hid (∀ g wz, PtsAt wz g 0 sq4 → g < wz.heap.size → Calls Tryz.prog 20 #[.slice (some ⟨g, 0, none⟩) 5 5] wz fun e w' => e = .returned (.tuple #[.agg #[.int .u64 4611686018427387904, .int .u64 4611686018427387904], .int .i64 0]) ∧ Below wz.heap.size wz w') := Lib.hid (fun g wz h hg => by
    have := gCentre (some ⟨g, 0, none⟩) 5 sq4 wz (Or.inr ⟨g, 0, rfl, hg, h⟩) (by decide) sq4_u sq4_chk sq4_area sq4_fx sq4_fy
    rwa [sq4_x, sq4_y] at this)
  have HP : Hid (∀ x y wz, (-9007199254740991 ≤ x ∧ x ≤ 9007199254740991) → (-9007199254740991 ≤ y ∧ y ≤ 9007199254740991) → Calls Tryz.prog 76 #[.int .i64 x, .int .i64 y] wz fun e w' => e = .returned (.agg #[.int .u64 (numP x), .int .u64 (numP y)]) ∧ Below wz.heap.size wz w') := Lib.hid (fun x y wz hx hy => lPt x y wz hx hy)
  go_enter Tryz.func22, Tryz.ntmps22
  ((try dsimp only); repeat (first | go_values | go_skip | go_guarded | go_step | go_upon))
  refine HQ.out.mono ?_
  rintro e w1 ⟨g, rfl, hp, hg, hb1⟩
  have HG : Hid (∀ wz, Below w1.heap.size w1 wz → PtsAt wz g 0 sq4 ∧ g < wz.heap.size) := Lib.hid (fun wz hb => ⟨fun i hi => ⟨(hb.cell (p := ⟨g, 0 + i * 2, none⟩) hg).trans (hp i hi).1, (hb.cell (p := ⟨g, 0 + i * 2 + 1, none⟩) hg).trans (hp i hi).2⟩, Nat.lt_of_lt_of_le hg hb.size⟩)
  have HB := Lib.hid hb1
  have hs1 := hb1.size
  clear hp hg hb1 HQ
  ((try dsimp only); repeat (first | go_values | go_skip | go_guarded | go_step | go_upon))
  refine (HT.out g _ (HG.out _ (Below.refl _ _)).1 (HG.out _ (Below.refl _ _)).2).mono ?_
  rintro e w2 ⟨rfl, hb2⟩
  have HB2 := Lib.hid hb2
  clear hb2
  ((try dsimp only); repeat (first | go_values | go_skip | go_guarded | go_step | go_upon))
  refine (HP.out 1 1 _ (by omega) (by omega)).mono ?_
  rintro e w3 ⟨rfl, hb3⟩
  rw [numP_1]
  have HB3 := Lib.hid (HB2.out.trans (hb3.mono HB2.out.size))
  clear hb3 HB2
  ((try dsimp only); repeat (first | go_values | go_skip | go_guarded | go_step | go_upon))
  refine (HS.out g _ (HG.out _ HB3.out).1 (HG.out _ HB3.out).2).mono ?_
  rintro e w4 ⟨rfl, hb4⟩
  have HB4 := Lib.hid (HB3.out.trans (hb4.mono HB3.out.size))
  clear hb4 HB3
  ((try dsimp only); repeat (first | go_values | go_skip | go_guarded | go_step | go_upon))
  refine (HC.out g _ (HG.out _ HB4.out).1 (HG.out _ HB4.out).2).mono ?_
  rintro e w5 ⟨rfl, hb5⟩
  have h5 := HB4.out.trans (hb5.mono HB4.out.size)
  have hn := alloc_new w5 (.cells #[.int .u64 4611686018427387904, .int .u64 4611686018427387904] 38)
  have h6 := h5.alloc h5.size (.cells #[.int .u64 4611686018427387904, .int .u64 4611686018427387904] 38)
  ((try dsimp only); repeat (first | go_values | go_skip | go_guarded | go_step | go_upon))
  generalize World.alloc w5 _ = w6 at *
  have HN := Lib.hid (And.intro hn h6)
  have hlt := heap_lt hn
  clear hn h5 h6 hb5 HB4 HT HS HC HG
  refine start_ (n := 24) (S := fun w' => Below w6.heap.size w6 w') (ds := []) (bt 24 0) (by kernel_rfl) rfl rfl ((Below.refl _ _).drew) (fun hHeld => ?_)
  refine pv_ 0 25 ?_
  refine pv_ 1 26 ?_
  refine pv_ 2 27 ?_
  refine pv_ 3 28 ?_
  refine pv_ 4 29 ?_
  refine pv_ 5 30 ?_
  refine pv_ 6 31 ?_
  refine pv_ 7 32 ?_
  refine pv_ 8 33 ?_
  refine pv_ 9 34 ?_
  refine pv_ 10 35 ?_
  refine pv_ 11 36 ?_
  refine pv_ 12 37 ?_
  refine pv_ 13 38 ?_
  refine pv_ 14 39 ?_
  refine ld_ 15 40 ?_ hHeld ?_ ?_; rotate_left
  · rintro w' hs
    obtain ⟨c0, c1, _, _⟩ := rw2 ((hs.block _ hlt).trans HN.out.1)
    clear hs
    go_simp; with_reducible rfl
  refine ca_ 16 41 Tryz.func76 #[.int .i64 2, .int .i64 2] ?_
  with_reducible refine (HP.out 2 2 _ (by omega) (by omega)).mono ?_
  rintro e w' ⟨rfl, hb7⟩
  rw [numP_2]
  refine ⟨_, rfl, (by exact hHeld.trans (hb7.mono hHeld.size)), fun hHeld => ?_⟩
  refine nn ?_
  refine pv_ 17 42 ?_
  refine pv_ 18 43 ?_
  refine pv_ 19 44 ?_
  refine pv_ 20 45 ?_
  refine pv_ 21 46 ?_
  refine pv_ 22 47 ?_
  refine pv_ 23 0 ?_
  refine done_ (by kernel_rfl) ?_
  have HZ := Lib.hid (HB.out.trans ((HN.out.2.trans (hHeld.mono HN.out.2.size)).mono hs1))
  clear hHeld
  ((try dsimp only); repeat (first | go_values | go_skip | go_guarded | go_step | go_upon))
  go_ret
  exact ⟨rfl, HZ.out⟩
end Go.Proofs.YtfpofmifmapmfaaGreatDoor

namespace Go.Proofs.YtfpofmifmapmfaaGreatDoor
open Go.RowKit Go.Proofs.YtfpofmifmapmfaaGreatDoorW.PrintLast
set_option linter.unusedVariables false
set_option linter.unusedSimpArgs false
theorem R3t {p q : Bool} {a b c d : Int} (h : p = q) (h1 : a = b) (h2 : c = d) : Ending.returned (.tuple #[.bool p, .int .i64 a, .int .u64 c]) = .returned (.tuple #[.bool q, .int .i64 b, .int .u64 d]) := by rw [h, h1, h2]
set_option maxRecDepth 100000 in
theorem f6Fields (b : Int) (w : World) (h : U64 b) : Calls Tryz.prog 148 #[.int .u64 b] w fun e w' => e = .returned (.tuple #[.bool (fneg b), .int .i64 (fe b), .int .u64 (ff b)]) ∧ w = w' := by
  obtain ⟨h0, h1⟩ := h
  go_enter Tryz.func148, Tryz.ntmps148
  ((try dsimp only); repeat (first | go_values | go_skip | go_guarded | go_step | go_upon))
  go_ret3
  refine ⟨R3t ?_ (by rw [and_2047 _ (by omega) (by omega)]; unfold fe wrap64; omega) (and_frac b h0 h1), rfl⟩
  unfold fneg
  by_cases hb : 9223372036854775808 ≤ b
  · rw [decide_eq_true hb, beq_iff_eq]; omega
  · rw [decide_eq_false hb, beq_eq_false_iff_ne]; omega
set_option maxRecDepth 100000 in
theorem f6Finite (b : Int) (w : World) (h : U64 b) : Calls Tryz.prog 89 #[.int .u64 b] w fun e w' => e = .returned (.bool (decide (fe b ≠ 2047))) ∧ w = w' := by
  have HF := Lib.hid (fun wz => f6Fields b wz h)
  generalize fe b = x at *
  generalize ff b = y at *
  generalize fneg b = z at *
  go_enter Tryz.func89, Tryz.ntmps89
  ((try dsimp only); repeat (first | go_values | go_skip | go_guarded | go_step | go_upon))
  refine (HF.out _).mono ?_
  rintro e w1 ⟨rfl, rfl⟩
  ((try dsimp only); repeat (first | go_values | go_skip | go_guarded | go_step | go_upon))
  go_ret
  refine ⟨?_, rfl⟩
  show Ending.returned (.bool (x != 2047)) = _
  congr 2
  by_cases hx : x = 2047
  · subst hx; rfl
  · rw [decide_eq_true hx]; simpa using hx
set_option maxRecDepth 100000 in
set_option maxHeartbeats 1600000 in
theorem f24Finite (A : Option Addr) (c : Nat) (ps : List Pt) (w : World) (hp : PtsIn w A ps) (hl : ps.length ≤ 1000000) (hu : ∀ p ∈ ps, PtU p) :
    Calls Tryz.prog 37 #[.slice A ps.length c] w fun e w' => e = .returned (.bool (finB ps)) ∧ Below w.heap.size w w' := by
  have HP := Lib.hid hp
  have HU := Lib.hid hu
  have HY := Lib.hid (fun h => finB_yes hu h)
  have HN := Lib.hid (fun k hk h => finB_no hu (k := k) hk h)
  have HL := Lib.hid hl
  clear hp hu hl
  go_enter Tryz.func37, Tryz.ntmps37
  ((try dsimp only); repeat (first | go_values | go_skip | go_guarded | go_step | go_upon))
  go_loopw [3] (fun i wr => ∃ k : Nat, i = .int .i64 k ∧ k ≤ ps.length ∧ (∀ j, j < k → FinP (ps.getD j (0, 0))) ∧ Below w.heap.size w wr) (fun i _ => ps.length - (intOf i).toNat)
  case atStart => exact ⟨0, rfl, Nat.zero_le _, fun j hj => absurd hj (by omega), Below.refl _ _⟩
  case round =>
    obtain ⟨k, rfl, hk, hF, hB⟩ := hrel
    by_cases h0 : k < ps.length
    · obtain ⟨b, o, rfl, hb, hpa⟩ := HP.out.open h0
      have hpk := (hpa k h0)
      have hp1 := (hB.cell (p := ⟨b, o + k * 2, none⟩) hb).trans hpk.1
      have hp2 := (hB.cell (p := ⟨b, o + k * 2 + 1, none⟩) hb).trans hpk.2
      have hfk := HU.out _ (getD_mem h0)
      have hN := HN.out k h0
      have hG : FinP (ps.getD k (0, 0)) → ∀ j, j < k + 1 → FinP (ps.getD j (0, 0)) := fun h j hj => by
        rcases Nat.lt_or_ge j k with g | g
        · exact hF j g
        · obtain rfl : j = k := by omega
          exact h
      have HG := Lib.hid (And.intro hG hN)
      have HD := Lib.hid hB
      have hkl : k ≤ 1000000 := by have := HL.out; omega
      have HKL := Lib.hid hkl
      clear hpk hB hpa hF hG hN hkl
      generalize ps.getD k (0, 0) = pt at *
      have HC := Lib.hid (fun wz => And.intro (f6Finite pt.1 wz hfk.1) (f6Finite pt.2 wz hfk.2))
      have HJ : Hid (fe pt.1 ≠ 2047 → fe pt.2 ≠ 2047 → FinP pt) := Lib.hid (fun a b => ⟨⟨hfk.1.1, hfk.1.2, a⟩, ⟨hfk.2.1, hfk.2.2, b⟩⟩)
      have HI : Hid ((fe pt.1 = 2047 → ¬ FinP pt) ∧ (fe pt.2 = 2047 → ¬ FinP pt)) := Lib.hid ⟨fun a h => h.1.2.2 a, fun a h => h.2.2.2 a⟩
      clear hfk
      generalize fe pt.1 = c1 at *
      generalize fe pt.2 = c2 at *
      have l1 : (k : Int) < (ps.length : Int) := by omega
      have hw1 : wrap64 ((k : Int) + 1) = ((k + 1 : Nat) : Int) := by have := HKL.out; clear HG HD HC HJ HI; unfold wrap64; omega
      have W1 := Lib.hid hw1
      clear hw1
      by_cases h1 : c1 = 2047
      · subst h1
        ((try dsimp only); repeat (first | go_values | go_skip | go_guarded | go_step | go_upon))
        refine (HC.out _).1.mono ?_
        rintro e w1 ⟨rfl, rfl⟩
        ((try dsimp only); repeat (first | go_values | go_skip | go_guarded | go_step | go_upon))
        go_ret
        exact ⟨by rw [HG.out.2 (HI.out.1 rfl)]; rfl, HD.out⟩
      · have t1 : (decide (c1 ≠ 2047)) = true := decide_eq_true h1
        rw [t1] at HC
        ((try dsimp only); repeat (first | go_values | go_skip | go_guarded | go_step | go_upon))
        refine (HC.out _).1.mono ?_
        rintro e w1 ⟨rfl, rfl⟩
        ((try dsimp only); repeat (first | go_values | go_skip | go_guarded | go_step | go_upon))
        refine (HC.out _).2.mono ?_
        rintro e w1 ⟨rfl, rfl⟩
        by_cases h2 : c2 = 2047
        · subst h2
          ((try dsimp only); repeat (first | go_values | go_skip | go_guarded | go_step | go_upon))
          go_ret
          exact ⟨by rw [HG.out.2 (HI.out.2 rfl)]; rfl, HD.out⟩
        · rw [decide_eq_true h2]
          ((try dsimp only); repeat (first | go_values | go_skip | go_guarded | go_step | go_upon))
          refine ⟨⟨k + 1, vint W1.out, h0, HG.out.1 (HJ.out h1 h2), HD.out⟩, ?_⟩
          show ps.length - (intOf (.int .i64 (wrap64 ((k : Int) + 1)))).toNat < ps.length - (intOf (.int .i64 (k : Int))).toNat
          rw [W1.out]
          clear HD HG HJ HI HC W1
          show ps.length - (((k + 1 : Nat) : Int)).toNat < ps.length - ((k : Int)).toNat
          omega
    · obtain rfl : k = ps.length := by omega
      have HD := Lib.hid (And.intro hB hF)
      clear hB hF
      ((try dsimp only); repeat (first | go_values | go_skip | go_guarded | go_step | go_upon))
      go_ret
      exact ⟨by rw [HY.out HD.out.2]; rfl, HD.out.1⟩
end Go.Proofs.YtfpofmifmapmfaaGreatDoor

namespace Go.Proofs.YtfpofmifmapmfaaGreatDoor
open Go.RowKit Go.Proofs.YtfpofmifmapmfaaGreatDoorW.PrintLast
set_option linter.unusedVariables false
set_option linter.unusedSimpArgs false
def ptC : List Pt → List Value
  | [] => []
  | p :: r => .int .u64 p.1 :: .int .u64 p.2 :: ptC r
theorem ptC_snoc (l : List Pt) (p : Pt) : ptC (l ++ [p]) = ptC l ++ [.int .u64 p.1, .int .u64 p.2] := by
  induction l with
  | nil => rfl
  | cons x l ih => simp [ptC, ih]
theorem ptC_len (l : List Pt) : (ptC l).length = l.length * 2 := by
  induction l with
  | nil => rfl
  | cons x l ih => simp [ptC, ih]; omega
theorem ptC_get : ∀ (l : List Pt) (i : Nat), i < l.length → (ptC l)[i * 2]? = some (.int .u64 (l.getD i (0, 0)).1) ∧ (ptC l)[i * 2 + 1]? = some (.int .u64 (l.getD i (0, 0)).2)
  | p :: l, 0, h => ⟨rfl, rfl⟩
  | p :: l, i + 1, h => by
    have := ptC_get l i (by simpa using h)
    rw [show (i + 1) * 2 = i * 2 + 2 by omega]
    exact this
theorem info_ptz : (Tryz.prog.info? 38).map (fun i => (i.zero, i.size, i.bytes)) = some (some (.agg #[.int .u64 0, .int .u64 0]), 2, 16) := by kernel_rfl
theorem own_pts {w : World} {base m c : Nat} {A : Option Addr} {l : List Pt} (h : w.ownsRow base 38 2 (.slice A m c) m (ptC l)) (hl : l.length = m) : PtsIn w A l := by
  by_cases h0 : m = 0
  · left; exact List.eq_nil_of_length_eq_zero (by omega)
  · obtain ⟨g, c', e, h1, h2, h3⟩ := own_value h (by omega)
    cases e
    refine Or.inr ⟨g, 0, rfl, h2, fun i hi => ?_⟩
    obtain ⟨k1, k2⟩ := ptC_get l i hi
    have key : ∀ j u, (ptC l)[j]? = some u → w.cell? ⟨g, 0 + j, none⟩ = some u := fun j u hu => by
      have := h.cells rfl j u hu
      have e : (⟨g, 0, none⟩ : Addr).add j = ⟨g, 0 + j, none⟩ := by
        unfold Addr.add
        split
        · rename_i h; simp [h]
        · rfl
      rw [e] at this
      exact this
    refine ⟨key _ _ k1, ?_⟩
    rw [Nat.add_assoc]
    exact key _ _ k2
theorem ptC_app (l m : List Pt) : ptC (l ++ m) = ptC l ++ ptC m := by
  induction l with
  | nil => rfl
  | cons x l ih => simp [ptC, ih]
theorem ptC_one (l : List Pt) : ∀ u ∈ ptC l, u.oneCell' = true := by
  induction l with
  | nil => intro u h; cases h
  | cons x l ih =>
    intro u h
    simp only [ptC, List.mem_cons] at h
    rcases h with rfl | rfl | h
    · rfl
    · rfl
    · exact ih u h
theorem add_lit (b o j : Nat) : (⟨b, o, none⟩ : Addr).add j = ⟨b, o + j, none⟩ := by
  unfold Addr.add
  split
  · rename_i h; simp [h]
  · rfl
theorem ptC_cells {w : World} {b o : Nat} {l : List Pt} (h : PtsAt w b o l) (j : Nat) (u : Value) (hu : (ptC l)[j]? = some u) : w.cell? ((⟨b, o, none⟩ : Addr).add j) = some u := by
  rw [add_lit]
  have hj : j < l.length * 2 := by
    have := (List.getElem?_eq_some_iff.1 hu).1
    rw [ptC_len] at this; exact this
  have hi : j / 2 < l.length := by omega
  obtain ⟨g1, g2⟩ := ptC_get l (j / 2) hi
  obtain ⟨k1, k2⟩ := h (j / 2) hi
  rcases (show j = j / 2 * 2 ∨ j = j / 2 * 2 + 1 by omega) with e | e
  · rw [e] at hu; rw [g1] at hu; rw [e, ← hu]; exact k1
  · rw [e] at hu; rw [g2] at hu; rw [e, ← hu]; exact k2
theorem run_app_none {w : World} {base n c : Nat} {v : Value} {xs : List Value} {A : Option Addr} (hown : w.ownsRow base 38 2 v n xs) :
    ∃ v' w', (Builtin.append_ #[22, 22] 22 #[v, .slice A 0 c]).run Tryz.prog w = .ok v' w' ∧ w'.ownsRow base 38 2 v' n xs ∧ w.grownBy w' v.ownBlock := by
  obtain ⟨i, hi, h1, h2, h3⟩ := info_parts info_ptz
  refine ⟨v, w, ?_, hown, ⟨rfl, rfl, rfl, Nat.le_refl _, fun _ _ _ => rfl⟩⟩
  rcases hown.2 with ⟨rfl, rfl⟩ | ⟨g, cap, cur, rfl, hbg, hg, hnc, hcm, hcs, htake⟩
  · cases A <;> simp [Builtin.append_, run_underlying Tryz.underlying22, sizeOf, typeInfo, hi, Builtin.lenOf, Builtin.firstCells, loadCells, loadCellsFrom]
  · cases A <;> simp [Builtin.append_, run_underlying Tryz.underlying22, sizeOf, typeInfo, hi, Builtin.lenOf, Builtin.firstCells, loadCells, loadCellsFrom, storeCells, hnc]
theorem run_app_pts {w : World} {base n c : Nat} {v : Value} {cs bs : List Pt} {A : Option Addr} (hown : w.ownsRow base 38 2 v n (ptC cs)) (hb : PtsIn w A bs) (hn : n ≤ 1000000) (hm : bs.length ≤ 1000000) (hbase : base ≤ w.heap.size) :
    ∃ v' w', (Builtin.append_ #[22, 22] 22 #[v, .slice A bs.length c]).run Tryz.prog w = .ok v' w' ∧ w'.ownsRow base 38 2 v' (n + bs.length) (ptC (cs ++ bs)) ∧ w.grownBy w' v.ownBlock := by
  rcases hb with rfl | ⟨b, o, rfl, hlt, hp⟩
  · rw [List.append_nil]; exact run_app_none hown
  · obtain ⟨i, hi, h1, h2, h3⟩ := info_parts info_ptz
    obtain ⟨v', w', k1, k2, k3, _⟩ := run_append_own (P := Tryz.prog) w base 22 22 38 i _ 2 16 Tryz.underlying22 hi h1 h2 h3 rfl (by decide) v n (ptC cs) hown ⟨b, o, none⟩ bs.length c (ptC bs) (ptC_len bs) (ptC_cells hp) (ptC_one bs) (by simp only [maxLen]; omega) (by omega) hbase
    exact ⟨v', w', k1, by rw [ptC_app]; exact k2, k3⟩
theorem wp_app_pts {w : World} {o : Oper} {a : Act} {K : Act → World → Prop} {Q : Exit → Act → World → Prop} (s x : Operand) (ho : o.op = .call { callee := .builtin .append, args := #[s, x], argTypes := #[22, 22] }) (hty : o.type = 22)
    (base n c : Nat) (v : Value) (cs bs : List Pt) (A : Option Addr) (hs : a.eval s = v) (hx : a.eval x = .slice A bs.length c) (hown : w.ownsRow base 38 2 v n (ptC cs)) (hb : PtsIn w A bs) (hn : n ≤ 1000000) (hm : bs.length ≤ 1000000) (hbase : base ≤ w.heap.size)
    (h : ∀ v' w', w'.ownsRow base 38 2 v' (n + bs.length) (ptC (cs ++ bs)) → w.grownBy w' v.ownBlock → K (a.put o.dst v') w') : o.wp Tryz.prog a w K Q := by
  obtain ⟨v', w', hr, h2, h3⟩ := run_app_pts (c := c) hown hb hn hm hbase
  unfold Oper.wp execOp
  simp only [ho, hty, resolve, invoke, builtin, Sem.run_bind, Sem.run_pure, Result.andThen_ok, List.map_toArray, List.map_cons, List.map_nil, hs, hx, hr]
  exact h v' w' h2 h3
theorem wpList_app_pts {w : World} {ops : Array Oper} {rest : List Oper} {o : Oper} {a : Act} {Q : Exit → Act → World → Prop} (hgd : o.guard = none) (s x : Operand) (ho : o.op = .call { callee := .builtin .append, args := #[s, x], argTypes := #[22, 22] }) (hty : o.type = 22)
    (base n c : Nat) (v : Value) (cs bs : List Pt) (A : Option Addr) (hs : a.eval s = v) (hx : a.eval x = .slice A bs.length c) (hown : w.ownsRow base 38 2 v n (ptC cs)) (hb : PtsIn w A bs) (hn : n ≤ 1000000) (hm : bs.length ≤ 1000000) (hbase : base ≤ w.heap.size)
    (h : ∀ v' w', w'.ownsRow base 38 2 v' (n + bs.length) (ptC (cs ++ bs)) → w.grownBy w' v.ownBlock → wpList Tryz.prog ops Q rest (a.put o.dst v') w') : wpList Tryz.prog ops Q (o :: rest) a w :=
  wpList_plain hgd fun _ hK => wp_app_pts s x ho hty base n c v cs bs A hs hx hown hb hn hm hbase fun v' w' h2 h3 => hK _ _ (h v' w' h2 h3)
theorem own_made {w : World} {base : Nat} (l : List Pt) (hb : base ≤ w.heap.size) (hl : l.length ≤ 1000000) : (w.alloc (.cells (ptC l).toArray 38 (0, 0))).ownsRow base 38 2 (.slice (some ⟨w.heap.size, 0, none⟩) l.length l.length) l.length (ptC l) :=
  ⟨by rw [ptC_len], .inr ⟨w.heap.size, l.length, (ptC l).toArray, rfl, hb, alloc_new _ _, Nat.le_refl _, by simp only [maxLen]; omega, by simpa using ptC_len l, by simp [← ptC_len l]⟩⟩
end Go.Proofs.YtfpofmifmapmfaaGreatDoor

namespace Go.Proofs.YtfpofmifmapmfaaGreatDoor
open Go.RowKit Go.Proofs.YtfpofmifmapmfaaGreatDoorW.PrintLast
set_option linter.unusedVariables false
set_option linter.unusedSimpArgs false
set_option maxRecDepth 100000 in
set_option maxHeartbeats 1600000 in
theorem lClosedWith (A : Option Addr) (c : Nat) (ps : List Pt) (p : Pt) (w : World) (hp : PtsIn w A ps) (hl : ps.length ≤ 100000) :
    Calls Tryz.prog 36 #[.agg #[.int .u64 p.1, .int .u64 p.2], .slice A ps.length c] w fun e w' => ∃ v, e = .returned v ∧ w'.ownsRow w.heap.size 38 2 v (1 + ps.length) (ptC ([p] ++ ps)) ∧ Below w.heap.size w w' := by
  have HP := Lib.hid hp
  have HL := Lib.hid hl
  clear hp hl
  go_enter Tryz.func36, Tryz.ntmps36
  have hB : Below w.heap.size w (w.alloc (.cells #[.int .u64 p.1, .int .u64 p.2] 38)) := (Below.refl _ _).alloc (Nat.le_refl _) _
  have hP2 := (HP.out.keep hB).keep ((Below.refl _ _).alloc (Nat.le_refl _) (.cells #[.int .u64 p.1, .int .u64 p.2] 38))
  have hO : ((w.alloc (.cells #[.int .u64 p.1, .int .u64 p.2] 38)).alloc (.cells #[.int .u64 p.1, .int .u64 p.2] 38)).ownsRow w.heap.size 38 2 (.slice (some ⟨w.heap.size + 1, 0, none⟩) 1 1) 1 (ptC [p]) := by
    have := own_made (w := w.alloc (.cells #[.int .u64 p.1, .int .u64 p.2] 38)) (base := w.heap.size) [p] hB.size (by simp)
    rw [World.size_alloc] at this
    exact this
  have hB2 := (hB.alloc hB.size (.cells #[.int .u64 p.1, .int .u64 p.2] 38))
  have hs2 := hB2.size
  have HB2 := Lib.hid hB2
  clear hB hB2
  have hl := HL.out
  ((try dsimp only); repeat (first | (with_reducible refine wpList_app_pts rfl (.tmp 6) (.tmp 7) rfl rfl w.heap.size 1 c (.slice (some ⟨w.heap.size + 1, 0, none⟩) 1 1) [p] ps A rfl rfl hO hP2 (by omega) (by omega) hs2 ?_) | go_values | go_skip | go_guarded | go_step | go_upon))
  intro v2 w2 hown2 hgr
  have hb2 := ownsRow_below hO HB2.out hs2 hgr
  have HE := Lib.hid (And.intro hown2 hb2)
  clear hown2 hb2 hgr hO hs2 hP2 HB2
  ((try dsimp only); repeat (first | go_values | go_skip | go_guarded | go_step | go_upon))
  go_ret
  exact ⟨v2, rfl, HE.out⟩
def closedL (ps : List Pt) : List Pt := if ps.length = 0 then [] else ps ++ [ps.getD 0 (0, 0)]
theorem own_none {w : World} {base g : Nat} (hg : w.heap[g]? = some (.cells #[] 38 (0, 0))) (hb : base ≤ g) : w.ownsRow base 38 2 (.slice (some ⟨g, 0, none⟩) 0 0) 0 (ptC []) :=
  ⟨rfl, .inr ⟨g, 0, #[], rfl, hb, hg, Nat.le_refl _, by simp only [maxLen]; omega, rfl, rfl⟩⟩
structure CLF (W : World) (n : Nat) (ps : List Pt) (p : Pt) (s : Value × Value × Nat) (w : World) : Prop where
  own : w.ownsRow W.heap.size 38 2 s.2.1 n (ptC ps)
  new : w.heap[s.2.2]? = some (.cells #[.int .u64 p.1, .int .u64 p.2] 38 (0, 0))
  bel : Below W.heap.size W w
set_option maxRecDepth 100000 in
set_option maxHeartbeats 1600000 in
theorem lClosed (A : Option Addr) (c : Nat) (ps : List Pt) (w : World) (hp : PtsIn w A ps) (hl : ps.length ≤ 100000) :
    Calls Tryz.prog 32 #[.slice A ps.length c] w fun e w' => ∃ v, e = .returned v ∧ w'.ownsRow w.heap.size 38 2 v (closedL ps).length (ptC (closedL ps)) ∧ Below w.heap.size w w' := by
  have HP := Lib.hid hp
  have HL := Lib.hid hl
  clear hp hl
  by_cases h0 : ps.length = 0
  · have HC : Hid (closedL ps = []) := Lib.hid (by unfold closedL; rw [if_pos h0])
    have e0 : ((ps.length : Int) == 0) = true := beq_iff_eq.2 (by omega)
    rw [HC.out]
    clear h0
    go_enter Tryz.func32, Tryz.ntmps32
    ((try dsimp only); repeat (first | go_values | go_skip | go_guarded | go_step | go_upon))
    go_ret
    exact ⟨_, rfl, World.ownsRow_nil _ _ _ _, Below.refl _ _⟩
  · have HC : Hid (closedL ps = ps ++ [ps.getD 0 (0, 0)]) := Lib.hid (by unfold closedL; rw [if_neg h0])
    have e0 : ((ps.length : Int) == 0) = false := beq_eq_false_iff_ne.2 (by omega)
    obtain ⟨b, o, rfl, hb, hpa⟩ := HP.out.open (k := 0) (by omega)
    have HR : Hid (∀ wz, Below w.heap.size w wz → wz.cell? ⟨b, o, none⟩ = some (.int .u64 (ps.getD 0 (0, 0)).1) ∧ wz.cell? ⟨b, o + 1, none⟩ = some (.int .u64 (ps.getD 0 (0, 0)).2)) :=
      Lib.hid (fun wz h => ⟨(h.cell (p := ⟨b, o, none⟩) hb).trans (hpa 0 (by omega)).1, (h.cell (p := ⟨b, o + 1, none⟩) hb).trans (by have := (hpa 0 (by omega)).2; rwa [Nat.zero_mul, Nat.add_zero] at this)⟩)
    rw [HC.out]
    generalize ps.getD 0 (0, 0) = p at *
    have l0 : 0 < ps.length := by omega
    clear hpa
    go_enter Tryz.func32, Tryz.ntmps32
    ((try dsimp only); repeat (first | go_values | go_skip | go_guarded | go_step | go_upon))
    refine start_ (n := 9) (S := fun w' => Below w.heap.size w w') (ds := []) (bt 9 0) (by kernel_rfl) rfl rfl ((Below.refl _ _).drew) (fun hHeld => ?_)
    refine pv_ 1 7 ?_
    refine pv_ 3 9 ?_
    refine pv_ 4 10 ?_
    refine ld_ 5 11 ?_ hHeld ?_ ?_; rotate_left
    · rintro w' hs
      obtain ⟨c0, c1⟩ := HR.out w' hs
      clear hs
      go_simp; with_reducible rfl
    refine join_ (σ := Value × Value × Nat) 2 (bt 9 127) (fun s => [(6, s.1), (8, s.2.1), (12, .slice (some ⟨s.2.2, 0, none⟩) 1 1)]) (fun s w' => CLF w ps.length ps p s w') ?_ ?_
    rotate_left
    · intro J
      have HPK : Hid (∀ wz, Below w.heap.size w wz → PtsIn wz (some ⟨b, o, none⟩) ps) := Lib.hid (fun wz h => HP.out.keep h)
      generalize w.drew = w1 at *
      have HB1 := Lib.hid hHeld
      have hb1 := HB1.out
      refine o2 0 6 6 12 (bt 9 59) (bt 9 122) ?_ ?_
      · intro K hK
        refine value_ (v := .slice (some ⟨w1.heap.size, 0, none⟩) 0 0) (w1 := w1.alloc (.cells #[] 38)) (by rfl) rfl ?_ ?_
        · go_simp; (try rfl)
        have hb2 := hb1.alloc hb1.size (.cells #[] 38)
        have hn2 := alloc_new w1 (.cells #[] 38)
        have hk2 := (Below.refl w1.heap.size w1).alloc (Nat.le_refl _) (.cells #[] 38)
        have hlt2 : w1.heap.size < (w1.alloc (.cells #[] 38)).heap.size := by rw [World.size_alloc]; omega
        have hO := own_none hn2 hb1.size
        generalize w1.alloc (.cells #[] 38) = w2 at *
        generalize w1.heap.size = g0 at *
        refine hK.out _ _ hb2 (fun _ => ?_)
        clear hK K
        refine nn ?_
        refine o2 2 8 6 12 (bt 9 63) (bt 9 123) ?_ ?_
        · intro K hK
          rw [if_pos (by rfl)]
          refine wp_app_pts (.tmp 6) (.tmp 7) rfl rfl w.heap.size 0 c (.slice (some ⟨g0, 0, none⟩) 0 0) [] ps (some ⟨b, o, none⟩) rfl rfl hO (HPK.out _ hb2) (by omega) (by have := HL.out; omega) hb2.size ?_
          intro v3 w3 hown3 hgr
          have hb3 := ownsRow_below hO hb2 hb2.size hgr
          rw [Nat.zero_add] at hown3
          refine hK.out (Act.put _ (some 8) v3) _ hb3 (fun _ => ?_)
          clear hK K
          refine nn ?_
          refine o1 6 12 (bt 9 127) ?_
          intro K hK
          refine value_ (v := .slice (some ⟨w3.heap.size, 0, none⟩) 1 1) (w1 := w3.alloc (.cells #[.int .u64 p.1, .int .u64 p.2] 38)) (by rfl) rfl ?_ ?_
          · go_simp; (try rfl)
          have hb4 := hb3.alloc hb3.size (.cells #[.int .u64 p.1, .int .u64 p.2] 38)
          have hn4 := alloc_new w3 (.cells #[.int .u64 p.1, .int .u64 p.2] 38)
          have hk4 := (Below.refl w3.heap.size w3).alloc (Nat.le_refl _) (.cells #[.int .u64 p.1, .int .u64 p.2] 38)
          have hlt4 : w3.heap.size < (w3.alloc (.cells #[.int .u64 p.1, .int .u64 p.2] 38)).heap.size := by rw [World.size_alloc]; omega
          refine hK.out _ _ hb4 (fun _ => ?_)
          clear hK K
          exact nj (J (.slice (some ⟨g0, 0, none⟩) 0 0, v3, w3.heap.size) _ ⟨World.ownsRow.alloc hown3 _, hn4, hb4⟩)
        · intro K hK
          refine value_ (v := .slice (some ⟨w2.heap.size, 0, none⟩) 1 1) (w1 := w2.alloc (.cells #[.int .u64 p.1, .int .u64 p.2] 38)) (by rfl) rfl ?_ ?_
          · go_simp; (try rfl)
          have hb3 := hb2.alloc hb2.size (.cells #[.int .u64 p.1, .int .u64 p.2] 38)
          have hn3 := alloc_new w2 (.cells #[.int .u64 p.1, .int .u64 p.2] 38)
          have hk3 := (Below.refl w2.heap.size w2).alloc (Nat.le_refl _) (.cells #[.int .u64 p.1, .int .u64 p.2] 38)
          have hlt3 : w2.heap.size < (w2.alloc (.cells #[.int .u64 p.1, .int .u64 p.2] 38)).heap.size := by rw [World.size_alloc]; omega
          have hO3 := World.ownsRow.alloc hO (.cells #[.int .u64 p.1, .int .u64 p.2] 38)
          have hne : w2.heap.size ≠ g0 := by omega
          generalize w2.alloc (.cells #[.int .u64 p.1, .int .u64 p.2] 38) = w3 at *
          generalize w2.heap.size = g1 at *
          refine hK.out _ _ hb3 (fun _ => ?_)
          clear hK K
          refine nn ?_
          refine o1 2 8 (bt 9 127) ?_
          intro K hK
          rw [if_pos (by rfl)]
          refine wp_app_pts (.tmp 6) (.tmp 7) rfl rfl w.heap.size 0 c (.slice (some ⟨g0, 0, none⟩) 0 0) [] ps (some ⟨b, o, none⟩) rfl rfl hO3 (HPK.out _ hb3) (by omega) (by have := HL.out; omega) hb3.size ?_
          intro v4 w4 hown4 hgr
          have hb4 := ownsRow_below hO3 hb3 hb3.size hgr
          have hn4 : w4.heap[g1]? = some (.cells #[.int .u64 p.1, .int .u64 p.2] 38 (0, 0)) := (hgr.5 g1 (heap_lt hn3) (by intro e; have := Option.some.inj e; exact hne this)).trans hn3
          rw [Nat.zero_add] at hown4
          refine hK.out _ _ hb4 (fun _ => ?_)
          clear hK K
          exact nj (J (.slice (some ⟨g0, 0, none⟩) 0 0, v4, g1) w4 ⟨hown4, hn4, hb4⟩)
      · intro K hK
        refine value_ (v := .slice (some ⟨w1.heap.size, 0, none⟩) 1 1) (w1 := w1.alloc (.cells #[.int .u64 p.1, .int .u64 p.2] 38)) (by rfl) rfl ?_ ?_
        · go_simp; (try rfl)
        have hb2 := hb1.alloc hb1.size (.cells #[.int .u64 p.1, .int .u64 p.2] 38)
        have hn2 := alloc_new w1 (.cells #[.int .u64 p.1, .int .u64 p.2] 38)
        have hk2 := (Below.refl w1.heap.size w1).alloc (Nat.le_refl _) (.cells #[.int .u64 p.1, .int .u64 p.2] 38)
        have hlt2 : w1.heap.size < (w1.alloc (.cells #[.int .u64 p.1, .int .u64 p.2] 38)).heap.size := by rw [World.size_alloc]; omega
        generalize w1.alloc (.cells #[.int .u64 p.1, .int .u64 p.2] 38) = w2 at *
        generalize w1.heap.size = g1 at *
        refine hK.out _ _ hb2 (fun _ => ?_)
        clear hK K
        refine nn ?_
        refine o1 0 6 (bt 9 123) ?_
        intro K hK
        refine value_ (v := .slice (some ⟨w2.heap.size, 0, none⟩) 0 0) (w1 := w2.alloc (.cells #[] 38)) (by rfl) rfl ?_ ?_
        · go_simp; (try rfl)
        have hb3 := hb2.alloc hb2.size (.cells #[] 38)
        have hnE := alloc_new w2 (.cells #[] 38)
        have hk3 := (Below.refl w2.heap.size w2).alloc (Nat.le_refl _) (.cells #[] 38)
        have hlt3 : w2.heap.size < (w2.alloc (.cells #[] 38)).heap.size := by rw [World.size_alloc]; omega
        have hn3 := (hk3.block g1 hlt2).trans hn2
        have hO3 := own_none hnE hb2.size
        have hne : g1 ≠ w2.heap.size := by omega
        generalize w2.alloc (.cells #[] 38) = w3 at *
        generalize w2.heap.size = g0 at *
        refine hK.out _ _ hb3 (fun _ => ?_)
        clear hK K
        refine nn ?_
        refine o1 2 8 (bt 9 127) ?_
        intro K hK
        rw [if_pos (by rfl)]
        refine wp_app_pts (.tmp 6) (.tmp 7) rfl rfl w.heap.size 0 c (.slice (some ⟨g0, 0, none⟩) 0 0) [] ps (some ⟨b, o, none⟩) rfl rfl hO3 (HPK.out _ hb3) (by omega) (by have := HL.out; omega) hb3.size ?_
        intro v4 w4 hown4 hgr
        have hb4 := ownsRow_below hO3 hb3 hb3.size hgr
        have hn4 : w4.heap[g1]? = some (.cells #[.int .u64 p.1, .int .u64 p.2] 38 (0, 0)) := (hgr.5 g1 (heap_lt hn3) (by intro e; have := Option.some.inj e; exact hne this)).trans hn3
        rw [Nat.zero_add] at hown4
        refine hK.out _ _ hb4 (fun _ => ?_)
        clear hK K
        exact nj (J (.slice (some ⟨g0, 0, none⟩) 0 0, v4, g1) w4 ⟨hown4, hn4, hb4⟩)
    rintro ⟨s1, s2, g⟩ w3 hF
    try dsimp only at hF ⊢
    refine na ?_
    refine o1 7 13 (bt 9 255) ?_
    intro K hK
    rw [if_pos (by rfl)]
    refine wp_app_pts (.tmp 8) (.tmp 12) rfl rfl w.heap.size ps.length 1 s2 ps [p] (some ⟨g, 0, none⟩) rfl rfl hF.own (Or.inr ⟨g, 0, rfl, heap_lt hF.new, pts_one hF.new⟩) (by have := HL.out; omega) (by simp) hF.bel.size ?_
    intro v4 w4 hown4 hgr
    have hb4 := ownsRow_below hF.own hF.bel hF.bel.size hgr
    refine hK.out (Act.put _ (some 13) v4) _ hb4 (fun _ => ?_)
    clear hK K
    refine nn ?_
    refine pv_ 8 2 ?_
    refine done_ (by kernel_rfl) ?_
    have HE : Hid (w4.ownsRow w.heap.size 38 2 v4 (ps ++ [p]).length (ptC (ps ++ [p])) ∧ Below w.heap.size w w4) := Lib.hid ⟨by rw [List.length_append]; exact hown4, hb4⟩
    clear hown4 hb4 hgr hF
    ((try dsimp only); repeat (first | go_values | go_skip | go_guarded | go_step | go_upon))
    go_ret
    exact ⟨v4, rfl, HE.out⟩
end Go.Proofs.YtfpofmifmapmfaaGreatDoor

namespace Go.Proofs.YtfpofmifmapmfaaGreatDoor
open Go.RowKit Go.Proofs.YtfpofmifmapmfaaGreatDoorW.PrintLast
set_option linter.unusedVariables false
set_option linter.unusedSimpArgs false
set_option maxRecDepth 100000 in
set_option maxHeartbeats 3200000 in
theorem lSameRat (A B C D : Option Addr) (lo up lo' up' : Nat) (q : Rat) (w : World) (hp : RatIn lo up w A B q) (hq : RatIn lo' up' w C D q) (hu : up ≤ w.heap.size) (hu' : up' ≤ w.heap.size) (hl : (qn q).length ≤ 4096 ∧ (qd q).length ≤ 4096) :
    Calls Tryz.prog 23 #[qv A B q, qv C D q] w fun e w' => e = .returned (.bool true) ∧ Below w.heap.size w w' := by
  unfold qv
  obtain ⟨n1, d1⟩ := hp
  obtain ⟨n2, d2⟩ := hq
  generalize qn q = xs at *
  generalize qd q = ys at *
  generalize decide (q.num < 0) = s at *
  have HL := Lib.hid hl
  have hW : ∀ wz, Below w.heap.size w wz → (WordsIn lo up wz A xs ∧ WordsIn lo up wz B ys) ∧ WordsIn lo' up' wz C xs ∧ WordsIn lo' up' wz D ys := fun wz h => ⟨⟨n1.keep (Keep.of h hu), d1.keep (Keep.of h hu)⟩, n2.keep (Keep.of h hu'), d2.keep (Keep.of h hu')⟩
  have HW := Lib.hid hW
  clear n1 d1 n2 d2 hl hW
  go_enter Tryz.func23, Tryz.ntmps23
  have hb1 : Below w.heap.size w (w.alloc (.cells #[.bool s, .slice A xs.length xs.length, .slice B ys.length ys.length] 26)) := (Below.refl _ _).alloc (Nat.le_refl _) _
  have hn1 := alloc_new w (.cells #[.bool s, .slice A xs.length xs.length, .slice B ys.length ys.length] 26)
  have hb2 := hb1.alloc hb1.size (.cells #[.bool s, .slice C xs.length xs.length, .slice D ys.length ys.length] 26)
  have hn2 := alloc_new (w.alloc (.cells #[.bool s, .slice A xs.length xs.length, .slice B ys.length ys.length] 26)) (.cells #[.bool s, .slice C xs.length xs.length, .slice D ys.length ys.length] 26)
  ((try dsimp only); repeat (first | go_values | go_skip | go_guarded | go_step | go_upon))
  have hs1 : (w.alloc (.cells #[.bool s, .slice A xs.length xs.length, .slice B ys.length ys.length] 26)).heap.size = w.heap.size + 1 := World.size_alloc _ _
  have hs2 : ((w.alloc (.cells #[.bool s, .slice A xs.length xs.length, .slice B ys.length ys.length] 26)).alloc (.cells #[.bool s, .slice C xs.length xs.length, .slice D ys.length ys.length] 26)).heap.size = w.heap.size + 1 + 1 := by rw [World.size_alloc, World.size_alloc]
  have hn3 := (((Below.refl _ _).alloc (Nat.le_refl _) (.cells #[.bool s, .slice C xs.length xs.length, .slice D ys.length ys.length] 26)).block w.heap.size (by rw [hs1]; omega)).trans hn1
  rw [hs1] at hn2
  generalize World.alloc (World.alloc w _) _ = w2 at *
  have HN := Lib.hid (And.intro hn3 hn2)
  have HB2 := Lib.hid hb2
  have HT : Hid (w.heap.size < w2.heap.size ∧ w.heap.size + 1 < w2.heap.size) := Lib.hid ⟨by omega, by omega⟩
  clear hn1 hn2 hn3 hb1 hb2 hs1 hs2
  go_loopw [5] (fun i wr => ∃ k : Nat, i = .int .i64 k ∧ k ≤ xs.length ∧ Below w2.heap.size w2 wr) (fun i _ => xs.length - (intOf i).toNat)
  case atStart => exact ⟨0, rfl, Nat.zero_le _, Below.refl _ _⟩
  case round =>
    obtain ⟨k, rfl, hk, hB⟩ := hrel
    obtain ⟨c0, c1, c2, _, _, _⟩ := rw3 ((hB.block _ HT.out.1).trans HN.out.1)
    obtain ⟨d0, d1, d2, _, _, _⟩ := rw3 ((hB.block _ HT.out.2).trans HN.out.2)
    by_cases h0 : k < xs.length
    · obtain ⟨b, o, hb0, hb1, hb2, hc⟩ := (HW.out _ (HB2.out.trans (hB.mono HB2.out.size))).1.1.at h0
      obtain ⟨b', o', hb0', hb1', hb2', hc'⟩ := (HW.out _ (HB2.out.trans (hB.mono HB2.out.size))).2.1.at h0
      subst hb0; subst hb0'
      have HD := Lib.hid hB
      have hsz := hB.size
      have ht := HT.out
      generalize xs.getD k 0 = v at *
      have HX := Lib.hid (fun wz (h : Below wr.heap.size wr wz) => And.intro ((h.cell (p := ⟨w.heap.size, 1, none⟩) (by dsimp only; omega)).trans c1) (And.intro ((h.cell (p := ⟨w.heap.size + 1, 1, none⟩) (by dsimp only; omega)).trans d1)
        (And.intro ((h.cell (p := ⟨b, o + k, none⟩) (by dsimp only; omega)).trans hc) ((h.cell (p := ⟨b', o' + k, none⟩) (by dsimp only; omega)).trans hc'))))
      have hw1 : wrap64 ((k : Int) + 1) = ((k + 1 : Nat) : Int) := by have := HL.out; clear HD HW HN HB2 HX HT; unfold wrap64; omega
      have W1 := Lib.hid hw1
      clear hw1 hB hc hc'
      have l1 : (k : Int) < (xs.length : Int) := by omega
      go_upto_region 6 with (fail)
      refine start_ (n := 11) (S := fun w' => Below wr.heap.size wr w') (ds := []) (bt 11 0) (by kernel_rfl) rfl rfl ((Below.refl _ _).drew) (fun hHeld => ?_)
      refine pv_ 0 37 ?_
      refine ld_ 1 38 ?_ hHeld ?_ ?_; rotate_left
      · rintro w' hs
        obtain ⟨e0, e1, e2, e3⟩ := HX.out _ hs
        clear hs
        go_simp; with_reducible rfl
      refine pv_ 2 39 ?_
      refine pv_ 3 40 ?_
      refine ld_ 4 41 ?_ hHeld ?_ ?_; rotate_left
      · rintro w' hs
        obtain ⟨e0, e1, e2, e3⟩ := HX.out _ hs
        clear hs
        go_simp; with_reducible rfl
      refine pv_ 5 42 ?_
      refine ld_ 6 43 ?_ hHeld ?_ ?_; rotate_left
      · rintro w' hs
        obtain ⟨e0, e1, e2, e3⟩ := HX.out _ hs
        clear hs
        go_simp; with_reducible rfl
      refine pv_ 7 44 ?_
      refine pv_ 8 45 ?_
      refine ld_ 9 46 ?_ hHeld ?_ ?_; rotate_left
      · rintro w' hs
        obtain ⟨e0, e1, e2, e3⟩ := HX.out _ hs
        clear hs
        go_simp; with_reducible rfl
      refine pv_ 10 47 ?_
      refine done_ (by kernel_rfl) ?_
      ((try dsimp only); repeat (first | go_values | go_skip | go_guarded | go_step | go_upon))
      refine ⟨⟨k + 1, vint W1.out, h0, HD.out.drew⟩, ?_⟩
      show xs.length - (intOf (.int .i64 (wrap64 ((k : Int) + 1)))).toNat < xs.length - (intOf (.int .i64 (k : Int))).toNat
      rw [W1.out]
      clear HD W1 HW HN HB2 HX
      show xs.length - (((k + 1 : Nat) : Int)).toNat < xs.length - ((k : Int)).toNat
      omega
    · obtain rfl : k = xs.length := by omega
      have HD := Lib.hid hB
      clear hB
      ((try dsimp only); repeat (first | go_values | go_skip | go_guarded | go_step | go_upon))
      go_loopw [6] (fun i wr => ∃ k : Nat, i = .int .i64 k ∧ k ≤ ys.length ∧ Below w2.heap.size w2 wr) (fun i _ => ys.length - (intOf i).toNat)
      case atStart => exact ⟨0, rfl, Nat.zero_le _, HD.out⟩
      case round =>
        obtain ⟨k, rfl, hk, hB⟩ := hrel
        obtain ⟨c0, c1, c2, _, _, _⟩ := rw3 ((hB.block _ HT.out.1).trans HN.out.1)
        obtain ⟨d0, d1, d2, _, _, _⟩ := rw3 ((hB.block _ HT.out.2).trans HN.out.2)
        by_cases h0 : k < ys.length
        · obtain ⟨b, o, hb0, hb1, hb2, hc⟩ := (HW.out _ (HB2.out.trans (hB.mono HB2.out.size))).1.2.at h0
          obtain ⟨b', o', hb0', hb1', hb2', hc'⟩ := (HW.out _ (HB2.out.trans (hB.mono HB2.out.size))).2.2.at h0
          subst hb0; subst hb0'
          have HD := Lib.hid hB
          have hsz := hB.size
          have ht := HT.out
          generalize ys.getD k 0 = v at *
          have HX := Lib.hid (fun wz (h : Below wr.heap.size wr wz) => And.intro ((h.cell (p := ⟨w.heap.size, 2, none⟩) (by dsimp only; omega)).trans c2) (And.intro ((h.cell (p := ⟨w.heap.size + 1, 2, none⟩) (by dsimp only; omega)).trans d2)
            (And.intro ((h.cell (p := ⟨b, o + k, none⟩) (by dsimp only; omega)).trans hc) ((h.cell (p := ⟨b', o' + k, none⟩) (by dsimp only; omega)).trans hc'))))
          have hw1 : wrap64 ((k : Int) + 1) = ((k + 1 : Nat) : Int) := by have := HL.out; clear HD HW HN HB2 HX HT; unfold wrap64; omega
          have W1 := Lib.hid hw1
          clear hw1 hB hc hc'
          have l1 : (k : Int) < (ys.length : Int) := by omega
          go_upto_region 11 with (fail)
          refine start_ (n := 11) (S := fun w' => Below wr.heap.size wr w') (ds := []) (bt 11 0) (by kernel_rfl) rfl rfl ((Below.refl _ _).drew) (fun hHeld => ?_)
          refine pv_ 0 55 ?_
          refine ld_ 1 56 ?_ hHeld ?_ ?_; rotate_left
          · rintro w' hs
            obtain ⟨e0, e1, e2, e3⟩ := HX.out _ hs
            clear hs
            go_simp; with_reducible rfl
          refine pv_ 2 57 ?_
          refine pv_ 3 58 ?_
          refine ld_ 4 59 ?_ hHeld ?_ ?_; rotate_left
          · rintro w' hs
            obtain ⟨e0, e1, e2, e3⟩ := HX.out _ hs
            clear hs
            go_simp; with_reducible rfl
          refine pv_ 5 60 ?_
          refine ld_ 6 61 ?_ hHeld ?_ ?_; rotate_left
          · rintro w' hs
            obtain ⟨e0, e1, e2, e3⟩ := HX.out _ hs
            clear hs
            go_simp; with_reducible rfl
          refine pv_ 7 62 ?_
          refine pv_ 8 63 ?_
          refine ld_ 9 64 ?_ hHeld ?_ ?_; rotate_left
          · rintro w' hs
            obtain ⟨e0, e1, e2, e3⟩ := HX.out _ hs
            clear hs
            go_simp; with_reducible rfl
          refine pv_ 10 65 ?_
          refine done_ (by kernel_rfl) ?_
          ((try dsimp only); repeat (first | go_values | go_skip | go_guarded | go_step | go_upon))
          refine ⟨⟨k + 1, vint W1.out, h0, HD.out.drew⟩, ?_⟩
          show ys.length - (intOf (.int .i64 (wrap64 ((k : Int) + 1)))).toNat < ys.length - (intOf (.int .i64 (k : Int))).toNat
          rw [W1.out]
          clear HD W1 HW HN HB2 HX
          show ys.length - (((k + 1 : Nat) : Int)).toNat < ys.length - ((k : Int)).toNat
          omega
        · obtain rfl : k = ys.length := by omega
          have HD := Lib.hid hB
          clear hB
          ((try dsimp only); repeat (first | go_values | go_skip | go_guarded | go_step | go_upon))
          go_ret
          exact ⟨rfl, HB2.out.trans (HD.out.mono HB2.out.size)⟩
end Go.Proofs.YtfpofmifmapmfaaGreatDoor

namespace Go.Proofs.YtfpofmifmapmfaaGreatDoor
open Go.RowKit Go.Proofs.YtfpofmifmapmfaaGreatDoorW.PrintLast
set_option linter.unusedVariables false
set_option linter.unusedSimpArgs false
def pthE : List Pt → List Ed
  | [] => []
  | [_] => []
  | x :: y :: l => (x, y) :: pthE (y :: l)
theorem edge_cons (x : Pt) (r : List Pt) (k : Nat) : edge (x :: r) (k + 1) = edge r k := rfl
theorem edgesR_pth : ∀ r : List Pt, edgesR r = pthE r
  | [] => rfl
  | [x] => rfl
  | x :: y :: l => by
    have ih := edgesR_pth (y :: l)
    rw [pthE, ← ih]
    unfold edgesR edgesU
    have e1 : (x :: y :: l).length - 1 = l.length + 1 := rfl
    have e2 : (y :: l).length - 1 = l.length := rfl
    rw [e1, e2, List.range_succ_eq_map, List.map_cons, List.map_map]
    rfl
theorem pthE_app : ∀ (l : List Pt) (x : Pt) (m : List Pt), pthE (l ++ x :: m) = pthE (l ++ [x]) ++ pthE (x :: m)
  | [], x, m => rfl
  | [y], x, m => rfl
  | y :: z :: l, x, m => by
    have ih := pthE_app (z :: l) x m
    show (y, z) :: pthE (z :: l ++ x :: m) = (y, z) :: pthE (z :: l ++ [x]) ++ pthE (x :: m)
    rw [ih]; rfl
theorem foldE (f : Ed → Rat) : ∀ (es : List Ed) (s : Rat), es.foldl (fun s e => s + f e) s = s + es.foldl (fun s e => s + f e) 0
  | [], s => by simp [Rat.add_zero]
  | e :: es, s => by
    rw [List.foldl_cons, List.foldl_cons, foldE f es (s + f e), foldE f es (0 + f e), Rat.zero_add, Rat.add_assoc]
theorem foldI (f : Ed → Int) : ∀ (es : List Ed) (s : Int), es.foldl (fun s e => s + f e) s = s + es.foldl (fun s e => s + f e) 0
  | [], s => by simp
  | e :: es, s => by
    rw [List.foldl_cons, List.foldl_cons, foldI f es (s + f e), foldI f es (0 + f e)]; omega
theorem sumE_app (f : Ed → Rat) (a b : List Ed) : sumE f (a ++ b) = sumE f a + sumE f b := by
  unfold sumE; rw [List.foldl_append, foldE f b]
theorem sumI_app (f : Ed → Int) (a b : List Ed) : sumI f (a ++ b) = sumI f a + sumI f b := by
  unfold sumI; rw [List.foldl_append, foldI f b]
theorem sumE_cons (f : Ed → Rat) (e : Ed) (b : List Ed) : sumE f (e :: b) = f e + sumE f b := by
  unfold sumE; rw [List.foldl_cons, foldE f b, Rat.zero_add]
theorem sumI_cons (f : Ed → Int) (e : Ed) (b : List Ed) : sumI f (e :: b) = f e + sumI f b := by
  unfold sumI; rw [List.foldl_cons, foldI f b, Int.zero_add]
theorem crs_rev (x y : Pt) : crs (x, y) + crs (y, x) = 0 := by unfold crs; grind
theorem qsgn_turn (a : Rat) : qsgn (-a) = -qsgn a := by
  unfold qsgn
  rw [Rat.neg_num]
  split <;> split <;> (try split) <;> (try split) <;> omega
theorem side_rev (x y p : Pt) : sideP y x p = - sideP x y p := by
  unfold sideP side3
  rw [← qsgn_turn]
  congr 1
  unfold area2
  grind
theorem crossE_rev (p x y : Pt) : crossE p (x, y) + crossE p (y, x) = 0 := by
  have h := side_rev x y p
  unfold crossE
  dsimp only
  rw [h]
  repeat' split
  all_goals omega
def oneR (a : List Pt) : List Pt := a ++ [a.getD 0 (0, 0)]
def twoR (a b : List Pt) : List Pt := [a.getD 0 (0, 0)] ++ ([a.getD (a.length - 1) (0, 0)] ++ b) ++ [a.getD 0 (0, 0)]
def wholeR (a b : List Pt) : List Pt := a ++ b ++ [a.getD 0 (0, 0)]
theorem last_form {a : List Pt} (h : 0 < a.length) : a = a.take (a.length - 1) ++ [a.getD (a.length - 1) (0, 0)] := by
  have e : a.drop (a.length - 1) = [a.getD (a.length - 1) (0, 0)] := by
    rw [List.drop_eq_getElem_cons (by omega), List.getD_eq_getElem?_getD, List.getElem?_eq_getElem (by omega), List.drop_eq_nil_of_le (by omega)]
    rfl
  rw [← e, List.take_append_drop]
theorem parts_edges {a : List Pt} (b : List Pt) (h : 0 < a.length) : ∃ x y : Pt, ∃ es : List Ed,
    edgesR (oneR a) = edgesR a ++ [(x, y)] ∧ edgesR (twoR a b) = (y, x) :: es ∧ edgesR (wholeR a b) = edgesR a ++ es := by
  simp only [edgesR_pth]
  obtain ⟨i, y, hy⟩ : ∃ i y, a = i ++ [y] ∧ y = a.getD (a.length - 1) (0, 0) := ⟨_, _, last_form h, rfl⟩
  obtain ⟨hy, hl⟩ := hy
  refine ⟨y, a.getD 0 (0, 0), pthE (y :: (b ++ [a.getD 0 (0, 0)])), ?_, ?_, ?_⟩
  · unfold oneR
    generalize a.getD 0 (0, 0) = x at *
    rw [hy, List.append_assoc]
    exact pthE_app i y [x]
  · unfold twoR
    rw [← hl]
    rfl
  · unfold wholeR
    generalize a.getD 0 (0, 0) = x at *
    rw [hy, List.append_assoc, List.append_assoc]
    exact pthE_app i y (b ++ [x])
theorem parts_area {a : List Pt} (b : List Pt) (h : 0 < a.length) : sumE crs (edgesR (oneR a)) + sumE crs (edgesR (twoR a b)) = sumE crs (edgesR (wholeR a b)) := by
  obtain ⟨x, y, es, h1, h2, h3⟩ := parts_edges b h
  rw [h1, h2, h3, sumE_app, sumE_app, sumE_cons, sumE_cons]
  have := crs_rev x y
  have z : sumE crs [] = 0 := rfl
  rw [z]
  grind
theorem parts_wind {a : List Pt} (b : List Pt) (p : Pt) (h : 0 < a.length) : sumI (crossE p) (edgesR (oneR a)) + sumI (crossE p) (edgesR (twoR a b)) = sumI (crossE p) (edgesR (wholeR a b)) := by
  obtain ⟨x, y, es, h1, h2, h3⟩ := parts_edges b h
  rw [h1, h2, h3, sumI_app, sumI_app, sumI_cons, sumI_cons]
  have := crossE_rev p x y
  have z : sumI (crossE p) [] = 0 := rfl
  rw [z]
  omega
end Go.Proofs.YtfpofmifmapmfaaGreatDoor

namespace Go.Proofs.YtfpofmifmapmfaaGreatDoor
open Go.RowKit Go.Proofs.YtfpofmifmapmfaaGreatDoorW.PrintLast
set_option linter.unusedVariables false
set_option linter.unusedSimpArgs false
theorem finB_app (a b : List Pt) : finB (a ++ b) = (finB a && finB b) := by unfold finB; rw [List.all_append]
theorem finB_at {a : List Pt} {k : Nat} (h : k < a.length) (hf : finB a = true) : finB [a.getD k (0, 0)] = true := by
  unfold finB at hf ⊢
  rw [List.all_eq_true] at hf
  have := hf _ (getD_mem h)
  simp only [List.all_cons, List.all_nil, Bool.and_true]
  exact this
theorem pcmpP_self (x : Pt) : pcmpP x x = 0 := by
  unfold pcmpP pcmp
  rw [qcmp_self, if_neg (by decide), qcmp_self]
theorem chkE_round {x : Pt} {m more : List Pt} (hl : m.length ≤ 500) : chkE (x :: m ++ [x]) more = if (finB (x :: m) && finB more) = true then 0 else 220 := by
  have e1 : (x :: m ++ [x]).length = m.length + 2 := by simp
  have e2 : (x :: m ++ [x]).getD 0 (0, 0) = x := rfl
  have e3 : (x :: m ++ [x]).getD ((x :: m ++ [x]).length - 1) (0, 0) = x := by
    rw [e1, List.getD_eq_getElem?_getD, List.getElem?_append_right (by simp), List.length_cons]
    simp
  have e4 : finB (x :: m ++ [x]) = finB (x :: m) := by
    rw [finB_app]
    cases h : finB (x :: m)
    · rfl
    · have := finB_at (a := x :: m) (k := 0) (by simp) h
      simpa using this
  unfold chkE
  rw [e2, e3, e4, pcmpP_self, e1, if_neg (by omega)]
  cases finB (x :: m) && finB more <;> rfl
theorem head_form {a : List Pt} (h : 0 < a.length) : ∃ t, a = a.getD 0 (0, 0) :: t ∧ t.length + 1 = a.length := by
  cases a with
  | nil => simp at h
  | cons x t => exact ⟨t, rfl, rfl⟩
theorem one_chk {a more : List Pt} (h : 0 < a.length) (hl : a.length ≤ 400) : chkE (oneR a) more = if (finB a && finB more) = true then 0 else 220 := by
  obtain ⟨t, e, et⟩ := head_form h
  unfold oneR
  generalize a.getD 0 (0, 0) = x at *
  subst e
  exact chkE_round (by omega)
theorem whole_chk {a b more : List Pt} (h : 0 < a.length) (hl : a.length + b.length ≤ 400) : chkE (wholeR a b) more = if (finB a && finB b && finB more) = true then 0 else 220 := by
  obtain ⟨t, e, et⟩ := head_form h
  unfold wholeR
  generalize a.getD 0 (0, 0) = x at *
  subst e
  rw [← finB_app]
  exact chkE_round (m := t ++ b) (by rw [List.length_append]; omega)
theorem two_chk {a b more : List Pt} (h : 0 < a.length) (hl : b.length ≤ 400) : chkE (twoR a b) more = if (finB [a.getD 0 (0, 0), a.getD (a.length - 1) (0, 0)] && finB b && finB more) = true then 0 else 220 := by
  unfold twoR
  generalize a.getD 0 (0, 0) = x at *
  generalize a.getD (a.length - 1) (0, 0) = y at *
  rw [← finB_app]
  exact chkE_round (m := y :: b) (by simp; omega)
theorem ends_fin {a : List Pt} (h : 0 < a.length) (hf : finB a = true) : finB [a.getD 0 (0, 0), a.getD (a.length - 1) (0, 0)] = true := by
  have h1 := finB_at (k := 0) h hf
  have h2 := finB_at (k := a.length - 1) (by omega) hf
  have := finB_app [a.getD 0 (0, 0)] [a.getD (a.length - 1) (0, 0)]
  rw [h1, h2] at this
  exact this
theorem wind_cases (r : List Pt) (p : Pt) : (windR r p).2 = true ∨ (windR r p = (sumI (crossE p) (edgesR r), false)) := by
  unfold windR
  split
  · exact Or.inl rfl
  · split
    · exact Or.inl rfl
    · exact Or.inr rfl
theorem parts_windV {a b : List Pt} (p : Pt) (h : 0 < a.length) (hl : a.length + b.length ≤ 400) (fa : finB a = true) (fb : finB b = true) :
    (finB [p] = false → (windV (oneR a) p).2.2 = 220 ∧ (windV (twoR a b) p).2.2 = 220 ∧ (windV (wholeR a b) p).2.2 = 220) ∧
    (finB [p] = true → (windV (oneR a) p).2.2 = 0 ∧ (windV (twoR a b) p).2.2 = 0 ∧ (windV (wholeR a b) p).2.2 = 0 ∧
      ((windV (oneR a) p).2.1 = true ∨ (windV (twoR a b) p).2.1 = true ∨ (windV (wholeR a b) p).2.1 = true ∨ (windV (wholeR a b) p).1 = (windV (oneR a) p).1 + (windV (twoR a b) p).1)) := by
  have c1 := one_chk (more := [p]) h (by omega)
  have c2 := two_chk (a := a) (b := b) (more := [p]) h (by omega)
  have c3 := whole_chk (b := b) (more := [p]) h hl
  rw [fa] at c1
  rw [ends_fin h fa, fb] at c2
  rw [fa, fb] at c3
  refine ⟨fun hp => ?_, fun hp => ?_⟩
  · rw [hp] at c1 c2 c3
    have d1 : chkE (oneR a) [p] = 220 := c1
    have d2 : chkE (twoR a b) [p] = 220 := c2
    have d3 : chkE (wholeR a b) [p] = 220 := c3
    unfold windV
    rw [d1, d2, d3]
    exact ⟨rfl, rfl, rfl⟩
  · rw [hp] at c1 c2 c3
    have d1 : chkE (oneR a) [p] = 0 := c1
    have d2 : chkE (twoR a b) [p] = 0 := c2
    have d3 : chkE (wholeR a b) [p] = 0 := c3
    unfold windV
    rw [d1, d2, d3]
    refine ⟨rfl, rfl, rfl, ?_⟩
    simp only [ne_eq, not_true_eq_false, if_false]
    rcases wind_cases (oneR a) p with e1 | e1
    · exact Or.inl e1
    rcases wind_cases (twoR a b) p with e2 | e2
    · exact Or.inr (Or.inl e2)
    rcases wind_cases (wholeR a b) p with e3 | e3
    · exact Or.inr (Or.inr (Or.inl e3))
    rw [e1, e2, e3]
    exact Or.inr (Or.inr (Or.inr (parts_wind b p h).symm))
end Go.Proofs.YtfpofmifmapmfaaGreatDoor

namespace Go.Proofs.YtfpofmifmapmfaaGreatDoor
open Go.RowKit Go.Proofs.YtfpofmifmapmfaaGreatDoorW.PrintLast
set_option linter.unusedVariables false
set_option linter.unusedSimpArgs false
theorem own_one {w : World} {base g : Nat} {p : Pt} (hg : w.heap[g]? = some (.cells #[.int .u64 p.1, .int .u64 p.2] 38 (0, 0))) (hb : base ≤ g) : w.ownsRow base 38 2 (.slice (some ⟨g, 0, none⟩) 1 1) 1 (ptC [p]) :=
  ⟨rfl, .inr ⟨g, 1, _, rfl, hb, hg, Nat.le_refl _, by simp only [maxLen]; omega, rfl, rfl⟩⟩
theorem run_app_new {w : World} {base g c : Nat} {p : Pt} {bs : List Pt} {A : Option Addr} (hg : w.heap[g]? = some (.cells #[.int .u64 p.1, .int .u64 p.2] 38 (0, 0))) (hbg : base ≤ g) (hb : PtsIn w A bs) (hm0 : 0 < bs.length) (hm : bs.length ≤ 1000000) (hbase : base ≤ w.heap.size) :
    ∃ v' w', (Builtin.append_ #[22, 22] 22 #[.slice (some ⟨g, 0, none⟩) 1 1, .slice A bs.length c]).run Tryz.prog w = .ok v' w' ∧ w'.ownsRow base 38 2 v' (1 + bs.length) (ptC ([p] ++ bs)) ∧ Below w.heap.size w w' := by
  have hO := own_one hg hbg
  obtain ⟨v', w', h1, h2, h3⟩ := run_app_pts (c := c) hO hb (by omega) hm hbase
  refine ⟨v', w', h1, h2, ?_⟩
  rcases hb with rfl | ⟨b, o, rfl, hlt, hp⟩
  · simp at hm0
  · obtain ⟨i, hi, g1, g2, g3⟩ := info_parts info_ptz
    have hr := run_append_grow (P := Tryz.prog) w 22 22 38 i _ Tryz.underlying22 hi g1 ⟨g, 0, none⟩ 1 1 (ptC [p]) (by rw [g2]; rfl) (hO.cells (g := g) rfl) ⟨b, o, none⟩ bs.length c (ptC bs) (by rw [g2]; exact ptC_len bs) (ptC_cells hp) (by omega) (by omega) (growslice_fits (by omega) (by rw [g3]; omega))
    rw [hr] at h1
    have e := (Result.ok.inj h1).2
    rw [← e]
    exact (Below.refl _ _).drew.alloc (Nat.le_refl _) _
theorem wp_app_new {w : World} {o : Oper} {a : Act} {K : Act → World → Prop} {Q : Exit → Act → World → Prop} (s x : Operand) (ho : o.op = .call { callee := .builtin .append, args := #[s, x], argTypes := #[22, 22] }) (hty : o.type = 22)
    (base g c : Nat) (p : Pt) (bs : List Pt) (A : Option Addr) (hs : a.eval s = .slice (some ⟨g, 0, none⟩) 1 1) (hx : a.eval x = .slice A bs.length c) (hg : w.heap[g]? = some (.cells #[.int .u64 p.1, .int .u64 p.2] 38 (0, 0))) (hbg : base ≤ g) (hb : PtsIn w A bs) (hm0 : 0 < bs.length) (hm : bs.length ≤ 1000000) (hbase : base ≤ w.heap.size)
    (h : ∀ v' w', w'.ownsRow base 38 2 v' (1 + bs.length) (ptC ([p] ++ bs)) → Below w.heap.size w w' → K (a.put o.dst v') w') : o.wp Tryz.prog a w K Q := by
  obtain ⟨v', w', hr, h2, h3⟩ := run_app_new (c := c) hg hbg hb hm0 hm hbase
  unfold Oper.wp execOp
  simp only [ho, hty, resolve, invoke, builtin, Sem.run_bind, Sem.run_pure, Result.andThen_ok, List.map_toArray, List.map_cons, List.map_nil, hs, hx, hr]
  exact h v' w' h2 h3
structure RPz (w : World) (g7 : Nat) (p x y : Pt) (a : List Pt) (v9 : Value) (wz : World) : Prop where
  bel : Below w.heap.size w wz
  c5 : wz.heap[w.heap.size]? = some (.cells #[.int .u64 p.1, .int .u64 p.2] 38 (0, 0))
  c7 : wz.heap[g7]? = some (.cells #[.int .u64 x.1, .int .u64 x.2] 38 (0, 0))
  c8 : wz.heap[g7 + 1]? = some (.cells #[.int .u64 y.1, .int .u64 y.2] 38 (0, 0))
  one : wz.ownsRow w.heap.size 38 2 v9 (oneR a).length (ptC (oneR a))
theorem RPz.keep {w wz wy : World} {g7 : Nat} {p x y : Pt} {a : List Pt} {v9 : Value} (h : RPz w g7 p x y a v9 wz) (k : Below wz.heap.size wz wy) : RPz w g7 p x y a v9 wy :=
  ⟨h.bel.trans (k.mono h.bel.size), (k.block _ (heap_lt h.c5)).trans h.c5, (k.block _ (heap_lt h.c7)).trans h.c7, (k.block _ (heap_lt h.c8)).trans h.c8, ownsRow_keep h.one k⟩
structure R6z (S : World → Prop) (B0 : Nat) (x y : Pt) (b : List Pt) (i1 i4 i5 i7 : Bool) (s : Nat × Option Addr × Nat × Value × Nat) (w : World) : Prop where
  h : S w
  f1 : i1 = true → w.heap[s.1]? = some (.cells #[.int .u64 x.1, .int .u64 x.2] 38 (0, 0)) ∧ B0 ≤ s.1
  f4 : i4 = true → PtsIn w s.2.1 ([y] ++ b)
  f5 : i5 = true → w.ownsRow B0 38 2 s.2.2.2.1 (1 + ([y] ++ b).length) (ptC ([x] ++ ([y] ++ b)))
  f7 : i7 = true → w.heap[s.2.2.2.2]? = some (.cells #[.int .u64 x.1, .int .u64 x.2] 38 (0, 0))
section
variable {S : World → Prop} {B0 : Nat} {x y : Pt} {b : List Pt} {i1 i4 i5 i7 : Bool} {s1 : Nat} {s4 : Option Addr} {c4 : Nat} {s5 : Value} {s7 : Nat} {w w' : World}
theorem R6z.go1 (h : R6z S B0 x y b i1 i4 i5 i7 (s1, s4, c4, s5, s7) w) (k : Below w.heap.size w w') (hS : S w') (g : Nat) (hg : w'.heap[g]? = some (.cells #[.int .u64 x.1, .int .u64 x.2] 38 (0, 0))) (hb : B0 ≤ g) : R6z S B0 x y b true i4 i5 i7 (g, s4, c4, s5, s7) w' :=
  ⟨hS, fun _ => ⟨hg, hb⟩, fun e => (h.f4 e).keep k, fun e => ownsRow_keep (h.f5 e) k, fun e => (k.block _ (heap_lt (h.f7 e))).trans (h.f7 e)⟩
theorem R6z.go4 (h : R6z S B0 x y b i1 i4 i5 i7 (s1, s4, c4, s5, s7) w) (k : Below w.heap.size w w') (hS : S w') (A : Option Addr) (c : Nat) (hg : PtsIn w' A ([y] ++ b)) : R6z S B0 x y b i1 true i5 i7 (s1, A, c, s5, s7) w' :=
  ⟨hS, fun e => ⟨(k.block _ (heap_lt (h.f1 e).1)).trans (h.f1 e).1, (h.f1 e).2⟩, fun _ => hg, fun e => ownsRow_keep (h.f5 e) k, fun e => (k.block _ (heap_lt (h.f7 e))).trans (h.f7 e)⟩
theorem R6z.go5 (h : R6z S B0 x y b i1 i4 i5 i7 (s1, s4, c4, s5, s7) w) (k : Below w.heap.size w w') (hS : S w') (v : Value) (hg : w'.ownsRow B0 38 2 v (1 + ([y] ++ b).length) (ptC ([x] ++ ([y] ++ b)))) : R6z S B0 x y b i1 i4 true i7 (s1, s4, c4, v, s7) w' :=
  ⟨hS, fun e => ⟨(k.block _ (heap_lt (h.f1 e).1)).trans (h.f1 e).1, (h.f1 e).2⟩, fun e => (h.f4 e).keep k, fun _ => hg, fun e => (k.block _ (heap_lt (h.f7 e))).trans (h.f7 e)⟩
theorem R6z.go7 (h : R6z S B0 x y b i1 i4 i5 i7 (s1, s4, c4, s5, s7) w) (k : Below w.heap.size w w') (hS : S w') (g : Nat) (hg : w'.heap[g]? = some (.cells #[.int .u64 x.1, .int .u64 x.2] 38 (0, 0))) : R6z S B0 x y b i1 i4 i5 true (s1, s4, c4, s5, g) w' :=
  ⟨hS, fun e => ⟨(k.block _ (heap_lt (h.f1 e).1)).trans (h.f1 e).1, (h.f1 e).2⟩, fun e => (h.f4 e).keep k, fun e => ownsRow_keep (h.f5 e) k, fun _ => hg⟩
end
theorem own_lower {w : World} {b b' : Nat} {e : TypeId} {size : Nat} {v : Value} {n : Nat} {xs : List Value} (h : w.ownsRow b e size v n xs) (hb : b' ≤ b) : w.ownsRow b' e size v n xs := by
  refine ⟨h.1, ?_⟩
  rcases h.2 with h | ⟨g, cap, cur, h1, h2, h3⟩
  · exact Or.inl h
  · exact Or.inr ⟨g, cap, cur, h1, Nat.le_trans hb h2, h3⟩
theorem area_any (A : Option Addr) (c : Nat) (ps : List Pt) (w : World) (hp : PtsIn w A ps) (hl : ps.length ≤ 1000000) (hu : ∀ q ∈ ps, PtU q) :
    Calls Tryz.prog 16 #[.slice A ps.length c] w fun e w' => ∃ s E n n' F m m', e = .returned (.tuple #[.agg #[.bool s, .slice E n n', .slice F m m'], .int .i64 (chkE ps [])]) ∧
      (chkE ps [] = 0 → Value.agg #[.bool s, .slice E n n', .slice F m m'] = qv E F (sumE crs (edgesR ps)) ∧ RatFresh w.heap.size w' E F (sumE crs (edgesR ps))) ∧ Below w.heap.size w w' := by
  refine (gArea2 A c ps w hp hl hu).mono ?_
  rintro e w' ⟨h, hb⟩
  by_cases h0 : chkE ps [] = 0
  · obtain ⟨E, F, h1, h2⟩ := h.2 h0
    refine ⟨_, E, _, _, F, _, _, ?_, fun _ => ⟨rfl, h2⟩, hb⟩
    rw [h0]; exact h1
  · exact ⟨_, _, _, _, _, _, _, h.1 h0, fun k => absurd k h0, hb⟩
end Go.Proofs.YtfpofmifmapmfaaGreatDoor
