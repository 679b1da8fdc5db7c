/- The law RingBegins of package plumblaw24 answers true at every list of points, whichever side is asked for, and changes nothing that it was handed: the tied card, for every input, no condition. -/
import Derived.Test.YtfpofmifmapmfaaGreatDoorRH
import Derived.Test.YtfpofmifmapmfaaGreatDoorRD
import Derived.Test.YtfpofmifmapmfaaGreatDoorRA
import Derived.Test.YtfpofmifmapmfaaGreatDoorRows
import Derived.Test.YtfpofmifmapmfaaGreatDoorCards
import Derived.Test.YtfpofmifmapmfaaGreatDoorTie
import Derived.ProofKit
import Derived.LaidMore
import Derived.OpenShut
import Derived.Stop.Joined
import Derived.Below
import Derived.ChangeSame
import Derived.SevenTiedAt
import Derived.Deep.Slices
import Derived.SizedLaws
namespace Go.Proofs.YtfpofmifmapmfaaGreatDoor
open Go.RowKit Go.Proofs.YtfpofmifmapmfaaGreatDoorW.PrintLast
set_option linter.unusedVariables false
set_option linter.unusedSimpArgs false
theorem cClosedA (A : Option Addr) (c : Nat) (l : List Pt) (h0 : 0 < l.length) (hl : l.length ≤ 511) (w : World) (hp : PtsIn w A l) :
    Calls Tryz.prog 32 #[.slice A l.length c] w fun e w' => ∃ g c1, e = .returned (.slice (some ⟨g, 0, none⟩) (l.length + 1) c1) ∧ l.length + 1 ≤ c1 ∧ PtsIn w' (some ⟨g, 0, none⟩) (closedL l) ∧ Below w.heap.size w w' := by
  refine (lClosed A c l w hp (by omega)).mono ?_
  rintro e w' ⟨v, rfl, hown, hb⟩
  have e := closedL_len h0
  rw [e] at hown
  obtain ⟨g, c1, rfl, _, _, hc⟩ := own_value hown (by omega)
  exact ⟨g, c1, rfl, hc, own_pts hown e, hb⟩
set_option maxRecDepth 100000 in
set_option maxHeartbeats 3200000 in
theorem lBeginsNo (A : Option Addr) (c : Nat) (l : List Pt) (left : Bool) (w : World) (hl : l.length ≤ 4611686018427387903) (hn : l.length = 0 ∨ 511 < l.length) :
    Calls Tryz.prog 11 #[.slice A l.length c, .bool left] w fun e w' => e = .returned (.bool true) ∧ Below w.heap.size w w' := by
  have HAl := Lib.hid (fun wz => lAlive24 wz)
  go_enter Tryz.func11, Tryz.ntmps11
  by_cases h0 : l.length = 0
  · have l0 : ((l.length : Int) == 0) = true := by rw [h0]; rfl
    clear h0 hn
    ((try dsimp only); repeat (first | go_values | go_skip | go_guarded | go_step | go_upon))
    refine (HAl.out _).mono ?_
    rintro e w1 ⟨rfl, hb1⟩
    have HB := Lib.hid hb1
    clear hb1
    ((try dsimp only); repeat (first | go_values | go_skip | go_guarded | go_step | go_upon))
    refine (HAl.out _).mono ?_
    rintro e w2 ⟨rfl, hb2⟩
    have HB2 := Lib.hid (HB.out.trans (hb2.mono HB.out.size))
    clear hb2 HB
    ((try dsimp only); repeat (first | go_values | go_skip | go_guarded | go_step | go_upon))
    go_ret
    exact ⟨rfl, HB2.out⟩
  · have l0 : ((l.length : Int) == 0) = false := beq_eq_false_iff_ne.2 (by omega)
    have l1 : (511 : Int) < (l.length : Int) := by omega
    have l2 : 511 < l.length := by omega
    clear hn
    ((try dsimp only); repeat (first | go_values | go_skip | go_guarded | go_step | go_upon))
    refine (HAl.out _).mono ?_
    rintro e w1 ⟨rfl, hb1⟩
    have HB := Lib.hid hb1
    clear hb1
    ((try dsimp only); repeat (first | go_values | go_skip | go_guarded | go_step | go_upon))
    refine (HAl.out _).mono ?_
    rintro e w2 ⟨rfl, hb2⟩
    have HB2 := Lib.hid (HB.out.trans (hb2.mono HB.out.size))
    clear hb2 HB
    ((try dsimp only); repeat (first | go_values | go_skip | go_guarded | go_step | go_upon))
    go_ret
    exact ⟨rfl, HB2.out⟩
set_option maxRecDepth 100000 in
set_option maxHeartbeats 3200000 in
theorem lBeginsBad (A : Option Addr) (c : Nat) (l : List Pt) (left : Bool) (w : World) (hp : PtsIn w A l) (h0 : 0 < l.length) (hl : l.length ≤ 511) (hu : ∀ q ∈ l, PtU q) (hf : finB l = false) :
    Calls Tryz.prog 11 #[.slice A l.length c, .bool left] w fun e w' => e = .returned (.bool true) ∧ Below w.heap.size w w' := by
  have HAl := Lib.hid (fun wz => lAlive24 wz)
  have HC := Lib.hid (cClosedA A c l h0 hl)
  have HS := Lib.hid (fun A1 c1 => cStartNo A1 c1 l left h0 hl hf hu)
  have HF : Hid (∀ wz, PtsIn wz A l → Calls Tryz.prog 37 #[.slice A l.length c] wz fun e w' => e = .returned (.bool false) ∧ Below wz.heap.size wz w') := Lib.hid (fun wz h => by
    have := f24Finite A c l wz h (by omega) hu
    rw [hf] at this
    exact this)
  have HP := Lib.hid hp
  have l0 : ((l.length : Int) == 0) = false := beq_eq_false_iff_ne.2 (by omega)
  have l1 : ¬ (511 : Int) < (l.length : Int) := by omega
  have l2 : ¬ 511 < l.length := by omega
  clear hp hu hf
  go_enter Tryz.func11, Tryz.ntmps11
  ((try dsimp only); repeat (first | go_values | go_skip | go_guarded | go_step | go_upon))
  refine (HAl.out _).mono ?_
  rintro e w1 ⟨rfl, hb1⟩
  have HB1 := Lib.hid hb1
  clear hb1
  ((try dsimp only); repeat (first | go_values | go_skip | go_guarded | go_step | go_upon))
  refine (HC.out _ (HP.out.keep HB1.out)).mono ?_
  rintro e w2 ⟨g, c1, rfl, hc1, hp2, hb2⟩
  have HB2 := Lib.hid (HB1.out.trans (hb2.mono HB1.out.size))
  have HP2 := Lib.hid hp2
  clear hb2 hp2 HB1
  ((try dsimp only); repeat (first | go_values | go_skip | go_guarded | go_step | go_upon))
  refine (HS.out _ _ _ HP2.out).mono ?_
  rintro e w3 ⟨rfl, hb3⟩
  have HB3 := Lib.hid (HB2.out.trans (hb3.mono HB2.out.size))
  clear hb3 HB2
  ((try dsimp only); repeat (first | go_values | go_skip | go_guarded | go_step | go_upon))
  refine (HF.out _ (HP.out.keep HB3.out)).mono ?_
  rintro e w4 ⟨rfl, hb4⟩
  have HB4 := Lib.hid (HB3.out.trans (hb4.mono HB3.out.size))
  clear hb4 HB3
  ((try dsimp only); repeat (first | go_values | go_skip | go_guarded | go_step | go_upon))
  go_ret
  exact ⟨rfl, HB4.out⟩
theorem cBegun (A : Option Addr) (c : Nat) (l : List Pt) (k : Nat) (back : Bool) (hk : k < l.length) (hl : l.length ≤ 511) (w : World) (hp : PtsIn w A l) :
    Calls Tryz.prog 43 #[.slice A l.length c, .int .i64 (k : Int), .bool back] w fun e w' => ∃ A1 c1, e = .returned (.slice A1 l.length c1) ∧ PtsIn w' A1 (bgnL l k back) ∧ Below w.heap.size w w' := by
  have hj : wrap64 ((IntKind.u64.wrap (k : Int)).tmod (l.length : Int)) = (k : Int) := by
    have e : IntKind.u64.wrap (k : Int) = (k : Int) := by
      show (k : Int) % 18446744073709551616 = _
      omega
    rw [e, Int.tmod_eq_emod_of_nonneg (by omega), Int.emod_eq_of_lt (by omega) (by omega)]
    clear e
    unfold wrap64
    omega
  refine (lBegun A c l k k back w hp (by omega) hk hj).mono ?_
  rintro e w' ⟨v, rfl, hown, hb⟩
  obtain ⟨A1, c1, rfl⟩ := own_form hown
  exact ⟨A1, c1, rfl, own_pts hown (bgn_len _ _ _), hb⟩
theorem cEq (A B : Option Addr) (ca cb n : Nat) (a b : List Pt) (na : a.length = n) (nb : b.length = n) (hn : n ≤ 1000000) (ua : ∀ q ∈ a, PtU q) (ub : ∀ q ∈ b, PtU q) (w : World) (ha : PtsIn w A a) (hb : PtsIn w B b) :
    Calls Tryz.prog 24 #[.slice A n ca, .slice B n cb] w fun e w' => e = .returned (.bool (decide (a = b))) ∧ Below w.heap.size w w' := by
  have := lEq24 A B ca cb a b w ha hb (by omega) (by omega) ua ub
  rw [na, nb] at this
  exact this
theorem bgn_mem {l : List Pt} {j : Nat} {back : Bool} {q : Pt} (h : q ∈ bgnL l j back) : q ∈ l := by
  unfold bgnL at h
  rw [rot_mem] at h
  cases back
  · exact h
  · exact List.mem_reverse.1 (by simpa using h)
theorem start_bgn {l m : List Pt} {left : Bool} {t : Int} (h : StartOf l left t m) : ∃ j back, j < l.length ∧ bgnL l j back = m := by
  rcases start_in h with ⟨i, hi, rfl⟩ | ⟨i, hi, rfl⟩
  · exact ⟨i, false, hi, rfl⟩
  · exact ⟨i, true, by simpa using hi, rfl⟩
set_option maxRecDepth 100000 in
set_option maxHeartbeats 6400000 in
theorem lBeginsYes (A : Option Addr) (c : Nat) (l : List Pt) (left : Bool) (w : World) (hp : PtsIn w A l) (h0 : 0 < l.length) (hl : l.length ≤ 511) (hu : ∀ q ∈ l, PtU q) (hf : finB l = true) :
    Calls Tryz.prog 11 #[.slice A l.length c, .bool left] w fun e w' => e = .returned (.bool true) ∧ Below w.heap.size w w' := by
  have HAl := Lib.hid (fun wz => lAlive24 wz)
  have HC := Lib.hid (cClosedA A c l h0 hl)
  have HS := Lib.hid (fun A1 c1 hc => cStart A1 c1 l left h0 hl hc hf hu)
  have HU := Lib.hid hu
  have HF := Lib.hid hf
  have HL := Lib.hid (And.intro h0 hl)
  have HP := Lib.hid hp
  have l0 : ((l.length : Int) == 0) = false := beq_eq_false_iff_ne.2 (by omega)
  have l1 : ¬ (511 : Int) < (l.length : Int) := by omega
  have l2 : ¬ 511 < l.length := by omega
  clear hp hu hf h0 hl
  go_enter Tryz.func11, Tryz.ntmps11
  ((try dsimp only); repeat (first | go_values | go_skip | go_guarded | go_step | go_upon))
  refine (HAl.out _).mono ?_
  rintro e w1 ⟨rfl, hb1⟩
  have HB1 := Lib.hid hb1
  clear hb1 HAl
  ((try dsimp only); repeat (first | go_values | go_skip | go_guarded | go_step | go_upon))
  refine (HC.out _ (HP.out.keep HB1.out)).mono ?_
  rintro e w2 ⟨g2, c2, rfl, hc2, hp2, hb2⟩
  have HB2 := Lib.hid (HB1.out.trans (hb2.mono HB1.out.size))
  have HP2 := Lib.hid (And.intro hp2 hc2)
  clear hb2 hp2 hc2 HB1 HC
  ((try dsimp only); repeat (first | go_values | go_skip | go_guarded | go_step | go_upon))
  refine (HS.out _ _ HP2.out.2 _ HP2.out.1).mono ?_
  rintro e w3 ⟨g, c3, m, rfl, hm, hc3, hL, hp3, hb3⟩
  have HB3 := Lib.hid (HB2.out.trans (hb3.mono HB2.out.size))
  have HP3 := Lib.hid (And.intro (HP2.out.1.keep hb3) hp3)
  have hmu : ∀ q ∈ m, PtU q := fun q hq => HU.out q ((start_mem hL.1 q).1 hq)
  have hmf : finB m = true := by
    have h := HF.out
    unfold finB at h ⊢
    rw [List.all_eq_true] at h ⊢
    exact fun q hq => h q ((start_mem hL.1 q).1 hq)
  have hm0 : 0 < m.length := by have := HL.out.1; omega
  have HT1 := Lib.hid (fun A1 c1 => cTurn A1 c1 m hm0 (by have := HL.out.2; omega) hmf hmu)
  have HT2 := Lib.hid (fun A1 c1 => cTurn A1 c1 l HL.out.1 HL.out.2 HF.out HU.out)
  rw [hm] at HT1
  have HM := Lib.hid (And.intro hm (And.intro hc3 (And.intro hL hmu)))
  clear hb3 hp3 hL hmu hmf hm hc3 HS HB2 HP2
  ((try dsimp only); repeat (first | go_values | go_skip | go_guarded | go_step | go_upon))
  refine (HT1.out _ _ _ HP3.out.2).mono ?_
  rintro e w4 ⟨rfl, hb4⟩
  have HB4 := Lib.hid (HB3.out.trans (hb4.mono HB3.out.size))
  have HP4 := Lib.hid (And.intro (HP3.out.1.keep hb4) (HP3.out.2.keep hb4))
  clear hb4 HB3 HP3 HT1
  ((try dsimp only); repeat (first | go_values | go_skip | go_guarded | go_step | go_upon))
  refine (HT2.out _ _ _ HP4.out.1).mono ?_
  rintro e w5 ⟨rfl, hb5⟩
  have HB5 := Lib.hid (HB4.out.trans (hb5.mono HB4.out.size))
  have HP5 := Lib.hid (HP4.out.2.keep hb5)
  clear hb5 HB4 HP4 HT2
  go_upto_region 9 with (fail)
  go_cut [96] (fun b wx => b = .bool false ∧ Below w5.heap.size w5 wx)
  case first =>
    have hst := start_turn HM.out.2.2.1.1
    have hcl := closedL_len hm0
    have hp5 := HP5.out
    obtain ⟨b1, o1, e1, hbm, hpa⟩ := hp5.open (k := 0) (by omega)
    cases e1
    have x0 := hpa 0 (by omega)
    have x1 := hpa l.length (by have := HM.out.1; omega)
    have hends := closedL_ends hm0
    rw [hcl, show m.length + 1 - 1 = l.length by have := HM.out.1; omega] at hends
    rw [← hends] at x1
    generalize (closedL m).getD 0 (0, 0) = p at *
    rw [Nat.zero_mul, Nat.add_zero] at x0
    rw [Nat.zero_add] at x1
    have HR : Hid (∀ wz, Below w5.heap.size w5 wz → wz.cell? ⟨g, 0, none⟩ = some (.int .u64 p.1) ∧ wz.cell? ⟨g, 1, none⟩ = some (.int .u64 p.2) ∧ wz.cell? ⟨g, l.length * 2, none⟩ = some (.int .u64 p.1) ∧ wz.cell? ⟨g, l.length * 2 + 1, none⟩ = some (.int .u64 p.2)) :=
      Lib.hid (fun wz h => ⟨(h.cell (p := ⟨g, 0, none⟩) hbm).trans x0.1, (h.cell (p := ⟨g, 1, none⟩) hbm).trans x0.2, (h.cell (p := ⟨g, l.length * 2, none⟩) hbm).trans x1.1, (h.cell (p := ⟨g, l.length * 2 + 1, none⟩) hbm).trans x1.2⟩)
    have hwm : wrap64 (l.length : Int) = (l.length : Int) := by clear HR HP5 HB5 HM HP HL HF HU hpa x0 x1 hst; unfold wrap64; omega
    have hli : (l.length : Int) < (l.length : Int) + 1 := by omega
    have hln : l.length < l.length + 1 := by omega
    have hl00 : (0 : Int) ≤ (l.length : Int) := by omega
    clear hpa x0 x1 hends hcl hp5 hbm
    generalize turnP m = tm at *
    generalize turnP l = tl at *
    by_cases hz : tl = 0
    · rw [if_pos hz] at hst
      subst hst
      subst hz
      refine start_ (n := 38) (S := fun w' => Below w5.heap.size w5 w') (ds := []) (bt 38 0) (by kernel_rfl) rfl rfl ((Below.refl _ _).drew) (fun hHeld => ?_)
      refine pv_ 0 59 ?_
      refine pv_ 1 60 ?_
      refine pv_ 2 61 ?_
      refine pv_ 3 62 ?_
      refine pv_ 4 63 ?_
      refine pv_ 5 64 ?_
      refine pv_ 6 65 ?_
      refine pu 7 66 (.bool false) ?_ rfl rfl (by kernel_rfl) (fun _ _ _ h => h) (by rfl) (fun _ => ?_) ?_ ?_; rotate_left
      · go_simp
        first | done | rfl | omega | (simp; done) | (simp; omega)
      · simp only [pA, pB, pC, pD, i64_w, i32_w]; rfl
      refine pv_ 8 67 ?_
      refine pv_ 9 68 ?_
      refine pv_ 10 69 ?_
      refine pv_ 11 70 ?_
      refine ld_ 12 71 ?_ hHeld ?_ ?_; rotate_left
      · rintro w' hs
        obtain ⟨c0, c1, d0, d1⟩ := HR.out _ hs
        clear hs
        go_simp; with_reducible rfl
      refine pv_ 13 72 ?_
      refine pv_ 14 73 ?_
      refine pv_ 15 74 ?_
      refine pv_ 16 75 ?_
      refine pv_ 17 76 ?_
      refine ld_ 18 77 ?_ hHeld ?_ ?_; rotate_left
      · rintro w' hs
        obtain ⟨c0, c1, d0, d1⟩ := HR.out _ hs
        clear hs
        go_simp; with_reducible rfl
      refine pu 19 78 (.bool false) ?_ rfl rfl (by kernel_rfl) (fun _ _ _ h => h) (by rfl) (fun _ => ?_) ?_ ?_; rotate_left
      · go_simp
        first | done | rfl | omega | (simp; done) | (simp; omega)
      · simp only [pA, pB, pC, pD, i64_w, i32_w]; rfl
      refine pv_ 20 79 ?_
      refine pv_ 21 80 ?_
      refine pv_ 22 81 ?_
      refine pv_ 23 82 ?_
      refine pv_ 24 83 ?_
      refine pv_ 25 84 ?_
      refine pu 26 85 (.bool false) ?_ rfl rfl (by kernel_rfl) (fun _ _ _ h => h) (by rfl) (fun _ => ?_) ?_ ?_; rotate_left
      · go_simp
        first | done | rfl | omega | (simp; done) | (simp; omega)
      · simp only [pA, pB, pC, pD, i64_w, i32_w]; rfl
      refine pv_ 27 86 ?_
      refine pv_ 28 87 ?_
      refine pv_ 29 88 ?_
      refine pu 30 89 (.bool false) ?_ rfl rfl (by kernel_rfl) (fun _ _ _ h => h) (by rfl) (fun _ => ?_) ?_ ?_; rotate_left
      · go_simp
        first | done | rfl | omega | (simp; done) | (simp; omega)
      · simp only [pA, pB, pC, pD, i64_w, i32_w]; rfl
      refine pv_ 31 90 ?_
      refine of 32 91 ?_ rfl rfl (by kernel_rfl) (fun _ _ _ h => h) (by first | rfl | (simp [Region.wanted, yielded]; done) | (go_simp; done)) ?_ ?_; rotate_left
      · simp only [pA, pB, pC, pD, i64_w, i32_w]; rfl
      refine of 33 92 ?_ rfl rfl (by kernel_rfl) (fun _ _ _ h => h) (by first | rfl | (simp [Region.wanted, yielded]; done) | (go_simp; done)) ?_ ?_; rotate_left
      · simp only [pA, pB, pC, pD, i64_w, i32_w]; rfl
      refine of 34 93 ?_ rfl rfl (by kernel_rfl) (fun _ _ _ h => h) (by first | rfl | (simp [Region.wanted, yielded]; done) | (go_simp; done)) ?_ ?_; rotate_left
      · simp only [pA, pB, pC, pD, i64_w, i32_w]; rfl
      refine of 35 94 ?_ rfl rfl (by kernel_rfl) (fun _ _ _ h => h) (by first | rfl | (simp [Region.wanted, yielded]; done) | (go_simp; done)) ?_ ?_; rotate_left
      · simp only [pA, pB, pC, pD, i64_w, i32_w]; rfl
      refine pv_ 36 95 ?_
      refine pv_ 37 96 ?_
      refine done_ (by kernel_rfl) ?_
      ((try dsimp only); repeat (first | go_values | go_skip | go_guarded | go_step | go_upon))
      go_meet
      exact ⟨rfl, (Below.refl _ _).drew⟩
    · rw [if_neg hz] at hst
      have hz1 : (tl == 0) = false := beq_eq_false_iff_ne.2 hz
      clear hz
      cases left
      · replace hst : tm = -1 := hst
        subst hst
        refine start_ (n := 38) (S := fun w' => Below w5.heap.size w5 w') (ds := []) (bt 38 0) (by kernel_rfl) rfl rfl ((Below.refl _ _).drew) (fun hHeld => ?_)
        refine pv_ 0 59 ?_
        refine pv_ 1 60 ?_
        refine pv_ 2 61 ?_
        refine pv_ 3 62 ?_
        refine pv_ 4 63 ?_
        refine pv_ 5 64 ?_
        refine pv_ 6 65 ?_
        refine pu 7 66 (.bool false) ?_ rfl rfl (by kernel_rfl) (fun _ _ _ h => h) (by rfl) (fun _ => ?_) ?_ ?_; rotate_left
        · go_simp
          first | done | rfl | omega | (simp; done) | (simp; omega)
        · simp only [pA, pB, pC, pD, i64_w, i32_w]; rfl
        refine pv_ 8 67 ?_
        refine pv_ 9 68 ?_
        refine pv_ 10 69 ?_
        refine pv_ 11 70 ?_
        refine ld_ 12 71 ?_ hHeld ?_ ?_; rotate_left
        · rintro w' hs
          obtain ⟨c0, c1, d0, d1⟩ := HR.out _ hs
          clear hs
          go_simp; with_reducible rfl
        refine pv_ 13 72 ?_
        refine pv_ 14 73 ?_
        refine pv_ 15 74 ?_
        refine pv_ 16 75 ?_
        refine pv_ 17 76 ?_
        refine ld_ 18 77 ?_ hHeld ?_ ?_; rotate_left
        · rintro w' hs
          obtain ⟨c0, c1, d0, d1⟩ := HR.out _ hs
          clear hs
          go_simp; with_reducible rfl
        refine pu 19 78 (.bool false) ?_ rfl rfl (by kernel_rfl) (fun _ _ _ h => h) (by rfl) (fun _ => ?_) ?_ ?_; rotate_left
        · go_simp
          first | done | rfl | omega | (simp; done) | (simp; omega)
        · simp only [pA, pB, pC, pD, i64_w, i32_w]; rfl
        refine pv_ 20 79 ?_
        refine pv_ 21 80 ?_
        refine pv_ 22 81 ?_
        refine pv_ 23 82 ?_
        refine pv_ 24 83 ?_
        refine pv_ 25 84 ?_
        refine pu 26 85 (.bool false) ?_ rfl rfl (by kernel_rfl) (fun _ _ _ h => h) (by rfl) (fun _ => ?_) ?_ ?_; rotate_left
        · go_simp
          first | done | rfl | omega | (simp; done) | (simp; omega)
        · simp only [pA, pB, pC, pD, i64_w, i32_w]; rfl
        refine pv_ 27 86 ?_
        refine pv_ 28 87 ?_
        refine pv_ 29 88 ?_
        refine pu 30 89 (.bool true) ?_ rfl rfl (by kernel_rfl) (fun _ _ _ h => h) (by rfl) (fun _ => ?_) ?_ ?_; rotate_left
        · go_simp
          first | done | rfl | omega | (simp; done) | (simp; omega)
        · simp only [pA, pB, pC, pD, i64_w, i32_w]; rfl
        refine pv_ 31 90 ?_
        refine pv_ 32 91 ?_
        refine pv_ 33 92 ?_
        refine pv_ 34 93 ?_
        refine pu 35 94 (.bool false) ?_ rfl rfl (by kernel_rfl) (fun _ _ _ h => h) (by rfl) (fun _ => ?_) ?_ ?_; rotate_left
        · go_simp
          first | done | rfl | omega | (simp; done) | (simp; omega)
        · simp only [pA, pB, pC, pD, i64_w, i32_w]; rfl
        refine pv_ 36 95 ?_
        refine pv_ 37 96 ?_
        refine done_ (by kernel_rfl) ?_
        ((try dsimp only); repeat (first | go_values | go_skip | go_guarded | go_step | go_upon))
        go_meet
        exact ⟨rfl, (Below.refl _ _).drew⟩
      · replace hst : tm = 1 := hst
        subst hst
        refine start_ (n := 38) (S := fun w' => Below w5.heap.size w5 w') (ds := []) (bt 38 0) (by kernel_rfl) rfl rfl ((Below.refl _ _).drew) (fun hHeld => ?_)
        refine pv_ 0 59 ?_
        refine pv_ 1 60 ?_
        refine pv_ 2 61 ?_
        refine pv_ 3 62 ?_
        refine pv_ 4 63 ?_
        refine pv_ 5 64 ?_
        refine pv_ 6 65 ?_
        refine pu 7 66 (.bool false) ?_ rfl rfl (by kernel_rfl) (fun _ _ _ h => h) (by rfl) (fun _ => ?_) ?_ ?_; rotate_left
        · go_simp
          first | done | rfl | omega | (simp; done) | (simp; omega)
        · simp only [pA, pB, pC, pD, i64_w, i32_w]; rfl
        refine pv_ 8 67 ?_
        refine pv_ 9 68 ?_
        refine pv_ 10 69 ?_
        refine pv_ 11 70 ?_
        refine ld_ 12 71 ?_ hHeld ?_ ?_; rotate_left
        · rintro w' hs
          obtain ⟨c0, c1, d0, d1⟩ := HR.out _ hs
          clear hs
          go_simp; with_reducible rfl
        refine pv_ 13 72 ?_
        refine pv_ 14 73 ?_
        refine pv_ 15 74 ?_
        refine pv_ 16 75 ?_
        refine pv_ 17 76 ?_
        refine ld_ 18 77 ?_ hHeld ?_ ?_; rotate_left
        · rintro w' hs
          obtain ⟨c0, c1, d0, d1⟩ := HR.out _ hs
          clear hs
          go_simp; with_reducible rfl
        refine pu 19 78 (.bool false) ?_ rfl rfl (by kernel_rfl) (fun _ _ _ h => h) (by rfl) (fun _ => ?_) ?_ ?_; rotate_left
        · go_simp
          first | done | rfl | omega | (simp; done) | (simp; omega)
        · simp only [pA, pB, pC, pD, i64_w, i32_w]; rfl
        refine pv_ 20 79 ?_
        refine pv_ 21 80 ?_
        refine pv_ 22 81 ?_
        refine pv_ 23 82 ?_
        refine pv_ 24 83 ?_
        refine pv_ 25 84 ?_
        refine pu 26 85 (.bool false) ?_ rfl rfl (by kernel_rfl) (fun _ _ _ h => h) (by rfl) (fun _ => ?_) ?_ ?_; rotate_left
        · go_simp
          first | done | rfl | omega | (simp; done) | (simp; omega)
        · simp only [pA, pB, pC, pD, i64_w, i32_w]; rfl
        refine pv_ 27 86 ?_
        refine pv_ 28 87 ?_
        refine pv_ 29 88 ?_
        refine pu 30 89 (.bool true) ?_ rfl rfl (by kernel_rfl) (fun _ _ _ h => h) (by rfl) (fun _ => ?_) ?_ ?_; rotate_left
        · go_simp
          first | done | rfl | omega | (simp; done) | (simp; omega)
        · simp only [pA, pB, pC, pD, i64_w, i32_w]; rfl
        refine pv_ 31 90 ?_
        refine pv_ 32 91 ?_
        refine pv_ 33 92 ?_
        refine pv_ 34 93 ?_
        refine pu 35 94 (.bool false) ?_ rfl rfl (by kernel_rfl) (fun _ _ _ h => h) (by rfl) (fun _ => ?_) ?_ ?_; rotate_left
        · go_simp
          first | done | rfl | omega | (simp; done) | (simp; omega)
        · simp only [pA, pB, pC, pD, i64_w, i32_w]; rfl
        refine pv_ 36 95 ?_
        refine pv_ 37 96 ?_
        refine done_ (by kernel_rfl) ?_
        ((try dsimp only); repeat (first | go_values | go_skip | go_guarded | go_step | go_upon))
        go_meet
        exact ⟨rfl, (Below.refl _ _).drew⟩
  case rest =>
    obtain ⟨rfl, hb6⟩ := hcut
    have HB6 := Lib.hid (HB5.out.trans (hb6.mono HB5.out.size))
    have hp6 := HP5.out.keep hb6
    have hp6m : PtsIn wc (some ⟨g, 0, none⟩) m := by
      have := pts_take hp6 ((closedL m).length - 1)
      rwa [closed_take hm0] at this
    have hcl := closedL_len hm0
    obtain ⟨b1, o1, e1, hbm, hpa⟩ := hp6.open (k := 0) (by omega)
    cases e1
    have x0 := hpa 0 (by omega)
    rw [closedL_get hm0, Nat.zero_mul, Nat.add_zero] at x0
    have HHd := Lib.hid (start_head HL.out.1 HM.out.2.2.1)
    have HUp : Hid (PtU (m.getD 0 (0, 0))) := Lib.hid (HM.out.2.2.2 _ (getD_mem hm0))
    generalize m.getD 0 (0, 0) = p at *
    obtain ⟨w6, hw6⟩ : ∃ x, x = wc := ⟨_, rfl⟩
    subst hw6
    have HR6 : Hid (∀ wz, Below w6.heap.size w6 wz → wz.cell? ⟨g, 0, none⟩ = some (.int .u64 p.1) ∧ wz.cell? ⟨g, 1, none⟩ = some (.int .u64 p.2)) :=
      Lib.hid (fun wz h => ⟨(h.cell (p := ⟨g, 0, none⟩) hbm).trans x0.1, (h.cell (p := ⟨g, 1, none⟩) hbm).trans x0.2⟩)
    have HPm : Hid (∀ wz, Below w6.heap.size w6 wz → PtsIn wz (some ⟨g, 0, none⟩) m) := Lib.hid (fun wz h => hp6m.keep h)
    obtain ⟨b, o, rfl, hb, _⟩ := HP.out.open HL.out.1
    have HPl : Hid (∀ wz, Below w6.heap.size w6 wz → PtsIn wz (some ⟨b, o, none⟩) l) := Lib.hid (fun wz h => (HP.out.keep HB6.out).keep h)
    have l3 : (l.length : Int) ≤ (c3 : Int) := by have := HM.out.2.1; omega
    have l4 : l.length ≤ c3 := by have := HM.out.2.1; omega
    clear hpa x0 hp6 hp6m hcl hbm hb6 HB5 HP5 HF l0 l1 l2
    ((try dsimp only); repeat (first | go_values | go_skip | go_guarded | go_step | go_upon))
    go_loopw [12] (fun i wr => ∃ k : Nat, i = .int .i64 (k : Int) ∧ k ≤ l.length ∧ Below w6.heap.size w6 wr) (fun i _ => l.length - (intOf i).toNat)
    case atStart => exact ⟨0, rfl, Nat.zero_le _, Below.refl _ _⟩
    case round =>
      obtain ⟨k, rfl, hk, hB⟩ := hrel
      have HK := Lib.hid hB
      clear hB
      by_cases h0 : k < l.length
      · have hki : (k : Int) < (l.length : Int) := by omega
        obtain ⟨b1, o1, e1, hb1, hpa⟩ := (HPl.out w6 (Below.refl _ _)).open h0
        cases e1
        have x0 := hpa k h0
        have HCq := Lib.hid (fun wz => lCompare24 (l.getD k (0, 0)) p wz (HU.out _ (getD_mem h0)) HUp.out)
        have hcq : ¬ cmpPt (l.getD k (0, 0)) p < 0 := by have := HHd.out _ (getD_mem h0); omega
        generalize l.getD k (0, 0) = q at *
        generalize cmpPt q p = cq at *
        have HRk : Hid (∀ wz, Below w6.heap.size w6 wz → wz.cell? ⟨b, o + k * 2, none⟩ = some (.int .u64 q.1) ∧ wz.cell? ⟨b, o + k * 2 + 1, none⟩ = some (.int .u64 q.2)) :=
          Lib.hid (fun wz h => ⟨(h.cell (p := ⟨b, o + k * 2, none⟩) hb1).trans x0.1, (h.cell (p := ⟨b, o + k * 2 + 1, none⟩) hb1).trans x0.2⟩)
        have hw1 : wrap64 ((k : Int) + 1) = ((k + 1 : Nat) : Int) := by have := HL.out.2; clear HRk HCq HR6 HPm HPl HHd HM HB6 HP HU HUp hcq HK; unfold wrap64; omega
        have W1 := Lib.hid (And.intro h0 hw1)
        clear hw1
        clear hpa x0 h0
        go_upto_region 14 with (fail)
        refine start_ (n := 9) (S := fun w' => Below wr.heap.size wr w') (ds := []) (bt 9 0) (by kernel_rfl) rfl rfl ((Below.refl _ _).drew) (fun hHeld => ?_)
        refine pv_ 0 103 ?_
        refine pv_ 1 104 ?_
        refine pv_ 2 105 ?_
        refine ld_ 3 106 ?_ hHeld ?_ ?_; rotate_left
        · rintro w' hs
          obtain ⟨c0, c1⟩ := HRk.out _ (HK.out.trans (hs.mono HK.out.size))
          obtain ⟨d0, d1⟩ := HR6.out _ (HK.out.trans (hs.mono HK.out.size))
          clear hs
          go_simp; with_reducible rfl
        refine pv_ 4 107 ?_
        refine pv_ 5 108 ?_
        refine ld_ 6 109 ?_ hHeld ?_ ?_; rotate_left
        · rintro w' hs
          obtain ⟨c0, c1⟩ := HRk.out _ (HK.out.trans (hs.mono HK.out.size))
          obtain ⟨d0, d1⟩ := HR6.out _ (HK.out.trans (hs.mono HK.out.size))
          clear hs
          go_simp; with_reducible rfl
        refine ca_ 7 110 Tryz.func46 #[.agg #[.int .u64 q.1, .int .u64 q.2], .agg #[.int .u64 p.1, .int .u64 p.2]] ?_
        with_reducible refine (HCq.out _).mono ?_
        rintro e w' ⟨rfl, hb7⟩
        refine ⟨_, rfl, (by exact hHeld.trans (hb7.mono hHeld.size)), fun hHeld => ?_⟩
        refine nn ?_
        refine pu 8 111 (.bool false) ?_ rfl rfl (by kernel_rfl) (fun _ _ _ h => h) (by rfl) (fun _ => ?_) ?_ ?_; rotate_left
        · go_simp
          first | done | omega | (simp; omega) | (rw [decide_eq_false hcq])
        · simp only [pA, pB, pC, pD, i64_w, i32_w]; rfl
        refine done_ (by kernel_rfl) ?_
        have HE := Lib.hid (HK.out.trans (hHeld.mono HK.out.size))
        clear hHeld
        ((try dsimp only); repeat (first | go_values | go_skip | go_guarded | go_step | go_upon))
        obtain ⟨hk0, hw1⟩ := W1.out
        refine ⟨⟨k + 1, by first | exact vint hw1 | exact vint rfl, hk0, HE.out⟩, ?_⟩
        first
        | show l.length - (intOf (.int .i64 (wrap64 ((k : Int) + 1)))).toNat < l.length - (intOf (.int .i64 (k : Int))).toNat
          rw [hw1]
        | skip
        clear hw1 HE HK HRk HCq HR6 HPm HPl HHd HM HB6 HP HU HUp W1
        show l.length - ((k : Int) + 1).toNat < l.length - ((k : Int)).toNat
        omega
      · obtain rfl : k = l.length := by omega
        have hki : ¬ (l.length : Int) < (l.length : Int) := by omega
        clear hk h0 HHd HR6
        have HPm0 := HPm
        have HPl0 := HPl
        obtain ⟨w7, hw7⟩ : ∃ x, x = wr := ⟨_, rfl⟩
        subst hw7
        have HB7 := Lib.hid (HB6.out.trans (HK.out.mono HB6.out.size))
        ((try dsimp only); repeat (first | go_values | go_skip | go_guarded | go_step | go_upon))
        clear hki HPm HPl
        have HPm : Hid (∀ wz, Below w7.heap.size w7 wz → PtsIn wz (some ⟨g, 0, none⟩) m) := Lib.hid (fun wz h => HPm0.out _ (HK.out.trans (h.mono HK.out.size)))
        have HPl : Hid (∀ wz, Below w7.heap.size w7 wz → PtsIn wz (some ⟨b, o, none⟩) l) := Lib.hid (fun wz h => HPl0.out _ (HK.out.trans (h.mono HK.out.size)))
        clear HPm0 HPl0 HK
        go_loopw [13] (fun i wr => ∃ k : Nat, i = .int .i64 (k : Int) ∧ k ≤ l.length ∧ (∀ j, j < k → ∀ back, bgnL l j back ≠ m) ∧ Below w7.heap.size w7 wr) (fun i _ => l.length - (intOf i).toNat)
        case atStart => exact ⟨0, rfl, Nat.zero_le _, fun j hj => absurd hj (Nat.not_lt_zero j), Below.refl _ _⟩
        case round =>
          obtain ⟨k, rfl, hk, hno, hB⟩ := hrel
          have HK := Lib.hid hB
          have HNo := Lib.hid hno
          clear hB hno
          by_cases h0 : k < l.length
          · have hki : (k : Int) < (l.length : Int) := by omega
            have HBg := Lib.hid (fun back => cBegun (some ⟨b, o, none⟩) c l k back h0 HL.out.2)
            have HEq := Lib.hid (fun A1 c1 back => cEq A1 (some ⟨g, 0, none⟩) c1 c3 l.length (bgnL l k back) m (bgn_len l k back) HM.out.1 (by have := HL.out.2; omega) (fun q hq => HU.out q (bgn_mem hq)) HM.out.2.2.2)
            have hw1 : wrap64 ((k : Int) + 1) = ((k + 1 : Nat) : Int) := by have := HL.out.2; clear HBg HEq HPm HPl HM HB6 HB7 HP HU HUp HK HNo; unfold wrap64; omega
            have W1 := Lib.hid (And.intro h0 hw1)
            clear hw1 h0
            have HTrue : Hid (Below w.heap.size w wr) := Lib.hid (HB7.out.trans (HK.out.mono HB7.out.size))
            go_upto_region 19 with (fail)
            by_cases e1 : bgnL l k false = m
            · have EE1 : decide (bgnL l k false = m) = true := decide_eq_true e1
              have HE1 := Lib.hid e1
              clear e1
              refine start_ (n := 18) (S := fun w' => Below wr.heap.size wr w') (ds := []) (bt 18 0) (by kernel_rfl) rfl rfl ((Below.refl _ _).drew) (fun hHeld => ?_)
              refine pv_ 0 118 ?_
              refine pv_ 1 119 ?_
              refine pv_ 3 121 ?_
              refine pv_ 4 122 ?_
              refine pv_ 5 123 ?_
              refine pv_ 6 124 ?_
              refine ca_ 2 120 Tryz.func43 #[.slice (some ⟨b, o, none⟩) l.length c, .int .i64 (k : Int), .bool false] ?_
              with_reducible refine (HBg.out false _ (HPl.out _ (HK.out.trans (hHeld.mono HK.out.size)))).mono ?_
              rintro e w' ⟨A2, c2, rfl, hq2, hb2⟩
              refine ⟨_, rfl, (by first | (exact hHeld.trans (hb16.mono hHeld.size)) | (exact hHeld.trans (hb11.mono hHeld.size)) | (exact hHeld.trans (hb7.mono hHeld.size)) | (exact hHeld.trans (hb2.mono hHeld.size))), fun hHeld => ?_⟩
              refine nn ?_
              refine ca_ 7 125 Tryz.func24 #[.slice A2 l.length c2, .slice (some ⟨g, 0, none⟩) l.length c3] ?_
              with_reducible refine (HEq.out A2 c2 false _ hq2 (HPm.out _ (HK.out.trans (hHeld.mono HK.out.size)))).mono ?_
              rintro e w' ⟨rfl, hb7⟩
              refine ⟨_, rfl, (by first | (exact hHeld.trans (hb16.mono hHeld.size)) | (exact hHeld.trans (hb11.mono hHeld.size)) | (exact hHeld.trans (hb7.mono hHeld.size)) | (exact hHeld.trans (hb2.mono hHeld.size))), fun hHeld => ?_⟩
              refine nn ?_
              refine pv_ 8 126 ?_
              refine of 9 127 ?_ rfl rfl (by kernel_rfl) (fun _ _ _ h => h) (by first | rfl | (simp [Region.wanted, yielded]; done) | (go_simp; done)) ?_ ?_; rotate_left
              · simp only [pA, pB, pC, pD, i64_w, i32_w]; rfl
              refine of 10 128 ?_ rfl rfl (by kernel_rfl) (fun _ _ _ h => h) (by first | rfl | (simp [Region.wanted, yielded]; done) | (go_simp; done)) ?_ ?_; rotate_left
              · simp only [pA, pB, pC, pD, i64_w, i32_w]; rfl
              refine of 11 129 ?_ rfl rfl (by kernel_rfl) (fun _ _ _ h => h) (by first | rfl | (simp [Region.wanted, yielded]; done) | (go_simp; done)) ?_ ?_; rotate_left
              · simp only [pA, pB, pC, pD, i64_w, i32_w]; rfl
              refine of 12 130 ?_ rfl rfl (by kernel_rfl) (fun _ _ _ h => h) (by first | rfl | (simp [Region.wanted, yielded]; done) | (go_simp; done)) ?_ ?_; rotate_left
              · simp only [pA, pB, pC, pD, i64_w, i32_w]; rfl
              refine of 13 131 ?_ rfl rfl (by kernel_rfl) (fun _ _ _ h => h) (by first | rfl | (simp [Region.wanted, yielded]; done) | (go_simp; done)) ?_ ?_; rotate_left
              · simp only [pA, pB, pC, pD, i64_w, i32_w]; rfl
              refine of 14 132 ?_ rfl rfl (by kernel_rfl) (fun _ _ _ h => h) (by first | rfl | (simp [Region.wanted, yielded]; done) | (go_simp; done)) ?_ ?_; rotate_left
              · simp only [pA, pB, pC, pD, i64_w, i32_w]; rfl
              refine of 15 133 ?_ rfl rfl (by kernel_rfl) (fun _ _ _ h => h) (by first | rfl | (simp [Region.wanted, yielded]; done) | (go_simp; done)) ?_ ?_; rotate_left
              · simp only [pA, pB, pC, pD, i64_w, i32_w]; rfl
              refine of 16 134 ?_ rfl rfl (by kernel_rfl) (fun _ _ _ h => h) (by first | rfl | (simp [Region.wanted, yielded]; done) | (go_simp; done)) ?_ ?_; rotate_left
              · simp only [pA, pB, pC, pD, i64_w, i32_w]; rfl
              refine pv_ 17 135 ?_
              refine done_ (by kernel_rfl) ?_
              have HE := Lib.hid (HTrue.out.trans (hHeld.mono HTrue.out.size))
              clear hHeld
              ((try dsimp only); repeat (first | go_values | go_skip | go_guarded | go_step | go_upon))
              go_ret
              exact ⟨rfl, HE.out⟩
            · have EE1 : decide (bgnL l k false = m) = false := decide_eq_false e1
              have HE1 := Lib.hid e1
              clear e1
              by_cases e2 : bgnL l k true = m
              · have EE2 : decide (bgnL l k true = m) = true := decide_eq_true e2
                have HE2 := Lib.hid e2
                clear e2
                refine start_ (n := 18) (S := fun w' => Below wr.heap.size wr w') (ds := []) (bt 18 0) (by kernel_rfl) rfl rfl ((Below.refl _ _).drew) (fun hHeld => ?_)
                refine pv_ 0 118 ?_
                refine pv_ 1 119 ?_
                refine pv_ 3 121 ?_
                refine pv_ 4 122 ?_
                refine pv_ 5 123 ?_
                refine pv_ 6 124 ?_
                refine ca_ 2 120 Tryz.func43 #[.slice (some ⟨b, o, none⟩) l.length c, .int .i64 (k : Int), .bool false] ?_
                with_reducible refine (HBg.out false _ (HPl.out _ (HK.out.trans (hHeld.mono HK.out.size)))).mono ?_
                rintro e w' ⟨A2, c2, rfl, hq2, hb2⟩
                refine ⟨_, rfl, (by first | (exact hHeld.trans (hb16.mono hHeld.size)) | (exact hHeld.trans (hb11.mono hHeld.size)) | (exact hHeld.trans (hb7.mono hHeld.size)) | (exact hHeld.trans (hb2.mono hHeld.size))), fun hHeld => ?_⟩
                refine nn ?_
                refine ca_ 7 125 Tryz.func24 #[.slice A2 l.length c2, .slice (some ⟨g, 0, none⟩) l.length c3] ?_
                with_reducible refine (HEq.out A2 c2 false _ hq2 (HPm.out _ (HK.out.trans (hHeld.mono HK.out.size)))).mono ?_
                rintro e w' ⟨rfl, hb7⟩
                refine ⟨_, rfl, (by first | (exact hHeld.trans (hb16.mono hHeld.size)) | (exact hHeld.trans (hb11.mono hHeld.size)) | (exact hHeld.trans (hb7.mono hHeld.size)) | (exact hHeld.trans (hb2.mono hHeld.size))), fun hHeld => ?_⟩
                refine nn ?_
                refine pv_ 8 126 ?_
                refine pv_ 9 127 ?_
                refine pv_ 10 128 ?_
                refine pv_ 12 130 ?_
                refine pv_ 13 131 ?_
                refine pv_ 14 132 ?_
                refine pv_ 15 133 ?_
                refine ca_ 11 129 Tryz.func43 #[.slice (some ⟨b, o, none⟩) l.length c, .int .i64 (k : Int), .bool true] ?_
                with_reducible refine (HBg.out true _ (HPl.out _ (HK.out.trans (hHeld.mono HK.out.size)))).mono ?_
                rintro e w' ⟨A3, c4, rfl, hq3, hb11⟩
                refine ⟨_, rfl, (by first | (exact hHeld.trans (hb16.mono hHeld.size)) | (exact hHeld.trans (hb11.mono hHeld.size)) | (exact hHeld.trans (hb7.mono hHeld.size)) | (exact hHeld.trans (hb2.mono hHeld.size))), fun hHeld => ?_⟩
                refine nn ?_
                refine ca_ 16 134 Tryz.func24 #[.slice A3 l.length c4, .slice (some ⟨g, 0, none⟩) l.length c3] ?_
                with_reducible refine (HEq.out A3 c4 true _ hq3 (HPm.out _ (HK.out.trans (hHeld.mono HK.out.size)))).mono ?_
                rintro e w' ⟨rfl, hb16⟩
                refine ⟨_, rfl, (by first | (exact hHeld.trans (hb16.mono hHeld.size)) | (exact hHeld.trans (hb11.mono hHeld.size)) | (exact hHeld.trans (hb7.mono hHeld.size)) | (exact hHeld.trans (hb2.mono hHeld.size))), fun hHeld => ?_⟩
                refine nn ?_
                refine pv_ 17 135 ?_
                refine done_ (by kernel_rfl) ?_
                have HE := Lib.hid (HTrue.out.trans (hHeld.mono HTrue.out.size))
                clear hHeld
                ((try dsimp only); repeat (first | go_values | go_skip | go_guarded | go_step | go_upon))
                go_ret
                exact ⟨rfl, HE.out⟩
              · have EE2 : decide (bgnL l k true = m) = false := decide_eq_false e2
                have HE2 := Lib.hid e2
                clear e2
                refine start_ (n := 18) (S := fun w' => Below wr.heap.size wr w') (ds := []) (bt 18 0) (by kernel_rfl) rfl rfl ((Below.refl _ _).drew) (fun hHeld => ?_)
                refine pv_ 0 118 ?_
                refine pv_ 1 119 ?_
                refine pv_ 3 121 ?_
                refine pv_ 4 122 ?_
                refine pv_ 5 123 ?_
                refine pv_ 6 124 ?_
                refine ca_ 2 120 Tryz.func43 #[.slice (some ⟨b, o, none⟩) l.length c, .int .i64 (k : Int), .bool false] ?_
                with_reducible refine (HBg.out false _ (HPl.out _ (HK.out.trans (hHeld.mono HK.out.size)))).mono ?_
                rintro e w' ⟨A2, c2, rfl, hq2, hb2⟩
                refine ⟨_, rfl, (by first | (exact hHeld.trans (hb16.mono hHeld.size)) | (exact hHeld.trans (hb11.mono hHeld.size)) | (exact hHeld.trans (hb7.mono hHeld.size)) | (exact hHeld.trans (hb2.mono hHeld.size))), fun hHeld => ?_⟩
                refine nn ?_
                refine ca_ 7 125 Tryz.func24 #[.slice A2 l.length c2, .slice (some ⟨g, 0, none⟩) l.length c3] ?_
                with_reducible refine (HEq.out A2 c2 false _ hq2 (HPm.out _ (HK.out.trans (hHeld.mono HK.out.size)))).mono ?_
                rintro e w' ⟨rfl, hb7⟩
                refine ⟨_, rfl, (by first | (exact hHeld.trans (hb16.mono hHeld.size)) | (exact hHeld.trans (hb11.mono hHeld.size)) | (exact hHeld.trans (hb7.mono hHeld.size)) | (exact hHeld.trans (hb2.mono hHeld.size))), fun hHeld => ?_⟩
                refine nn ?_
                refine pv_ 8 126 ?_
                refine pv_ 9 127 ?_
                refine pv_ 10 128 ?_
                refine pv_ 12 130 ?_
                refine pv_ 13 131 ?_
                refine pv_ 14 132 ?_
                refine pv_ 15 133 ?_
                refine ca_ 11 129 Tryz.func43 #[.slice (some ⟨b, o, none⟩) l.length c, .int .i64 (k : Int), .bool true] ?_
                with_reducible refine (HBg.out true _ (HPl.out _ (HK.out.trans (hHeld.mono HK.out.size)))).mono ?_
                rintro e w' ⟨A3, c4, rfl, hq3, hb11⟩
                refine ⟨_, rfl, (by first | (exact hHeld.trans (hb16.mono hHeld.size)) | (exact hHeld.trans (hb11.mono hHeld.size)) | (exact hHeld.trans (hb7.mono hHeld.size)) | (exact hHeld.trans (hb2.mono hHeld.size))), fun hHeld => ?_⟩
                refine nn ?_
                refine ca_ 16 134 Tryz.func24 #[.slice A3 l.length c4, .slice (some ⟨g, 0, none⟩) l.length c3] ?_
                with_reducible refine (HEq.out A3 c4 true _ hq3 (HPm.out _ (HK.out.trans (hHeld.mono HK.out.size)))).mono ?_
                rintro e w' ⟨rfl, hb16⟩
                refine ⟨_, rfl, (by first | (exact hHeld.trans (hb16.mono hHeld.size)) | (exact hHeld.trans (hb11.mono hHeld.size)) | (exact hHeld.trans (hb7.mono hHeld.size)) | (exact hHeld.trans (hb2.mono hHeld.size))), fun hHeld => ?_⟩
                refine nn ?_
                refine pv_ 17 135 ?_
                refine done_ (by kernel_rfl) ?_
                have HE := Lib.hid (HK.out.trans (hHeld.mono HK.out.size))
                clear hHeld
                ((try dsimp only); repeat (first | go_values | go_skip | go_guarded | go_step | go_upon))
                obtain ⟨hk0, hw1⟩ := W1.out
                refine ⟨⟨k + 1, by first | exact vint hw1 | exact vint rfl, hk0, ?_, HE.out⟩, ?_⟩
                · intro j hj back
                  by_cases hjk : j = k
                  · subst hjk
                    cases back
                    · exact HE1.out
                    · exact HE2.out
                  · exact HNo.out j (by omega) back
                first
                | show l.length - (intOf (.int .i64 (wrap64 ((k : Int) + 1)))).toNat < l.length - (intOf (.int .i64 (k : Int))).toNat
                  rw [hw1]
                | skip
                clear hw1 HE HK HPm HPl HM HB6 HB7 HP HU HUp W1 HNo HE1 HE2 HBg HEq
                show l.length - ((k : Int) + 1).toNat < l.length - ((k : Int)).toNat
                omega
          · obtain rfl : k = l.length := by omega
            exfalso
            obtain ⟨j, back, hj, e⟩ := start_bgn HM.out.2.2.1.1
            exact HNo.out j hj back e
end Go.Proofs.YtfpofmifmapmfaaGreatDoor

namespace Go.Proofs.YtfpofmifmapmfaaGreatDoor
open Go.RowKit Go.Proofs.YtfpofmifmapmfaaGreatDoorW.PrintLast
set_option linter.unusedVariables false
theorem lBegins (A : Option Addr) (c : Nat) (l : List Pt) (left : Bool) (w : World) (hp : PtsIn w A l) (hl : l.length ≤ 8796093022208) (hu : ∀ q ∈ l, PtU q) :
    Calls Tryz.prog 11 #[.slice A l.length c, .bool left] w fun e w' => e = .returned (.bool true) ∧ Below w.heap.size w w' := by
  by_cases h : l.length = 0 ∨ 511 < l.length
  · exact lBeginsNo A c l left w (by omega) h
  · by_cases hf : finB l = true
    · exact lBeginsYes A c l left w hp (by omega) (by omega) hu hf
    · exact lBeginsBad A c l left w hp (by omega) (by omega) hu (by simpa using hf)
end Go.Proofs.YtfpofmifmapmfaaGreatDoor

namespace Go.Proofs.YtfpofmifmapmfaaGreatDoor
open Go Go.ChangeShapes Go.WideShapes Go.ChangeAt Go.RowKit
set_option linter.unusedVariables false
set_option linter.unusedSimpArgs false
set_option maxRecDepth 100000
theorem row_own : ownKnob Tryz.prog.godebug = none := by kernel_rfl
theorem row_laidOut : laidOutB Tryz.prog = true := by kernel_rfl
theorem door_met (os : Os) (args : Array Value) : laidMetH Tryz.prog [("plumb/near.stays", Rows.laid_plumb_near_stays)] ((World.doorLaid Tryz.prog 400 os).forCall (fun _ _ => 0) ⟨#[], args, []⟩).memory :=
  laidMetH_of_parts3 (fuel := 8) (laidMet_of_run' 8 (by kernel_rfl) (by kernel_rfl)) (by kernel_rfl) (by kernel_rfl)
section
variable {H : Type} {enc : TypeId × Value → H} {w : World} {base : Nat} {spare : Nat → Bool} {held : Bool} {fuel : Nat}
theorem open_word {cs : List Value} {x : DataW H × List MemPlace} (h : DataW.trod enc Tryz.prog w base spare held fuel 36 cs = some x) : ∃ n, cs = [.int .u64 n] ∧ U64 n := by
  obtain ⟨n, h1, h2, h3⟩ := DataW.trod_int Tryz.underlying36 h
  refine ⟨n, h1, ?_⟩
  unfold Lit.wf at h3
  simp only [Bool.and_eq_true, decide_eq_true_eq] at h3
  exact h3
theorem open_point {cs : List Value} {x : DataW H × List MemPlace} (h : DataW.trod enc Tryz.prog w base spare held fuel 38 cs = some x) : ∃ p : Pt, cs = [.int .u64 p.1, .int .u64 p.2] ∧ PtU p := by
  obtain ⟨xs, n, _, _, hl, hx, hf⟩ := DataW.trod_struct Tryz.underlying38 h
  have c1 : Tryz.prog.cellsOf 38 = 2 := by kernel_rfl
  have c2 : Tryz.prog.cellsOf 36 = 1 := by kernel_rfl
  rw [c1] at hl
  match cs, hl with
  | [u, v], _ =>
    match xs, hx with
    | [y0, y1], _ =>
      have h0 : DataW.trod enc Tryz.prog w base spare held n 36 (List.take (Tryz.prog.cellsOf 36) (List.drop 0 [u, v])) = some y0 := hf 0 _ rfl
      have h1 : DataW.trod enc Tryz.prog w base spare held n 36 (List.take (Tryz.prog.cellsOf 36) (List.drop 1 [u, v])) = some y1 := hf 1 _ rfl
      rw [c2] at h0 h1
      obtain ⟨a, ha, ua⟩ := open_word (show DataW.trod enc Tryz.prog w base spare held n 36 [u] = some y0 from h0)
      obtain ⟨b, hb, ub⟩ := open_word (show DataW.trod enc Tryz.prog w base spare held n 36 [v] = some y1 from h1)
      cases ha
      cases hb
      exact ⟨(a, b), rfl, ua, ub⟩
theorem open_int {cs : List Value} {x : DataW H × List MemPlace} (h : DataW.trod enc Tryz.prog w base spare held fuel 3 cs = some x) : ∃ n : Int, cs = [.int .i64 n] ∧ -9223372036854775808 ≤ n ∧ n ≤ 9223372036854775807 := by
  obtain ⟨n, h1, h2, h3⟩ := DataW.trod_int Tryz.underlying3 h
  refine ⟨n, h1, ?_⟩
  unfold Lit.wf at h3
  simp only [Bool.and_eq_true, decide_eq_true_eq] at h3
  exact h3
theorem open_ptv {r : Reach} {b0 : Nat} {v : Value} {d : DataW H} {p : List MemPlace} (hv : Value.okWide Tryz.prog w r b0 38 v) (h : DataW.Trod enc Tryz.prog w base spare held 38 v d p) :
    ∃ a : Pt, v = .agg #[.int .u64 a.1, .int .u64 a.2] ∧ PtU a := by
  obtain ⟨cs, rfl, hsz⟩ := okWide_struct Tryz.underlying38 hv
  obtain ⟨l⟩ := cs
  have c1 : Tryz.prog.cellsOf 38 = 2 := by kernel_rfl
  obtain ⟨fuel, hf⟩ := h
  rw [c1] at hsz
  match l, hsz with
  | [v0, v1], _ =>
    obtain ⟨a, ha, ua⟩ := open_point (show DataW.trod enc Tryz.prog w base spare held fuel 38 [v0, v1] = some (d, p) from hf)
    cases ha
    exact ⟨a, rfl, ua⟩
theorem open_pts {r : Reach} {b0 : Nat} {v : Value} {d : DataW H} {p : List MemPlace} (hv : Value.okWide Tryz.prog w r b0 22 v) (h : DataW.Trod enc Tryz.prog w base spare held 22 v d p) :
    ∃ (A : Option Addr) (c : Nat) (qs : List Pt), v = .slice A qs.length c ∧ PtsIn w A qs ∧ qs.length ≤ 9223372036854775807 ∧ (∀ p ∈ qs, PtU p) ∧ (qs.length = 0 ∨ ∃ es sp, d = .slice es sp ∧ es.length = qs.length) := by
  obtain ⟨A, len, cap, rfl⟩ := okWide_slice Tryz.underlying22 hv
  have c2 : Tryz.prog.cellsOf 38 = 2 := by kernel_rfl
  obtain ⟨fuel, hf⟩ := h
  rcases Deep.open_slice Tryz.underlying22 (show DataW.trod enc Tryz.prog w base spare held fuel 22 [.slice A len cap] = some (d, p) from hf) with ⟨e, _⟩ | ⟨a, len', cap', m, n, D, Pl, e, hb, hl, hm, hmm, hxe, hx⟩
  · cases e
    exact ⟨none, 0, [], rfl, Or.inl rfl, by decide, (fun p hp => by cases hp), Or.inl rfl⟩
  · cases e
    have hlm : len ≤ m := by rw [hmm]; split <;> omega
    have hpt : ∀ i, i < len → ∃ q : Pt, w.cells? base (a.add (i * 2)) 2 = some [.int .u64 q.1, .int .u64 q.2] ∧ PtU q := by
      intro i hi
      obtain ⟨cs', h1, h2⟩ := hx i (by omega)
      rw [c2] at h1
      obtain ⟨q, rfl, hq⟩ := open_point h2
      exact ⟨q, h1, hq⟩
    obtain ⟨f, hf⟩ := Deep.choose_lt hpt
    have hlen : ((List.range len).map f).length = len := by simp
    have hget : ∀ i, i < len → ((List.range len).map f).getD i (0, 0) = f i := by
      intro i hi
      rw [List.getD_eq_getElem?_getD]
      simp [hi]
    refine ⟨some a, cap, (List.range len).map f, by rw [hlen], ?_, ?_, ?_, Or.inr ⟨_, _, (Prod.mk.inj hxe).1, by simp⟩⟩
    · by_cases h0 : len = 0
      · left; exact List.eq_nil_of_length_eq_zero (by rw [hlen, h0])
      · right
        have h1 := (World.cells?_some (hf 0 (by omega)).1).2.2 0 (by decide)
        have ha : a.add (0 * 2) = a := by simp [Addr.add]
        rw [ha] at h1
        have ha0 : a.add 0 = a := by simp [Addr.add]
        rw [ha0] at h1
        obtain ⟨b, o, s⟩ := a
        cases s with
        | some s =>
          exfalso
          simp only [World.cell?] at h1
          split at h1
          · simp at h1
          · cases h1
        | none =>
          refine ⟨b, o, rfl, ?_, fun i hi => ?_⟩
          · have hh : w.cell? ⟨b, o, none⟩ ≠ none := by rw [h1]; simp
            refine Nat.lt_of_not_le fun hge => hh ?_
            simp only [World.cell?]
            rw [Array.getElem?_eq_none hge]
          · rw [hlen] at hi
            have k := (World.cells?_some (hf i hi).1).2.2
            have k0 := k 0 (by decide)
            have k1 := k 1 (by decide)
            rw [Deep.add_add] at k0 k1
            have e : ∀ j, (⟨b, o, none⟩ : Addr).add j = ⟨b, o + j, none⟩ := by
              intro j
              unfold Addr.add
              split
              · rename_i h; simp [h]
              · rfl
            rw [e] at k0 k1
            rw [hget i hi]
            exact ⟨k0, by rw [Nat.add_assoc]; exact k1⟩
    · rw [hlen]
      unfold maxLen at hm
      omega
    · intro q hq
      obtain ⟨i, hi, rfl⟩ := List.mem_map.1 hq
      exact (hf i (List.mem_range.1 hi)).2
theorem open_boolv {w : World} {r : Reach} {b0 : Nat} {v : Value} (hv : Value.okWide Tryz.prog w r b0 4 v) : ∃ y : Bool, v = .bool y := by
  have ht := Tryz.underlying4
  simp only [Value.okWide, ht] at hv
  cases v <;> simp [Cell.okWide, Cell.ok, ht] at hv ⊢
theorem pts_len {ts : List TypeId} {ds : List (DataW H)} (h : (DataW.weightsEach Tryz.prog ts ds).all (· ≤ reachBytes) = true) {j : Nat} {d : DataW H} {qs : List Pt} (ht : ts[j]? = some 22) (hd : ds[j]? = some d)
    (hs : qs.length = 0 ∨ ∃ es sp, d = .slice es sp ∧ es.length = qs.length) : qs.length ≤ 8796093022208 := by
  rcases hs with e | ⟨es, sp, rfl, e⟩
  · omega
  · have := sized_slice h ht hd Tryz.underlying22
    have hb : Tryz.prog.bytesOf 38 = 16 := by kernel_rfl
    rw [hb] at this
    simp only [reachBytes] at this
    omega
end
theorem post_true {H : Type} {enc : TypeId × Value → H} {f : Func} {s : ChangeSpec} {apart fresh handsOn : Bool} {W W' : World} {args : Array Value} {ds : List (DataW H)} {before : List MemPlace}
    (hv : s.vars = []) (hs : s.fn H ds = { results := [.lit (.bool true)], args := ds }) (hr : f.resultTypes = #[4])
    (hW : DataW.Whole enc Tryz.prog f.params.toList s.vars apart W args.toList ds [] before) (hb : Below W.heap.size W W')
    (hst : ∀ sp : Nat → Bool, (∀ p ∈ before, sp p.block = true) → DataW.TrodAll enc Tryz.prog W' 0 sp true f.params.toList args.toList ds before) :
    s.post enc Tryz.prog f apart fresh handsOn false W args (.bool true) W' := by
  have below : ∀ p ∈ before, p.block < W.heap.size := fun p hp => hW.lt p hp
  have kept := hb.frame (· ∈ before)
  have fn0 : s.fn H (ds ++ []) = { results := [.lit (.bool true)], args := ds } := by rw [List.append_nil]; exact hs
  have res : ∀ (b : Nat) (sp : Nat → Bool) (hd : Bool), DataW.TrodAll enc Tryz.prog W' b sp hd f.resultTypes.toList ((Value.bool true).resultList f.resultTypes.size) (s.fn H (ds ++ [])).results [] := by
    intro b sp hd
    rw [fn0, hr]
    exact trodAll_mk1 (shut_bool Tryz.underlying4 _)
  have arg : ∀ sp : Nat → Bool, (∀ p ∈ before, sp p.block = true) → DataW.TrodAll enc Tryz.prog W' 0 sp true f.params.toList args.toList (s.fn H (ds ++ [])).args before := by
    intro sp h
    rw [fn0]
    exact hst sp h
  have vars : ∀ sp : Nat → Bool, DataW.TrodVars enc Tryz.prog W' sp s.vars (s.fn H (ds ++ [])).vars [] := by
    intro sp
    rw [fn0, hv]
    trivial
  refine ⟨ds, [], before, [], before, [], hW, res _ _ _, arg _ (fun p hp => by simpa using below p hp), vars _, World.keptBut_mono (fun p hp => ⟨hp, Or.inr (Or.inl hp)⟩) kept, fun h => by cases h⟩
end Go.Proofs.YtfpofmifmapmfaaGreatDoor

namespace Go.Proofs.YtfpofmifmapmfaaGreatDoor
open Go Go.ChangeShapes Go.WideShapes Go.ChangeAt Go.RowKit
set_option linter.unusedVariables false
set_option linter.unusedSimpArgs false
set_option maxRecDepth 100000 in
theorem ringBegins_lifted (os : Os) (started : os.Started) (H : Type) (enc : TypeId × Value → H) :
    ReturnsInHanded {} Tryz.checked os 11 .any (fun w args => (Rows.ringBeginsSpec.pre enc Tryz.prog Tryz.f11 [] false w args ∧ laidMetH Tryz.prog [("plumb/near.stays", Rows.laid_plumb_near_stays)] w) ∧ sizedMet enc Tryz.prog Tryz.f11 (OpenSpec.ofChange Rows.ringBeginsSpec) false w args)
      (Rows.ringBeginsSpec.post enc Tryz.prog Tryz.f11 false true false false) := by
  refine returnsInHanded_of_change_and (C := Tryz.checked) (X := fun w _ => laidMetH Tryz.prog [("plumb/near.stays", Rows.laid_plumb_near_stays)] w) (fun _ _ _ hh h => h.of_heap hh) row_own started (by kernel_rfl) Tryz.func11
    (ChangeSpec.witness_shaped (enc := enc) (C := Tryz.checked) (os := os) (X := fun w _ => laidMetH Tryz.prog [("plumb/near.stays", Rows.laid_plumb_near_stays)] w) false (World.doorLaid Tryz.prog 400 os) #[.slice none 0 0, .bool false] 8 rfl (World.shaped_of_RefB (by kernel_rfl) (by kernel_rfl)) (by kernel_rfl) (by kernel_rfl) (by kernel_rfl) (door_met os _)) ?_
  intro W base args ds gs before hval0 hW _ hsz0 _ _
  have hsz : (DataW.weightsEach Tryz.prog (Tryz.f11.params.toList ++ Rows.ringBeginsSpec.plain.varTypes Tryz.prog) (ds ++ gs)).all (· ≤ reachBytes) = true := hsz0
  have hval : ∀ (j : Nat) t v, Tryz.f11.params[j]? = some t → args[j]? = some v → Value.okWide Tryz.prog W .any base t v := hval0
  have hW' := hW
  obtain ⟨p, q, hA0, hV, rfl, hfz, hnd⟩ := hW
  have hA : DataW.TrodAll enc Tryz.prog W 0 (fun _ => true) true Tryz.f11.params.toList args.toList ds p := hA0
  rw [Tryz.params11] at hA hval hsz
  obtain ⟨v0, v1, d0, d1, p0, p1, hargs, hds, hps, h0, h1⟩ := trodAll_two hA
  obtain ⟨rfl, rfl⟩ := trodVars_none hV
  subst hargs hds hps
  obtain ⟨A0, c0, q0, rfl, hp0, _, hu0, hs0⟩ := open_pts (hval 0 22 v0 rfl rfl) h0
  have hl0 := pts_len hsz (j := 0) rfl rfl hs0
  obtain ⟨y1, rfl⟩ := open_boolv (hval 1 4 v1 rfl rfl)
  simp only [List.append_nil] at hW'
  refine (lBegins A0 c0 q0 y1 W hp0 hl0 hu0).mono fun x W' ⟨hx, hb⟩ => ?_
  subst hx
  refine ⟨_, rfl, post_true rfl rfl rfl hW' hb (fun sp hsp => ?_)⟩
  rw [Tryz.params11]
  have hlt : ∀ x ∈ p0 ++ p1, x.block < W.heap.size := fun x hx => hW'.lt x hx
  exact trodAll_mk2
    (WideElems.Trod_stays row_laidOut (by kernel_rfl) (of_decide_eq_true (by kernel_rfl)) h0 (fun x hx => hb.same (hlt x (List.mem_append_left _ hx))) (fun x hx => hsp x (List.mem_append_left _ hx)))
    (WideElems.Trod_stays row_laidOut (by kernel_rfl) (of_decide_eq_true (by kernel_rfl)) h1 (fun x hx => hb.same (hlt x (List.mem_append_right _ hx))) (fun x hx => hsp x (List.mem_append_right _ hx)))
theorem ringBegins_said : Rows.RingBeginsSaid :=
  OpenClaim.holds_of_wide 11 Tryz.f11 rfl rfl rfl rfl rfl rfl rfl ⟨rfl, rfl, rfl, rfl, rfl⟩ rfl rfl rfl rfl rfl (by kernel_rfl) Tryz.func11 (by kernel_rfl)
    (of_decide_eq_true (by kernel_rfl)) (by unfold Func.isWrapper; first | (rw [if_pos (by decide +kernel)]; kernel_rfl) | (rw [if_neg (by decide +kernel)]; exact ⟨rfl, rfl⟩))
    (fun os started H enc _ => ringBegins_lifted os started H enc)
theorem ringBegins_holds : Rows.RingBeginsCardSaid :=
  Claim7.holds_tied_plain_at .later [] [.data] true (true, "f777712a3cb00256777b380c3964cedb2e32d925b7296fdfab4ba2994e78b29d") true
    ringBegins_said (fun _ h => by cases h) (by kernel_rfl) (fun _ h => by cases h) ringBegins_row_tie rfl ⟨rfl, rfl⟩ (by kernel_rfl) rfl
    (fun f fn hf hfn => by
      obtain rfl : f = 11 := Option.some.inj ((show Tryz.prog.funcNamed "plumb/plumblaw24.RingBegins" = some 11 by kernel_rfl).symm.trans hf) |>.symm
      obtain rfl : fn = Tryz.f11 := (Option.some.inj (Tryz.func11.symm.trans hfn)).symm
      exact ⟨by kernel_rfl, fun j t ht => by
        rw [Tryz.params11] at ht
        have hm : t ∈ [22, 4] := by simpa using Array.mem_of_getElem? ht
        have hall : ([22, 4].all fun u => !Tryz.prog.wantsStandIn u) = true := by kernel_rfl
        exact (show Tryz.prog.wantsStandIn t = false by simpa using List.all_eq_true.1 hall t hm)⟩)
    (by kernel_rfl)
end Go.Proofs.YtfpofmifmapmfaaGreatDoor
