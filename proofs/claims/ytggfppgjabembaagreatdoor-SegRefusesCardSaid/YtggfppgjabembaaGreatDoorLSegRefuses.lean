/- The law SegRefuses of package plumblaw23 answers true at every four points and every spoilt one, and changes nothing that it was handed: the tied card, for every input, no condition. -/
import Derived.Test.YtggfppgjabembaaGreatDoorKP
import Derived.Test.YtggfppgjabembaaGreatDoorKI
import Derived.Test.YtggfppgjabembaaGreatDoorCards
import Derived.Test.YtggfppgjabembaaGreatDoorTie
import Derived.SevenTiedAt
namespace Go.Proofs.YtggfppgjabembaaGreatDoor
open Go.RowKit Go.Proofs.YtggfppgjabembaaGreatDoorW.PrintLast
set_option linter.unusedVariables false
set_option linter.unusedSimpArgs false
theorem or_exp (a : Nat) (h : a < 2 ^ 64) : (a ||| 2047 * 2 ^ 52) < 2 ^ 64 ∧ (a ||| 2047 * 2 ^ 52) / 2 ^ 52 % 2 ^ 11 = 2047 := by
  refine ⟨Nat.or_lt_two_pow h (by decide), ?_⟩
  have e : (a ||| 2047 * 2 ^ 52) / 2 ^ 52 = a / 2 ^ 52 ||| 2047 := by
    rw [← Nat.shiftRight_eq_div_pow, ← Nat.shiftRight_eq_div_pow, Nat.shiftRight_or_distrib]
    rfl
  rw [e]
  apply Nat.eq_of_testBit_eq
  intro i
  rw [Nat.testBit_mod_two_pow, Nat.testBit_or, show (2047 : Nat) = 2 ^ 11 - 1 from rfl, Nat.testBit_two_pow_sub_one]
  by_cases hi : i < 11 <;> simp [hi]
def oddB (b : Int) : Int := bits .or .u64 b 9218868437227405312
theorem oddB_is {b : Int} (h : U64 b) : U64 (oddB b) ∧ ¬ Fin64 (oddB b) := by
  obtain ⟨a, rfl⟩ := Int.eq_ofNat_of_zero_le h.1
  have h2 := h.2
  have e : oddB (a : Int) = ((a ||| 2047 * 2 ^ 52 : Nat) : Int) := by
    unfold oddB
    rw [show (9218868437227405312 : Int) = ((9218868437227405312 : Nat) : Int) from rfl, bits_or_u64_nat a 9218868437227405312 (by omega) (by decide)]
  obtain ⟨k1, k2⟩ := or_exp a (by omega)
  generalize (a ||| 2047 * 2 ^ 52) = x at *
  rw [e]
  refine ⟨⟨by omega, by omega⟩, fun hf => ?_⟩
  have := hf.2.2
  unfold fe at this
  omega
theorem info_pt : (Tryz.prog.info? 24).map (fun i => (i.zero, i.size, i.bytes)) = some (some (.agg #[.int .u64 0, .int .u64 0]), 2, 16) := by kernel_rfl
theorem run_make_pts (n : Nat) (h : n ≤ 1000000) (w : World) : (Instr.makeSlice 37 (.int .i64 (n : Int)) (.int .i64 (n : Int))).run Tryz.prog w = .ok (.slice (some ⟨w.heap.size, 0, none⟩) n n) (w.alloc (.cells (madeCells #[.int .u64 0, .int .u64 0] (n * 2)) 24)) := by
  obtain ⟨i, hi, h1, h2, h3⟩ := info_parts info_pt
  rw [run_make w 37 24 i (.agg #[.int .u64 0, .int .u64 0]) Tryz.underlying37 hi h1 .i64 .i64 n n (by omega) (Int.le_refl _) (by rw [h3]; omega) (by omega), h2, Int.toNat_natCast]
  rfl
theorem made_zero (m k : Nat) (h : k < m) : (madeCells #[.int .u64 0, .int .u64 0] m)[k]? = some (.int .u64 0) := by
  unfold madeCells
  simp [h]
  have : k % 2 = 0 ∨ k % 2 = 1 := by omega
  rcases this with e | e <;> rw [e] <;> rfl
theorem make513 : ∃ Z : Array Value, Z[0]? = some (.int .u64 0) ∧ Z[1]? = some (.int .u64 0) ∧ ∀ w : World, (Instr.makeSlice 37 (.int .i64 513) (.int .i64 513)).run Tryz.prog w = .ok (.slice (some ⟨w.heap.size, 0, none⟩) 513 513) (w.alloc (.cells Z 24)) :=
  ⟨madeCells #[.int .u64 0, .int .u64 0] (513 * 2), made_zero _ _ (by decide), made_zero _ _ (by decide), fun w => run_make_pts 513 (by decide) w⟩
def odd (wh b : Int) (y : Bool) : Value := .agg #[.int .i64 wh, .int .u64 b, .bool y]
theorem tmod3 (x : Int) : -2 ≤ x.tmod 3 ∧ x.tmod 3 ≤ 2 := by
  have h1 := Int.tmod_lt_of_pos x (show (0 : Int) < 3 by decide)
  have h2 := Int.lt_tmod_of_pos x (show (0 : Int) < 3 by decide)
  omega
set_option maxRecDepth 100000 in
set_option maxHeartbeats 12800000 in
theorem lSegRefuses (a b c d : Pt) (wh bb : Int) (yy : Bool) (w : World) (ha : PtU a) (hb : PtU b) (hc : PtU c) (hd : PtU d) (hwh : -9223372036854775808 ≤ wh ∧ wh ≤ 9223372036854775807) (hbb : U64 bb) :
    Calls Tryz.prog 8 #[fr a b c d, odd wh bb yy] w fun e w' => e = .returned (.bool true) ∧ Below w.heap.size w w' := by
  have HSp := Lib.hid (fun wz => lSpots a b c d wz ha hb hc hd)
  have uA : PtU (spot a) := ⟨⟨(spot_fin ha).1.1, (spot_fin ha).1.2.1⟩, ⟨(spot_fin ha).2.1, (spot_fin ha).2.2.1⟩⟩
  have uB : PtU (spot b) := ⟨⟨(spot_fin hb).1.1, (spot_fin hb).1.2.1⟩, ⟨(spot_fin hb).2.1, (spot_fin hb).2.2.1⟩⟩
  have uC : PtU (spot c) := ⟨⟨(spot_fin hc).1.1, (spot_fin hc).1.2.1⟩, ⟨(spot_fin hc).2.1, (spot_fin hc).2.2.1⟩⟩
  have uD : PtU (spot d) := ⟨⟨(spot_fin hd).1.1, (spot_fin hd).1.2.1⟩, ⟨(spot_fin hd).2.1, (spot_fin hd).2.2.1⟩⟩
  generalize spot a = A at *
  generalize spot b = B at *
  generalize spot c = C at *
  generalize spot d = D at *
  have HOB := Lib.hid (oddB_is hbb)
  have HOE : Hid (oddB bb = bits .or .u64 bb 9218868437227405312) := Lib.hid rfl
  have HUU := Lib.hid (And.intro uA (And.intro uB (And.intro uC uD)))
  have hT := tmod3 wh
  obtain ⟨Z, z0, z1, hmk⟩ := make513
  have HMK := Lib.hid hmk
  have HZ := Lib.hid (And.intro z0 z1)
  clear z0 z1 hmk
  have LA := Lib.hid (fun wz => lAlive wz)
  clear uA uB uC uD ha hb hc hd hbb
  unfold fr odd at *
  have hmm : Bx w.heap.size w ((w.alloc (.cells #[.int .u64 a.1, .int .u64 a.2, .int .u64 b.1, .int .u64 b.2, .int .u64 c.1, .int .u64 c.2, .int .u64 d.1, .int .u64 d.2] 26)).alloc (.cells #[.int .i64 wh, .int .u64 bb, .bool yy] 72)) _ _ := ((Bx.start w).alloc (.cells #[.int .u64 a.1, .int .u64 a.2, .int .u64 b.1, .int .u64 b.2, .int .u64 c.1, .int .u64 c.2, .int .u64 d.1, .int .u64 d.2] 26 (0, 0))).alloc (.cells #[.int .i64 wh, .int .u64 bb, .bool yy] 72 (0, 0))
  go_enter Tryz.func8, Tryz.ntmps8
  go_upto_region 1 with (fail)
  generalize (World.alloc (World.alloc w _) _) = v at *
  (try simp only [List.nil_append, List.cons_append, World.size_alloc, List.set_cons_zero, List.set_cons_succ, putsC, pB, pC, pD] at hmm)
  have HM := Lib.hid hmm
  clear hmm
  obtain ⟨c0_0, c0_1, c0_2, c0_3, c0_4, c0_5, c0_6, c0_7, c0_8, c0_9, c0_10, c0_11, c0_12, c0_13, c0_14, c0_15⟩ := rw8 (HM.out.at 0 rfl)
  have HK := Lib.hid (HSp.out v)
  ((try dsimp only); repeat (first | go_values | go_skip | go_guarded | go_step | go_upon))
  refine HK.out.mono ?_
  rintro e w0 ⟨rfl, hb⟩
  have hm := (HM.out.keep hb)
  clear HK HM hb c0_0 c0_1 c0_2 c0_3 c0_4 c0_5 c0_6 c0_7 c0_8 c0_9 c0_10 c0_11 c0_12 c0_13 c0_14 c0_15
  (try simp only [List.nil_append, List.cons_append, World.size_alloc, List.set_cons_zero, List.set_cons_succ, putsC, pB, pC, pD] at hm)
  have HM := Lib.hid hm
  clear hm
  obtain ⟨c0_0, c0_1, c0_2, c0_3, c0_4, c0_5, c0_6, c0_7, c0_8, c0_9, c0_10, c0_11, c0_12, c0_13, c0_14, c0_15⟩ := rw8 (HM.out.at 0 rfl)
  have hm : Bx w.heap.size w (World.setCell (World.setCell (World.setCell (World.setCell (World.setCell (World.setCell (World.setCell (World.setCell w0 ⟨w.heap.size, 0, none⟩ (.int .u64 A.1)) ⟨w.heap.size, 1, none⟩ (.int .u64 A.2)) ⟨w.heap.size, 2, none⟩ (.int .u64 B.1)) ⟨w.heap.size, 3, none⟩ (.int .u64 B.2)) ⟨w.heap.size, 4, none⟩ (.int .u64 C.1)) ⟨w.heap.size, 5, none⟩ (.int .u64 C.2)) ⟨w.heap.size, 6, none⟩ (.int .u64 D.1)) ⟨w.heap.size, 7, none⟩ (.int .u64 D.2)) _ _ := (HM.out.puts 0 rfl (by decide) [(0, .int .u64 A.1), (1, .int .u64 A.2), (2, .int .u64 B.1), (3, .int .u64 B.2), (4, .int .u64 C.1), (5, .int .u64 C.2), (6, .int .u64 D.1), (7, .int .u64 D.2)])
  go_upto_region 2 with (fail)
  generalize (World.setCell (World.setCell (World.setCell (World.setCell (World.setCell (World.setCell (World.setCell (World.setCell w0 _ _) _ _) _ _) _ _) _ _) _ _) _ _) _ _) = v1 at *
  clear HM c0_0 c0_1 c0_2 c0_3 c0_4 c0_5 c0_6 c0_7 c0_8 c0_9 c0_10 c0_11 c0_12 c0_13 c0_14 c0_15
  (try simp only [List.nil_append, List.cons_append, World.size_alloc, List.set_cons_zero, List.set_cons_succ, putsC, pB, pC, pD] at hm)
  have HM := Lib.hid hm
  clear hm
  obtain ⟨c0_0, c0_1, c0_2, c0_3, c0_4, c0_5, c0_6, c0_7, c0_8, c0_9, c0_10, c0_11, c0_12, c0_13, c0_14, c0_15⟩ := rw8 (HM.out.at 0 rfl)
  have hm : Bx w.heap.size w (World.alloc v1 (.cells #[.int .u64 A.1, .int .u64 A.2, .int .u64 B.1, .int .u64 B.2, .int .u64 C.1, .int .u64 C.2, .int .u64 D.1, .int .u64 D.2] 24)) _ _ := (HM.out.alloc (.cells #[.int .u64 A.1, .int .u64 A.2, .int .u64 B.1, .int .u64 B.2, .int .u64 C.1, .int .u64 C.2, .int .u64 D.1, .int .u64 D.2] 24 (0, 0)))
  go_upto_region 3 with (fail)
  generalize (World.alloc v1 _) = v2 at *
  clear HM c0_0 c0_1 c0_2 c0_3 c0_4 c0_5 c0_6 c0_7 c0_8 c0_9 c0_10 c0_11 c0_12 c0_13 c0_14 c0_15
  (try simp only [List.nil_append, List.cons_append, World.size_alloc, List.set_cons_zero, List.set_cons_succ, putsC, pB, pC, pD] at hm)
  have HM := Lib.hid hm
  clear hm
  obtain ⟨c1_0, c1_1, c1_2, c1_3, c1_4, c1_5⟩ := rw3 (HM.out.at 1 rfl)
  go_upto_if 40 with (fail)
  go_cut [6] (fun k wx => ∃ K : Nat, k = .int .i64 K ∧ K ≤ 2 ∧ wx = v2)
  case first =>
    by_cases hneg : wh.tmod 3 < 0
    · ((try dsimp only); repeat (first | go_values | go_skip | go_guarded | go_step | go_upon))
      go_meet
      exact ⟨(-(wh.tmod 3)).toNat, vint (by omega), by omega, rfl⟩
    · ((try dsimp only); repeat (first | go_values | go_skip | go_guarded | go_step | go_upon))
      go_meet
      exact ⟨(wh.tmod 3).toNat, vint (by omega), by omega, rfl⟩
  case rest =>
  obtain ⟨K, rfl, hK, rfl⟩ := hcut
  clear hT hwh
  go_upto_if 47 with (fail)
  rw [← HOE.out]
  clear HOE
  generalize oddB bb = ob at *
  go_cut [6] (fun k wx => k = .int .i64 K ∧ ∃ P0 P1 P2 P3 : Pt, Bx w.heap.size w wx [(w.heap.size, .cells #[.int .u64 A.1, .int .u64 A.2, .int .u64 B.1, .int .u64 B.2, .int .u64 C.1, .int .u64 C.2, .int .u64 D.1, .int .u64 D.2] 26 (0, 0)), (w.heap.size + 1, .cells #[.int .i64 wh, .int .u64 bb, .bool yy] 72 (0, 0)), (v1.heap.size, .cells #[.int .u64 P0.1, .int .u64 P0.2, .int .u64 P1.1, .int .u64 P1.2, .int .u64 P2.1, .int .u64 P2.2, .int .u64 P3.1, .int .u64 P3.2] 24 (0, 0))] [] ∧ PtU P0 ∧ PtU P1 ∧ PtU P2 ∧ PtU P3 ∧ ¬ (FinP P0 ∧ FinP P1 ∧ FinP P2))
  case first =>
    as_aux_lemma =>
    obtain ⟨u1, u2, u3, u4⟩ := HUU.out
    obtain ⟨o1, o2⟩ := HOB.out
    obtain ⟨c2_0, c2_1, c2_2, c2_3, c2_4, c2_5, c2_6, c2_7, c2_8, c2_9, c2_10, c2_11, c2_12, c2_13, c2_14, c2_15⟩ := rw8 (HM.out.at 2 rfl)
    have HX := Lib.hid (And.intro u1 (And.intro u2 (And.intro u3 (And.intro u4 (And.intro o1 o2)))))
    clear u1 u2 u3 u4 o1 o2
    cases yy
    · rcases K with _ | _ | _ | K
      · ((try dsimp only); repeat (first | go_values | go_skip | go_guarded | go_step | go_upon))
        go_meet
        obtain ⟨u1, u2, u3, u4, o1, o2⟩ := HX.out
        have hG := HM.out.puts 2 rfl (by decide) [(0, .int .u64 ob)]
        (try simp only [List.nil_append, List.cons_append, World.size_alloc, List.set_cons_zero, List.set_cons_succ, putsC, pB, pC, pD] at hG)
        exact ⟨rfl, (ob, A.2), B, C, D, hG, ⟨o1, u1.2⟩, u2, u3, u4, fun h => o2 h.1.1⟩
      · ((try dsimp only); repeat (first | go_values | go_skip | go_guarded | go_step | go_upon))
        go_meet
        obtain ⟨u1, u2, u3, u4, o1, o2⟩ := HX.out
        have hG := HM.out.puts 2 rfl (by decide) [(2, .int .u64 ob)]
        (try simp only [List.nil_append, List.cons_append, World.size_alloc, List.set_cons_zero, List.set_cons_succ, putsC, pB, pC, pD] at hG)
        exact ⟨rfl, A, (ob, B.2), C, D, hG, u1, ⟨o1, u2.2⟩, u3, u4, fun h => o2 h.2.1.1⟩
      · ((try dsimp only); repeat (first | go_values | go_skip | go_guarded | go_step | go_upon))
        go_meet
        obtain ⟨u1, u2, u3, u4, o1, o2⟩ := HX.out
        have hG := HM.out.puts 2 rfl (by decide) [(4, .int .u64 ob)]
        (try simp only [List.nil_append, List.cons_append, World.size_alloc, List.set_cons_zero, List.set_cons_succ, putsC, pB, pC, pD] at hG)
        exact ⟨rfl, A, B, (ob, C.2), D, hG, u1, u2, ⟨o1, u3.2⟩, u4, fun h => o2 h.2.2.1⟩
      · omega
    · rcases K with _ | _ | _ | K
      · ((try dsimp only); repeat (first | go_values | go_skip | go_guarded | go_step | go_upon))
        go_meet
        obtain ⟨u1, u2, u3, u4, o1, o2⟩ := HX.out
        have hG := HM.out.puts 2 rfl (by decide) [(1, .int .u64 ob)]
        (try simp only [List.nil_append, List.cons_append, World.size_alloc, List.set_cons_zero, List.set_cons_succ, putsC, pB, pC, pD] at hG)
        exact ⟨rfl, (A.1, ob), B, C, D, hG, ⟨u1.1, o1⟩, u2, u3, u4, fun h => o2 h.1.2⟩
      · ((try dsimp only); repeat (first | go_values | go_skip | go_guarded | go_step | go_upon))
        go_meet
        obtain ⟨u1, u2, u3, u4, o1, o2⟩ := HX.out
        have hG := HM.out.puts 2 rfl (by decide) [(3, .int .u64 ob)]
        (try simp only [List.nil_append, List.cons_append, World.size_alloc, List.set_cons_zero, List.set_cons_succ, putsC, pB, pC, pD] at hG)
        exact ⟨rfl, A, (B.1, ob), C, D, hG, u1, ⟨u2.1, o1⟩, u3, u4, fun h => o2 h.2.1.2⟩
      · ((try dsimp only); repeat (first | go_values | go_skip | go_guarded | go_step | go_upon))
        go_meet
        obtain ⟨u1, u2, u3, u4, o1, o2⟩ := HX.out
        have hG := HM.out.puts 2 rfl (by decide) [(5, .int .u64 ob)]
        (try simp only [List.nil_append, List.cons_append, World.size_alloc, List.set_cons_zero, List.set_cons_succ, putsC, pB, pC, pD] at hG)
        exact ⟨rfl, A, B, (C.1, ob), D, hG, u1, u2, ⟨u3.1, o1⟩, u4, fun h => o2 h.2.2.2⟩
      · omega
  case rest =>
  as_aux_lemma =>
  obtain ⟨rfl, P0, P1, P2, P3, hm, u0, u1, u2, u3, hn⟩ := hcut
  clear HM HUU HOB HSp c1_0 c1_1 c1_2 c1_3 c1_4 c1_5
  have HM := Lib.hid hm
  clear hm
  have M1 := Lib.hid (fun wz => nMeet P0 P1 P2 P3 wz u0 u1 u2 u3 (fun h => hn ⟨h.1, h.2.1, h.2.2.1⟩))
  have M2 := Lib.hid (fun wz => nMeet P3 P2 P1 P0 wz u3 u2 u1 u0 (fun h => hn ⟨h.2.2.2, h.2.2.1, h.2.1⟩))
  have X1 := Lib.hid (fun wz => nCross P0 P1 P2 P3 wz u0 u1 u2 u3 (fun h => hn ⟨h.1, h.2.1, h.2.2.1⟩))
  have F1 := Lib.hid (fun wz => nFoot P0 P1 P2 wz u0 u1 u2 hn)
  have R1 := Lib.hid (fun wz => nFar P0 P1 P2 wz u0 u1 u2 hn)
  have hex : ∃ p ∈ [P0, P1, P2, P3], ¬ FinP p := Classical.byContradiction fun h => hn (by
    have k : ∀ p ∈ [P0, P1, P2, P3], FinP p := fun p hp => Classical.byContradiction fun e => h ⟨p, hp, e⟩
    exact ⟨k P0 (by simp), k P1 (by simp), k P2 (by simp)⟩)
  have huu : ∀ p ∈ [P0, P1, P2, P3], PtU p := by intro p h; simp at h; rcases h with rfl | rfl | rfl | rfl <;> assumption
  have PR := Lib.hid (fun wz g hp hb => nPairs g 0 [P0, P1, P2, P3] wz hp hb (by simp) huu hex)
  have PL := Lib.hid (fun A wz => nPairsLong A 513 513 wz (by decide))
  have HKK := Lib.hid hK
  clear hn hex huu u0 u1 u2 u3 hK
  unfold pt at *
  go_upto_region 10 with (fail)
  as_aux_lemma =>
  refine start_ (n := 19) (S := fun w' => w'.heap[v1.heap.size]? = wc.heap[v1.heap.size]?) (ds := [17]) (bt 19 0) (by kernel_rfl) rfl rfl (rfl) (fun hHeld => ?_)
  refine pv_ 0 59 ?_
  refine pv_ 1 60 ?_
  refine ld_ 2 61 ?_ hHeld ?_ ?_; rotate_left
  · rintro w' hs
    obtain ⟨q0, q1, q2, q3, q4, q5, q6, q7, q8, q9, q10, q11, q12, q13, q14, q15⟩ := rw8 ((hs).trans (HM.out.at 2 rfl))
    clear hs
    go_simp; with_reducible rfl
  refine pv_ 3 62 ?_
  refine pv_ 4 63 ?_
  refine ld_ 5 64 ?_ hHeld ?_ ?_; rotate_left
  · rintro w' hs
    obtain ⟨q0, q1, q2, q3, q4, q5, q6, q7, q8, q9, q10, q11, q12, q13, q14, q15⟩ := rw8 ((hs).trans (HM.out.at 2 rfl))
    clear hs
    go_simp; with_reducible rfl
  refine pv_ 6 65 ?_
  refine pv_ 7 66 ?_
  refine ld_ 8 67 ?_ hHeld ?_ ?_; rotate_left
  · rintro w' hs
    obtain ⟨q0, q1, q2, q3, q4, q5, q6, q7, q8, q9, q10, q11, q12, q13, q14, q15⟩ := rw8 ((hs).trans (HM.out.at 2 rfl))
    clear hs
    go_simp; with_reducible rfl
  refine pv_ 9 68 ?_
  refine pv_ 10 69 ?_
  refine ld_ 11 70 ?_ hHeld ?_ ?_; rotate_left
  · rintro w' hs
    obtain ⟨q0, q1, q2, q3, q4, q5, q6, q7, q8, q9, q10, q11, q12, q13, q14, q15⟩ := rw8 ((hs).trans (HM.out.at 2 rfl))
    clear hs
    go_simp; with_reducible rfl
  refine join_ (σ := Nat) 2 (bt 19 131071) (fun s => [(71, .tuple #[.agg #[.int .i64 0, .bool false, .int .u64 0, .int .u64 0, .int .u64 0, .int .u64 0], .int .i64 220]), (58, .tuple #[.agg #[.int .i64 0, .bool false, .int .u64 0, .int .u64 0, .int .u64 0, .int .u64 0], .int .i64 220]), (72, .agg #[.int .i64 0, .bool false, .int .u64 0, .int .u64 0, .int .u64 0, .int .u64 0]), (73, .int .i64 220), (8, .pointer (some ⟨(s), 0, none⟩))]) (fun s w' => Bx wc.heap.size wc w' [((s), .cells #[.int .i64 0, .bool false, .int .u64 0, .int .u64 0, .int .u64 0, .int .u64 0] 29 (0, 0))] []) ?_ ?_
  rotate_left
  · intro J0
    refine join_ (σ := Nat) 3 (bt 19 65535) (fun s => [(71, .tuple #[.agg #[.int .i64 0, .bool false, .int .u64 0, .int .u64 0, .int .u64 0, .int .u64 0], .int .i64 220]), (58, .tuple #[.agg #[.int .i64 0, .bool false, .int .u64 0, .int .u64 0, .int .u64 0, .int .u64 0], .int .i64 220]), (72, .agg #[.int .i64 0, .bool false, .int .u64 0, .int .u64 0, .int .u64 0, .int .u64 0]), (73, .int .i64 220)]) (fun s w' => Bx wc.heap.size wc w' [] []) ?_ ?_
    · rintro g3_16 wj hF
      try dsimp only at hF ⊢
      refine nx ?_
      refine o1 16 8 (bt 19 131071) ?_
      · intro K hK
        refine al_ (.cells #[.int .i64 0, .bool false, .int .u64 0, .int .u64 0, .int .u64 0, .int .u64 0] 29) ?_
        have hN := hF.alloc (.cells #[.int .i64 0, .bool false, .int .u64 0, .int .u64 0, .int .u64 0, .int .u64 0] 29 (0, 0))
        refine hK.out _ _ (by exact (hN.m.b.block _ (HM.out.lt 2 rfl))) (fun hHeld => ?_)
        exact nj (J0 (wj.heap.size) _ hN)
    intro J1
    refine join_ (σ := Nat) 3 (bt 19 98303) (fun s => [(71, .tuple #[.agg #[.int .i64 0, .bool false, .int .u64 0, .int .u64 0, .int .u64 0, .int .u64 0], .int .i64 220]), (58, .tuple #[.agg #[.int .i64 0, .bool false, .int .u64 0, .int .u64 0, .int .u64 0, .int .u64 0], .int .i64 220]), (72, .agg #[.int .i64 0, .bool false, .int .u64 0, .int .u64 0, .int .u64 0, .int .u64 0]), (8, .pointer (some ⟨(s), 0, none⟩))]) (fun s w' => Bx wc.heap.size wc w' [((s), .cells #[.int .i64 0, .bool false, .int .u64 0, .int .u64 0, .int .u64 0, .int .u64 0] 29 (0, 0))] []) ?_ ?_
    · rintro g3_16 wj hF
      try dsimp only at hF ⊢
      refine nx ?_
      refine pv_ 15 73 ?_
      exact nj (J0 (g3_16) _ hF)
    intro J2
    refine join_ (σ := Nat) 4 (bt 19 32767) (fun s => [(71, .tuple #[.agg #[.int .i64 0, .bool false, .int .u64 0, .int .u64 0, .int .u64 0, .int .u64 0], .int .i64 220]), (58, .tuple #[.agg #[.int .i64 0, .bool false, .int .u64 0, .int .u64 0, .int .u64 0, .int .u64 0], .int .i64 220]), (72, .agg #[.int .i64 0, .bool false, .int .u64 0, .int .u64 0, .int .u64 0, .int .u64 0])]) (fun s w' => Bx wc.heap.size wc w' [] []) ?_ ?_
    · rintro g3_16 wj hF
      try dsimp only at hF ⊢
      refine nx ?_
      refine pv_ 15 73 ?_
      exact nj (J1 (g3_16) _ hF)
    intro J3
    refine join_ (σ := Nat) 4 (bt 19 81919) (fun s => [(71, .tuple #[.agg #[.int .i64 0, .bool false, .int .u64 0, .int .u64 0, .int .u64 0, .int .u64 0], .int .i64 220]), (58, .tuple #[.agg #[.int .i64 0, .bool false, .int .u64 0, .int .u64 0, .int .u64 0, .int .u64 0], .int .i64 220]), (8, .pointer (some ⟨(s), 0, none⟩))]) (fun s w' => Bx wc.heap.size wc w' [((s), .cells #[.int .i64 0, .bool false, .int .u64 0, .int .u64 0, .int .u64 0, .int .u64 0] 29 (0, 0))] []) ?_ ?_
    · rintro g3_16 wj hF
      try dsimp only at hF ⊢
      refine nx ?_
      refine pv_ 14 72 ?_
      exact nj (J2 (g3_16) _ hF)
    intro J4
    refine join_ (σ := Nat) 5 (bt 19 16383) (fun s => [(71, .tuple #[.agg #[.int .i64 0, .bool false, .int .u64 0, .int .u64 0, .int .u64 0, .int .u64 0], .int .i64 220]), (58, .tuple #[.agg #[.int .i64 0, .bool false, .int .u64 0, .int .u64 0, .int .u64 0, .int .u64 0], .int .i64 220])]) (fun s w' => Bx wc.heap.size wc w' [] []) ?_ ?_
    · rintro g3_16 wj hF
      try dsimp only at hF ⊢
      refine nx ?_
      refine pv_ 14 72 ?_
      exact nj (J3 (g3_16) _ hF)
    intro J5
    refine join_ (σ := Nat) 5 (bt 19 73727) (fun s => [(71, .tuple #[.agg #[.int .i64 0, .bool false, .int .u64 0, .int .u64 0, .int .u64 0, .int .u64 0], .int .i64 220]), (8, .pointer (some ⟨(s), 0, none⟩))]) (fun s w' => Bx wc.heap.size wc w' [((s), .cells #[.int .i64 0, .bool false, .int .u64 0, .int .u64 0, .int .u64 0, .int .u64 0] 29 (0, 0))] []) ?_ ?_
    · rintro g3_16 wj hF
      try dsimp only at hF ⊢
      refine nx ?_
      refine pv_ 13 58 ?_
      exact nj (J4 (g3_16) _ hF)
    intro J6
    refine join_ (σ := Nat) 6 (bt 19 8191) (fun s => [(71, .tuple #[.agg #[.int .i64 0, .bool false, .int .u64 0, .int .u64 0, .int .u64 0, .int .u64 0], .int .i64 220])]) (fun s w' => Bx wc.heap.size wc w' [] []) ?_ ?_
    · rintro g3_16 wj hF
      try dsimp only at hF ⊢
      refine nx ?_
      refine pv_ 13 58 ?_
      exact nj (J5 (g3_16) _ hF)
    intro J7
    refine join_ (σ := Nat) 6 (bt 19 69631) (fun s => [(8, .pointer (some ⟨(s), 0, none⟩))]) (fun s w' => Bx wc.heap.size wc w' [((s), .cells #[.int .i64 0, .bool false, .int .u64 0, .int .u64 0, .int .u64 0, .int .u64 0] 29 (0, 0))] []) ?_ ?_
    · rintro g3_16 wj hF
      try dsimp only at hF ⊢
      refine nx ?_
      refine o1 12 71 (bt 19 73727) ?_
      · intro K hK
        refine go_ Tryz.func10 #[.agg #[.int .u64 P0.1, .int .u64 P0.2], .agg #[.int .u64 P1.1, .int .u64 P1.2], .agg #[.int .u64 P2.1, .int .u64 P2.2], .agg #[.int .u64 P3.1, .int .u64 P3.2]] ?_
        with_reducible refine (M1.out wj).mono ?_
        rintro e w' ⟨rfl, hb⟩
        refine ⟨_, rfl, ?_⟩
        have hN := hF.keep hb
        refine hK.out _ _ (by exact (hN.m.b.block _ (HM.out.lt 2 rfl))) (fun hHeld => ?_)
        exact nj (J6 (g3_16) _ hN)
    intro J8
    refine join_ (σ := Nat) 7 (bt 19 4095) (fun s => []) (fun s w' => Bx wc.heap.size wc w' [] []) ?_ ?_
    · rintro g3_16 wj hF
      try dsimp only at hF ⊢
      refine nx ?_
      refine o2 12 71 16 8 (bt 19 8191) (bt 19 69631) ?_ ?_
      · intro K hK
        refine go_ Tryz.func10 #[.agg #[.int .u64 P0.1, .int .u64 P0.2], .agg #[.int .u64 P1.1, .int .u64 P1.2], .agg #[.int .u64 P2.1, .int .u64 P2.2], .agg #[.int .u64 P3.1, .int .u64 P3.2]] ?_
        with_reducible refine (M1.out wj).mono ?_
        rintro e w' ⟨rfl, hb⟩
        refine ⟨_, rfl, ?_⟩
        have hN := hF.keep hb
        refine hK.out _ _ (by exact (hN.m.b.block _ (HM.out.lt 2 rfl))) (fun hHeld => ?_)
        exact nj (J7 (g3_16) _ hN)
      · intro K hK
        refine al_ (.cells #[.int .i64 0, .bool false, .int .u64 0, .int .u64 0, .int .u64 0, .int .u64 0] 29) ?_
        have hN := hF.alloc (.cells #[.int .i64 0, .bool false, .int .u64 0, .int .u64 0, .int .u64 0, .int .u64 0] 29 (0, 0))
        refine hK.out _ _ (by exact (hN.m.b.block _ (HM.out.lt 2 rfl))) (fun hHeld => ?_)
        exact nj (J8 (wj.heap.size) _ hN)
    intro J9
    exact nj (J9 (0) _ ((Bx.start _).drew))
  rintro g3_16 wj hF
  try dsimp only at hF ⊢
  refine nx ?_
  have hG := HM.out.join hF
  (try simp only [List.nil_append, List.cons_append, World.size_alloc, List.set_cons_zero, List.set_cons_succ, putsC, pB, pC, pD] at hG)
  have hHeld := And.intro True.intro (hF.m.b.block _ (HM.out.lt 2 rfl))
  clear HM hF
  refine last_ (i := 17) (N := none) (bt 19 262143) rfl rfl (by kernel_rfl) (by decide) (fun K hK => ?_)
  obtain ⟨y0, y1, y2, y3, y4, y5, y6, y7, y8, y9, y10, y11⟩ := rw6 (hG.at 3 rfl)
  refine skip_ (w1 := puts (g3_16) [(0, .int .i64 0), (1, .bool false), (2, .int .u64 0), (3, .int .u64 0), (4, .int .u64 0), (5, .int .u64 0)] wj) (by rfl) rfl ?_ ?_
  · go_simp
    rfl
  refine hK.out _ _ ?_
  clear hK K y0 y1 y2 y3 y4 y5 y6 y7 y8 y9 y10 y11
  replace hG := hG.puts 3 rfl (by decide) [(0, .int .i64 0), (1, .bool false), (2, .int .u64 0), (3, .int .u64 0), (4, .int .u64 0), (5, .int .u64 0)]
  (try simp only [List.nil_append, List.cons_append, World.size_alloc, List.set_cons_zero, List.set_cons_succ, putsC, pB, pC, pD] at hG)
  generalize puts (g3_16) _ wj = wk4 at *
  refine pv_ 18 9 ?_
  refine done_ (by kernel_rfl) ?_
  (try simp only [List.nil_append, List.cons_append, World.size_alloc, List.set_cons_zero, List.set_cons_succ, putsC, pB, pC, pD] at hG)
  have HM := Lib.hid hG
  clear hG hHeld
  go_upto_region 11 with (fail)
  as_aux_lemma =>
  refine start_ (n := 19) (S := fun w' => w'.heap[v1.heap.size]? = wk4.heap[v1.heap.size]?) (ds := [17]) (bt 19 0) (by kernel_rfl) rfl rfl (rfl) (fun hHeld => ?_)
  refine pv_ 0 75 ?_
  refine pv_ 1 76 ?_
  refine ld_ 2 77 ?_ hHeld ?_ ?_; rotate_left
  · rintro w' hs
    obtain ⟨q0, q1, q2, q3, q4, q5, q6, q7, q8, q9, q10, q11, q12, q13, q14, q15⟩ := rw8 ((hs).trans (HM.out.at 2 rfl))
    clear hs
    go_simp; with_reducible rfl
  refine pv_ 3 78 ?_
  refine pv_ 4 79 ?_
  refine ld_ 5 80 ?_ hHeld ?_ ?_; rotate_left
  · rintro w' hs
    obtain ⟨q0, q1, q2, q3, q4, q5, q6, q7, q8, q9, q10, q11, q12, q13, q14, q15⟩ := rw8 ((hs).trans (HM.out.at 2 rfl))
    clear hs
    go_simp; with_reducible rfl
  refine pv_ 6 81 ?_
  refine pv_ 7 82 ?_
  refine ld_ 8 83 ?_ hHeld ?_ ?_; rotate_left
  · rintro w' hs
    obtain ⟨q0, q1, q2, q3, q4, q5, q6, q7, q8, q9, q10, q11, q12, q13, q14, q15⟩ := rw8 ((hs).trans (HM.out.at 2 rfl))
    clear hs
    go_simp; with_reducible rfl
  refine pv_ 9 84 ?_
  refine pv_ 10 85 ?_
  refine ld_ 11 86 ?_ hHeld ?_ ?_; rotate_left
  · rintro w' hs
    obtain ⟨q0, q1, q2, q3, q4, q5, q6, q7, q8, q9, q10, q11, q12, q13, q14, q15⟩ := rw8 ((hs).trans (HM.out.at 2 rfl))
    clear hs
    go_simp; with_reducible rfl
  refine join_ (σ := Nat) 2 (bt 19 131071) (fun s => [(87, .tuple #[.agg #[.int .i64 0, .bool false, .int .u64 0, .int .u64 0, .int .u64 0, .int .u64 0], .int .i64 220]), (74, .tuple #[.agg #[.int .i64 0, .bool false, .int .u64 0, .int .u64 0, .int .u64 0, .int .u64 0], .int .i64 220]), (88, .agg #[.int .i64 0, .bool false, .int .u64 0, .int .u64 0, .int .u64 0, .int .u64 0]), (89, .int .i64 220), (10, .pointer (some ⟨(s), 0, none⟩))]) (fun s w' => Bx wk4.heap.size wk4 w' [((s), .cells #[.int .i64 0, .bool false, .int .u64 0, .int .u64 0, .int .u64 0, .int .u64 0] 29 (0, 0))] []) ?_ ?_
  rotate_left
  · intro J0
    refine join_ (σ := Nat) 3 (bt 19 65535) (fun s => [(87, .tuple #[.agg #[.int .i64 0, .bool false, .int .u64 0, .int .u64 0, .int .u64 0, .int .u64 0], .int .i64 220]), (74, .tuple #[.agg #[.int .i64 0, .bool false, .int .u64 0, .int .u64 0, .int .u64 0, .int .u64 0], .int .i64 220]), (88, .agg #[.int .i64 0, .bool false, .int .u64 0, .int .u64 0, .int .u64 0, .int .u64 0]), (89, .int .i64 220)]) (fun s w' => Bx wk4.heap.size wk4 w' [] []) ?_ ?_
    · rintro g5_16 wj hF
      try dsimp only at hF ⊢
      refine nx ?_
      refine o1 16 10 (bt 19 131071) ?_
      · intro K hK
        refine al_ (.cells #[.int .i64 0, .bool false, .int .u64 0, .int .u64 0, .int .u64 0, .int .u64 0] 29) ?_
        have hN := hF.alloc (.cells #[.int .i64 0, .bool false, .int .u64 0, .int .u64 0, .int .u64 0, .int .u64 0] 29 (0, 0))
        refine hK.out _ _ (by exact (hN.m.b.block _ (HM.out.lt 2 rfl))) (fun hHeld => ?_)
        exact nj (J0 (wj.heap.size) _ hN)
    intro J1
    refine join_ (σ := Nat) 3 (bt 19 98303) (fun s => [(87, .tuple #[.agg #[.int .i64 0, .bool false, .int .u64 0, .int .u64 0, .int .u64 0, .int .u64 0], .int .i64 220]), (74, .tuple #[.agg #[.int .i64 0, .bool false, .int .u64 0, .int .u64 0, .int .u64 0, .int .u64 0], .int .i64 220]), (88, .agg #[.int .i64 0, .bool false, .int .u64 0, .int .u64 0, .int .u64 0, .int .u64 0]), (10, .pointer (some ⟨(s), 0, none⟩))]) (fun s w' => Bx wk4.heap.size wk4 w' [((s), .cells #[.int .i64 0, .bool false, .int .u64 0, .int .u64 0, .int .u64 0, .int .u64 0] 29 (0, 0))] []) ?_ ?_
    · rintro g5_16 wj hF
      try dsimp only at hF ⊢
      refine nx ?_
      refine pv_ 15 89 ?_
      exact nj (J0 (g5_16) _ hF)
    intro J2
    refine join_ (σ := Nat) 4 (bt 19 32767) (fun s => [(87, .tuple #[.agg #[.int .i64 0, .bool false, .int .u64 0, .int .u64 0, .int .u64 0, .int .u64 0], .int .i64 220]), (74, .tuple #[.agg #[.int .i64 0, .bool false, .int .u64 0, .int .u64 0, .int .u64 0, .int .u64 0], .int .i64 220]), (88, .agg #[.int .i64 0, .bool false, .int .u64 0, .int .u64 0, .int .u64 0, .int .u64 0])]) (fun s w' => Bx wk4.heap.size wk4 w' [] []) ?_ ?_
    · rintro g5_16 wj hF
      try dsimp only at hF ⊢
      refine nx ?_
      refine pv_ 15 89 ?_
      exact nj (J1 (g5_16) _ hF)
    intro J3
    refine join_ (σ := Nat) 4 (bt 19 81919) (fun s => [(87, .tuple #[.agg #[.int .i64 0, .bool false, .int .u64 0, .int .u64 0, .int .u64 0, .int .u64 0], .int .i64 220]), (74, .tuple #[.agg #[.int .i64 0, .bool false, .int .u64 0, .int .u64 0, .int .u64 0, .int .u64 0], .int .i64 220]), (10, .pointer (some ⟨(s), 0, none⟩))]) (fun s w' => Bx wk4.heap.size wk4 w' [((s), .cells #[.int .i64 0, .bool false, .int .u64 0, .int .u64 0, .int .u64 0, .int .u64 0] 29 (0, 0))] []) ?_ ?_
    · rintro g5_16 wj hF
      try dsimp only at hF ⊢
      refine nx ?_
      refine pv_ 14 88 ?_
      exact nj (J2 (g5_16) _ hF)
    intro J4
    refine join_ (σ := Nat) 5 (bt 19 16383) (fun s => [(87, .tuple #[.agg #[.int .i64 0, .bool false, .int .u64 0, .int .u64 0, .int .u64 0, .int .u64 0], .int .i64 220]), (74, .tuple #[.agg #[.int .i64 0, .bool false, .int .u64 0, .int .u64 0, .int .u64 0, .int .u64 0], .int .i64 220])]) (fun s w' => Bx wk4.heap.size wk4 w' [] []) ?_ ?_
    · rintro g5_16 wj hF
      try dsimp only at hF ⊢
      refine nx ?_
      refine pv_ 14 88 ?_
      exact nj (J3 (g5_16) _ hF)
    intro J5
    refine join_ (σ := Nat) 5 (bt 19 73727) (fun s => [(87, .tuple #[.agg #[.int .i64 0, .bool false, .int .u64 0, .int .u64 0, .int .u64 0, .int .u64 0], .int .i64 220]), (10, .pointer (some ⟨(s), 0, none⟩))]) (fun s w' => Bx wk4.heap.size wk4 w' [((s), .cells #[.int .i64 0, .bool false, .int .u64 0, .int .u64 0, .int .u64 0, .int .u64 0] 29 (0, 0))] []) ?_ ?_
    · rintro g5_16 wj hF
      try dsimp only at hF ⊢
      refine nx ?_
      refine pv_ 13 74 ?_
      exact nj (J4 (g5_16) _ hF)
    intro J6
    refine join_ (σ := Nat) 6 (bt 19 8191) (fun s => [(87, .tuple #[.agg #[.int .i64 0, .bool false, .int .u64 0, .int .u64 0, .int .u64 0, .int .u64 0], .int .i64 220])]) (fun s w' => Bx wk4.heap.size wk4 w' [] []) ?_ ?_
    · rintro g5_16 wj hF
      try dsimp only at hF ⊢
      refine nx ?_
      refine pv_ 13 74 ?_
      exact nj (J5 (g5_16) _ hF)
    intro J7
    refine join_ (σ := Nat) 6 (bt 19 69631) (fun s => [(10, .pointer (some ⟨(s), 0, none⟩))]) (fun s w' => Bx wk4.heap.size wk4 w' [((s), .cells #[.int .i64 0, .bool false, .int .u64 0, .int .u64 0, .int .u64 0, .int .u64 0] 29 (0, 0))] []) ?_ ?_
    · rintro g5_16 wj hF
      try dsimp only at hF ⊢
      refine nx ?_
      refine o1 12 87 (bt 19 73727) ?_
      · intro K hK
        refine go_ Tryz.func10 #[.agg #[.int .u64 P3.1, .int .u64 P3.2], .agg #[.int .u64 P2.1, .int .u64 P2.2], .agg #[.int .u64 P1.1, .int .u64 P1.2], .agg #[.int .u64 P0.1, .int .u64 P0.2]] ?_
        with_reducible refine (M2.out wj).mono ?_
        rintro e w' ⟨rfl, hb⟩
        refine ⟨_, rfl, ?_⟩
        have hN := hF.keep hb
        refine hK.out _ _ (by exact (hN.m.b.block _ (HM.out.lt 2 rfl))) (fun hHeld => ?_)
        exact nj (J6 (g5_16) _ hN)
    intro J8
    refine join_ (σ := Nat) 7 (bt 19 4095) (fun s => []) (fun s w' => Bx wk4.heap.size wk4 w' [] []) ?_ ?_
    · rintro g5_16 wj hF
      try dsimp only at hF ⊢
      refine nx ?_
      refine o2 12 87 16 10 (bt 19 8191) (bt 19 69631) ?_ ?_
      · intro K hK
        refine go_ Tryz.func10 #[.agg #[.int .u64 P3.1, .int .u64 P3.2], .agg #[.int .u64 P2.1, .int .u64 P2.2], .agg #[.int .u64 P1.1, .int .u64 P1.2], .agg #[.int .u64 P0.1, .int .u64 P0.2]] ?_
        with_reducible refine (M2.out wj).mono ?_
        rintro e w' ⟨rfl, hb⟩
        refine ⟨_, rfl, ?_⟩
        have hN := hF.keep hb
        refine hK.out _ _ (by exact (hN.m.b.block _ (HM.out.lt 2 rfl))) (fun hHeld => ?_)
        exact nj (J7 (g5_16) _ hN)
      · intro K hK
        refine al_ (.cells #[.int .i64 0, .bool false, .int .u64 0, .int .u64 0, .int .u64 0, .int .u64 0] 29) ?_
        have hN := hF.alloc (.cells #[.int .i64 0, .bool false, .int .u64 0, .int .u64 0, .int .u64 0, .int .u64 0] 29 (0, 0))
        refine hK.out _ _ (by exact (hN.m.b.block _ (HM.out.lt 2 rfl))) (fun hHeld => ?_)
        exact nj (J8 (wj.heap.size) _ hN)
    intro J9
    exact nj (J9 (0) _ ((Bx.start _).drew))
  rintro g5_16 wj hF
  try dsimp only at hF ⊢
  refine nx ?_
  have hG := HM.out.join hF
  (try simp only [List.nil_append, List.cons_append, World.size_alloc, List.set_cons_zero, List.set_cons_succ, putsC, pB, pC, pD] at hG)
  have hHeld := And.intro True.intro (hF.m.b.block _ (HM.out.lt 2 rfl))
  clear HM hF
  refine last_ (i := 17) (N := none) (bt 19 262143) rfl rfl (by kernel_rfl) (by decide) (fun K hK => ?_)
  obtain ⟨y0, y1, y2, y3, y4, y5, y6, y7, y8, y9, y10, y11⟩ := rw6 (hG.at 4 rfl)
  refine skip_ (w1 := puts (g5_16) [(0, .int .i64 0), (1, .bool false), (2, .int .u64 0), (3, .int .u64 0), (4, .int .u64 0), (5, .int .u64 0)] wj) (by rfl) rfl ?_ ?_
  · go_simp
    rfl
  refine hK.out _ _ ?_
  clear hK K y0 y1 y2 y3 y4 y5 y6 y7 y8 y9 y10 y11
  replace hG := hG.puts 4 rfl (by decide) [(0, .int .i64 0), (1, .bool false), (2, .int .u64 0), (3, .int .u64 0), (4, .int .u64 0), (5, .int .u64 0)]
  (try simp only [List.nil_append, List.cons_append, World.size_alloc, List.set_cons_zero, List.set_cons_succ, putsC, pB, pC, pD] at hG)
  generalize puts (g5_16) _ wj = wk6 at *
  refine pv_ 18 11 ?_
  refine done_ (by kernel_rfl) ?_
  (try simp only [List.nil_append, List.cons_append, World.size_alloc, List.set_cons_zero, List.set_cons_succ, putsC, pB, pC, pD] at hG)
  have HM := Lib.hid hG
  clear hG hHeld
  go_upto_region 12 with (fail)
  as_aux_lemma =>
  refine start_ (n := 22) (S := fun w' => w'.heap[v1.heap.size]? = wk6.heap[v1.heap.size]?) (ds := [19, 20]) (bt 22 0) (by kernel_rfl) rfl rfl (rfl) (fun hHeld => ?_)
  refine pv_ 0 91 ?_
  refine pv_ 1 92 ?_
  refine ld_ 2 93 ?_ hHeld ?_ ?_; rotate_left
  · rintro w' hs
    obtain ⟨q0, q1, q2, q3, q4, q5, q6, q7, q8, q9, q10, q11, q12, q13, q14, q15⟩ := rw8 ((hs).trans (HM.out.at 2 rfl))
    clear hs
    go_simp; with_reducible rfl
  refine pv_ 3 94 ?_
  refine pv_ 4 95 ?_
  refine ld_ 5 96 ?_ hHeld ?_ ?_; rotate_left
  · rintro w' hs
    obtain ⟨q0, q1, q2, q3, q4, q5, q6, q7, q8, q9, q10, q11, q12, q13, q14, q15⟩ := rw8 ((hs).trans (HM.out.at 2 rfl))
    clear hs
    go_simp; with_reducible rfl
  refine pv_ 6 97 ?_
  refine pv_ 7 98 ?_
  refine ld_ 8 99 ?_ hHeld ?_ ?_; rotate_left
  · rintro w' hs
    obtain ⟨q0, q1, q2, q3, q4, q5, q6, q7, q8, q9, q10, q11, q12, q13, q14, q15⟩ := rw8 ((hs).trans (HM.out.at 2 rfl))
    clear hs
    go_simp; with_reducible rfl
  refine pv_ 9 100 ?_
  refine pv_ 10 101 ?_
  refine ld_ 11 102 ?_ hHeld ?_ ?_; rotate_left
  · rintro w' hs
    obtain ⟨q0, q1, q2, q3, q4, q5, q6, q7, q8, q9, q10, q11, q12, q13, q14, q15⟩ := rw8 ((hs).trans (HM.out.at 2 rfl))
    clear hs
    go_simp; with_reducible rfl
  refine join_ (σ := Nat × Nat) 3 (bt 22 524287) (fun s => [(103, .tuple #[.agg #[.bool false, .slice none 0 0, .slice none 0 0], .agg #[.bool false, .slice none 0 0, .slice none 0 0], .int .i64 220]), (90, .tuple #[.agg #[.bool false, .slice none 0 0, .slice none 0 0], .agg #[.bool false, .slice none 0 0, .slice none 0 0], .int .i64 220]), (104, .agg #[.bool false, .slice none 0 0, .slice none 0 0]), (105, .agg #[.bool false, .slice none 0 0, .slice none 0 0]), (106, .int .i64 220), (12, .pointer (some ⟨(s.1), 0, none⟩)), (13, .pointer (some ⟨(s.2), 0, none⟩))]) (fun s w' => Bx wk6.heap.size wk6 w' [((s.1), zR), ((s.2), zR)] []) ?_ ?_
  rotate_left
  · intro J0
    refine join_ (σ := Nat × Nat) 4 (bt 22 262143) (fun s => [(103, .tuple #[.agg #[.bool false, .slice none 0 0, .slice none 0 0], .agg #[.bool false, .slice none 0 0, .slice none 0 0], .int .i64 220]), (90, .tuple #[.agg #[.bool false, .slice none 0 0, .slice none 0 0], .agg #[.bool false, .slice none 0 0, .slice none 0 0], .int .i64 220]), (104, .agg #[.bool false, .slice none 0 0, .slice none 0 0]), (105, .agg #[.bool false, .slice none 0 0, .slice none 0 0]), (106, .int .i64 220), (12, .pointer (some ⟨(s.1), 0, none⟩))]) (fun s w' => Bx wk6.heap.size wk6 w' [((s.1), zR)] []) ?_ ?_
    · rintro ⟨g7_17, g7_18⟩ wj hF
      try dsimp only at hF ⊢
      refine nx ?_
      refine o1 18 13 (bt 22 524287) ?_
      · intro K hK
        refine al_ (.cells #[.bool false, .slice none 0 0, .slice none 0 0] 45) ?_
        have hN := hF.alloc zR
        refine hK.out _ _ (by exact (hN.m.b.block _ (HM.out.lt 2 rfl))) (fun hHeld => ?_)
        exact nj (J0 (g7_17, wj.heap.size) _ hN)
    intro J1
    refine join_ (σ := Nat × Nat) 4 (bt 22 393215) (fun s => [(103, .tuple #[.agg #[.bool false, .slice none 0 0, .slice none 0 0], .agg #[.bool false, .slice none 0 0, .slice none 0 0], .int .i64 220]), (90, .tuple #[.agg #[.bool false, .slice none 0 0, .slice none 0 0], .agg #[.bool false, .slice none 0 0, .slice none 0 0], .int .i64 220]), (104, .agg #[.bool false, .slice none 0 0, .slice none 0 0]), (105, .agg #[.bool false, .slice none 0 0, .slice none 0 0]), (106, .int .i64 220), (13, .pointer (some ⟨(s.2), 0, none⟩))]) (fun s w' => Bx wk6.heap.size wk6 w' [((s.2), zR)] []) ?_ ?_
    · rintro ⟨g7_17, g7_18⟩ wj hF
      try dsimp only at hF ⊢
      refine nx ?_
      refine o1 17 12 (bt 22 524287) ?_
      · intro K hK
        refine al_ (.cells #[.bool false, .slice none 0 0, .slice none 0 0] 45) ?_
        have hN := hF.alloc zR
        have hN := hN.sel (L' := [(wj.heap.size, zR), (g7_18, zR)]) (R' := []) (fun i => [1, 0].getD i i) (fun i x e => match i, e with | 0, e => e | 1, e => e) (fun i j hi hj => (show ∀ i, i < 2 → ∀ j, j < 2 → [1, 0].getD i i = [1, 0].getD j j → i = j by decide) i hi j hj) (by first | exact fun x h => h | (simp only [List.nil_append, List.cons_append, List.mem_cons]; grind))
        refine hK.out _ _ (by exact (hN.m.b.block _ (HM.out.lt 2 rfl))) (fun hHeld => ?_)
        exact nj (J0 (wj.heap.size, g7_18) _ hN)
    intro J2
    refine join_ (σ := Nat × Nat) 4 (bt 22 458751) (fun s => [(103, .tuple #[.agg #[.bool false, .slice none 0 0, .slice none 0 0], .agg #[.bool false, .slice none 0 0, .slice none 0 0], .int .i64 220]), (90, .tuple #[.agg #[.bool false, .slice none 0 0, .slice none 0 0], .agg #[.bool false, .slice none 0 0, .slice none 0 0], .int .i64 220]), (104, .agg #[.bool false, .slice none 0 0, .slice none 0 0]), (105, .agg #[.bool false, .slice none 0 0, .slice none 0 0]), (12, .pointer (some ⟨(s.1), 0, none⟩)), (13, .pointer (some ⟨(s.2), 0, none⟩))]) (fun s w' => Bx wk6.heap.size wk6 w' [((s.1), zR), ((s.2), zR)] []) ?_ ?_
    · rintro ⟨g7_17, g7_18⟩ wj hF
      try dsimp only at hF ⊢
      refine nx ?_
      refine pv_ 16 106 ?_
      exact nj (J0 (g7_17, g7_18) _ hF)
    intro J3
    refine join_ (σ := Nat × Nat) 5 (bt 22 131071) (fun s => [(103, .tuple #[.agg #[.bool false, .slice none 0 0, .slice none 0 0], .agg #[.bool false, .slice none 0 0, .slice none 0 0], .int .i64 220]), (90, .tuple #[.agg #[.bool false, .slice none 0 0, .slice none 0 0], .agg #[.bool false, .slice none 0 0, .slice none 0 0], .int .i64 220]), (104, .agg #[.bool false, .slice none 0 0, .slice none 0 0]), (105, .agg #[.bool false, .slice none 0 0, .slice none 0 0]), (106, .int .i64 220)]) (fun s w' => Bx wk6.heap.size wk6 w' [] []) ?_ ?_
    · rintro ⟨g7_17, g7_18⟩ wj hF
      try dsimp only at hF ⊢
      refine nx ?_
      refine o2 17 12 18 13 (bt 22 262143) (bt 22 393215) ?_ ?_
      · intro K hK
        refine al_ (.cells #[.bool false, .slice none 0 0, .slice none 0 0] 45) ?_
        have hN := hF.alloc zR
        refine hK.out _ _ (by exact (hN.m.b.block _ (HM.out.lt 2 rfl))) (fun hHeld => ?_)
        exact nj (J1 (wj.heap.size, g7_18) _ hN)
      · intro K hK
        refine al_ (.cells #[.bool false, .slice none 0 0, .slice none 0 0] 45) ?_
        have hN := hF.alloc zR
        refine hK.out _ _ (by exact (hN.m.b.block _ (HM.out.lt 2 rfl))) (fun hHeld => ?_)
        exact nj (J2 (g7_17, wj.heap.size) _ hN)
    intro J4
    refine join_ (σ := Nat × Nat) 5 (bt 22 196607) (fun s => [(103, .tuple #[.agg #[.bool false, .slice none 0 0, .slice none 0 0], .agg #[.bool false, .slice none 0 0, .slice none 0 0], .int .i64 220]), (90, .tuple #[.agg #[.bool false, .slice none 0 0, .slice none 0 0], .agg #[.bool false, .slice none 0 0, .slice none 0 0], .int .i64 220]), (104, .agg #[.bool false, .slice none 0 0, .slice none 0 0]), (105, .agg #[.bool false, .slice none 0 0, .slice none 0 0]), (12, .pointer (some ⟨(s.1), 0, none⟩))]) (fun s w' => Bx wk6.heap.size wk6 w' [((s.1), zR)] []) ?_ ?_
    · rintro ⟨g7_17, g7_18⟩ wj hF
      try dsimp only at hF ⊢
      refine nx ?_
      refine pv_ 16 106 ?_
      exact nj (J1 (g7_17, g7_18) _ hF)
    intro J5
    refine join_ (σ := Nat × Nat) 5 (bt 22 327679) (fun s => [(103, .tuple #[.agg #[.bool false, .slice none 0 0, .slice none 0 0], .agg #[.bool false, .slice none 0 0, .slice none 0 0], .int .i64 220]), (90, .tuple #[.agg #[.bool false, .slice none 0 0, .slice none 0 0], .agg #[.bool false, .slice none 0 0, .slice none 0 0], .int .i64 220]), (104, .agg #[.bool false, .slice none 0 0, .slice none 0 0]), (105, .agg #[.bool false, .slice none 0 0, .slice none 0 0]), (13, .pointer (some ⟨(s.2), 0, none⟩))]) (fun s w' => Bx wk6.heap.size wk6 w' [((s.2), zR)] []) ?_ ?_
    · rintro ⟨g7_17, g7_18⟩ wj hF
      try dsimp only at hF ⊢
      refine nx ?_
      refine pv_ 16 106 ?_
      exact nj (J2 (g7_17, g7_18) _ hF)
    intro J6
    refine join_ (σ := Nat × Nat) 5 (bt 22 425983) (fun s => [(103, .tuple #[.agg #[.bool false, .slice none 0 0, .slice none 0 0], .agg #[.bool false, .slice none 0 0, .slice none 0 0], .int .i64 220]), (90, .tuple #[.agg #[.bool false, .slice none 0 0, .slice none 0 0], .agg #[.bool false, .slice none 0 0, .slice none 0 0], .int .i64 220]), (104, .agg #[.bool false, .slice none 0 0, .slice none 0 0]), (12, .pointer (some ⟨(s.1), 0, none⟩)), (13, .pointer (some ⟨(s.2), 0, none⟩))]) (fun s w' => Bx wk6.heap.size wk6 w' [((s.1), zR), ((s.2), zR)] []) ?_ ?_
    · rintro ⟨g7_17, g7_18⟩ wj hF
      try dsimp only at hF ⊢
      refine nx ?_
      refine pv_ 15 105 ?_
      exact nj (J3 (g7_17, g7_18) _ hF)
    intro J7
    refine join_ (σ := Nat × Nat) 6 (bt 22 65535) (fun s => [(103, .tuple #[.agg #[.bool false, .slice none 0 0, .slice none 0 0], .agg #[.bool false, .slice none 0 0, .slice none 0 0], .int .i64 220]), (90, .tuple #[.agg #[.bool false, .slice none 0 0, .slice none 0 0], .agg #[.bool false, .slice none 0 0, .slice none 0 0], .int .i64 220]), (104, .agg #[.bool false, .slice none 0 0, .slice none 0 0]), (105, .agg #[.bool false, .slice none 0 0, .slice none 0 0])]) (fun s w' => Bx wk6.heap.size wk6 w' [] []) ?_ ?_
    · rintro ⟨g7_17, g7_18⟩ wj hF
      try dsimp only at hF ⊢
      refine nx ?_
      refine pv_ 16 106 ?_
      exact nj (J4 (g7_17, g7_18) _ hF)
    intro J8
    refine join_ (σ := Nat × Nat) 6 (bt 22 163839) (fun s => [(103, .tuple #[.agg #[.bool false, .slice none 0 0, .slice none 0 0], .agg #[.bool false, .slice none 0 0, .slice none 0 0], .int .i64 220]), (90, .tuple #[.agg #[.bool false, .slice none 0 0, .slice none 0 0], .agg #[.bool false, .slice none 0 0, .slice none 0 0], .int .i64 220]), (104, .agg #[.bool false, .slice none 0 0, .slice none 0 0]), (12, .pointer (some ⟨(s.1), 0, none⟩))]) (fun s w' => Bx wk6.heap.size wk6 w' [((s.1), zR)] []) ?_ ?_
    · rintro ⟨g7_17, g7_18⟩ wj hF
      try dsimp only at hF ⊢
      refine nx ?_
      refine pv_ 15 105 ?_
      exact nj (J5 (g7_17, g7_18) _ hF)
    intro J9
    refine join_ (σ := Nat × Nat) 6 (bt 22 294911) (fun s => [(103, .tuple #[.agg #[.bool false, .slice none 0 0, .slice none 0 0], .agg #[.bool false, .slice none 0 0, .slice none 0 0], .int .i64 220]), (90, .tuple #[.agg #[.bool false, .slice none 0 0, .slice none 0 0], .agg #[.bool false, .slice none 0 0, .slice none 0 0], .int .i64 220]), (104, .agg #[.bool false, .slice none 0 0, .slice none 0 0]), (13, .pointer (some ⟨(s.2), 0, none⟩))]) (fun s w' => Bx wk6.heap.size wk6 w' [((s.2), zR)] []) ?_ ?_
    · rintro ⟨g7_17, g7_18⟩ wj hF
      try dsimp only at hF ⊢
      refine nx ?_
      refine pv_ 15 105 ?_
      exact nj (J6 (g7_17, g7_18) _ hF)
    intro J10
    refine join_ (σ := Nat × Nat) 6 (bt 22 409599) (fun s => [(103, .tuple #[.agg #[.bool false, .slice none 0 0, .slice none 0 0], .agg #[.bool false, .slice none 0 0, .slice none 0 0], .int .i64 220]), (90, .tuple #[.agg #[.bool false, .slice none 0 0, .slice none 0 0], .agg #[.bool false, .slice none 0 0, .slice none 0 0], .int .i64 220]), (12, .pointer (some ⟨(s.1), 0, none⟩)), (13, .pointer (some ⟨(s.2), 0, none⟩))]) (fun s w' => Bx wk6.heap.size wk6 w' [((s.1), zR), ((s.2), zR)] []) ?_ ?_
    · rintro ⟨g7_17, g7_18⟩ wj hF
      try dsimp only at hF ⊢
      refine nx ?_
      refine pv_ 14 104 ?_
      exact nj (J7 (g7_17, g7_18) _ hF)
    intro J11
    refine join_ (σ := Nat × Nat) 7 (bt 22 32767) (fun s => [(103, .tuple #[.agg #[.bool false, .slice none 0 0, .slice none 0 0], .agg #[.bool false, .slice none 0 0, .slice none 0 0], .int .i64 220]), (90, .tuple #[.agg #[.bool false, .slice none 0 0, .slice none 0 0], .agg #[.bool false, .slice none 0 0, .slice none 0 0], .int .i64 220]), (104, .agg #[.bool false, .slice none 0 0, .slice none 0 0])]) (fun s w' => Bx wk6.heap.size wk6 w' [] []) ?_ ?_
    · rintro ⟨g7_17, g7_18⟩ wj hF
      try dsimp only at hF ⊢
      refine nx ?_
      refine pv_ 15 105 ?_
      exact nj (J8 (g7_17, g7_18) _ hF)
    intro J12
    refine join_ (σ := Nat × Nat) 7 (bt 22 147455) (fun s => [(103, .tuple #[.agg #[.bool false, .slice none 0 0, .slice none 0 0], .agg #[.bool false, .slice none 0 0, .slice none 0 0], .int .i64 220]), (90, .tuple #[.agg #[.bool false, .slice none 0 0, .slice none 0 0], .agg #[.bool false, .slice none 0 0, .slice none 0 0], .int .i64 220]), (12, .pointer (some ⟨(s.1), 0, none⟩))]) (fun s w' => Bx wk6.heap.size wk6 w' [((s.1), zR)] []) ?_ ?_
    · rintro ⟨g7_17, g7_18⟩ wj hF
      try dsimp only at hF ⊢
      refine nx ?_
      refine pv_ 14 104 ?_
      exact nj (J9 (g7_17, g7_18) _ hF)
    intro J13
    refine join_ (σ := Nat × Nat) 7 (bt 22 278527) (fun s => [(103, .tuple #[.agg #[.bool false, .slice none 0 0, .slice none 0 0], .agg #[.bool false, .slice none 0 0, .slice none 0 0], .int .i64 220]), (90, .tuple #[.agg #[.bool false, .slice none 0 0, .slice none 0 0], .agg #[.bool false, .slice none 0 0, .slice none 0 0], .int .i64 220]), (13, .pointer (some ⟨(s.2), 0, none⟩))]) (fun s w' => Bx wk6.heap.size wk6 w' [((s.2), zR)] []) ?_ ?_
    · rintro ⟨g7_17, g7_18⟩ wj hF
      try dsimp only at hF ⊢
      refine nx ?_
      refine pv_ 14 104 ?_
      exact nj (J10 (g7_17, g7_18) _ hF)
    intro J14
    refine join_ (σ := Nat × Nat) 7 (bt 22 401407) (fun s => [(103, .tuple #[.agg #[.bool false, .slice none 0 0, .slice none 0 0], .agg #[.bool false, .slice none 0 0, .slice none 0 0], .int .i64 220]), (12, .pointer (some ⟨(s.1), 0, none⟩)), (13, .pointer (some ⟨(s.2), 0, none⟩))]) (fun s w' => Bx wk6.heap.size wk6 w' [((s.1), zR), ((s.2), zR)] []) ?_ ?_
    · rintro ⟨g7_17, g7_18⟩ wj hF
      try dsimp only at hF ⊢
      refine nx ?_
      refine pv_ 13 90 ?_
      exact nj (J11 (g7_17, g7_18) _ hF)
    intro J15
    refine join_ (σ := Nat × Nat) 8 (bt 22 16383) (fun s => [(103, .tuple #[.agg #[.bool false, .slice none 0 0, .slice none 0 0], .agg #[.bool false, .slice none 0 0, .slice none 0 0], .int .i64 220]), (90, .tuple #[.agg #[.bool false, .slice none 0 0, .slice none 0 0], .agg #[.bool false, .slice none 0 0, .slice none 0 0], .int .i64 220])]) (fun s w' => Bx wk6.heap.size wk6 w' [] []) ?_ ?_
    · rintro ⟨g7_17, g7_18⟩ wj hF
      try dsimp only at hF ⊢
      refine nx ?_
      refine pv_ 14 104 ?_
      exact nj (J12 (g7_17, g7_18) _ hF)
    intro J16
    refine join_ (σ := Nat × Nat) 8 (bt 22 139263) (fun s => [(103, .tuple #[.agg #[.bool false, .slice none 0 0, .slice none 0 0], .agg #[.bool false, .slice none 0 0, .slice none 0 0], .int .i64 220]), (12, .pointer (some ⟨(s.1), 0, none⟩))]) (fun s w' => Bx wk6.heap.size wk6 w' [((s.1), zR)] []) ?_ ?_
    · rintro ⟨g7_17, g7_18⟩ wj hF
      try dsimp only at hF ⊢
      refine nx ?_
      refine pv_ 13 90 ?_
      exact nj (J13 (g7_17, g7_18) _ hF)
    intro J17
    refine join_ (σ := Nat × Nat) 8 (bt 22 270335) (fun s => [(103, .tuple #[.agg #[.bool false, .slice none 0 0, .slice none 0 0], .agg #[.bool false, .slice none 0 0, .slice none 0 0], .int .i64 220]), (13, .pointer (some ⟨(s.2), 0, none⟩))]) (fun s w' => Bx wk6.heap.size wk6 w' [((s.2), zR)] []) ?_ ?_
    · rintro ⟨g7_17, g7_18⟩ wj hF
      try dsimp only at hF ⊢
      refine nx ?_
      refine pv_ 13 90 ?_
      exact nj (J14 (g7_17, g7_18) _ hF)
    intro J18
    refine join_ (σ := Nat × Nat) 8 (bt 22 397311) (fun s => [(12, .pointer (some ⟨(s.1), 0, none⟩)), (13, .pointer (some ⟨(s.2), 0, none⟩))]) (fun s w' => Bx wk6.heap.size wk6 w' [((s.1), zR), ((s.2), zR)] []) ?_ ?_
    · rintro ⟨g7_17, g7_18⟩ wj hF
      try dsimp only at hF ⊢
      refine nx ?_
      refine o1 12 103 (bt 22 401407) ?_
      · intro K hK
        refine go_ Tryz.func17 #[.agg #[.int .u64 P0.1, .int .u64 P0.2], .agg #[.int .u64 P1.1, .int .u64 P1.2], .agg #[.int .u64 P2.1, .int .u64 P2.2], .agg #[.int .u64 P3.1, .int .u64 P3.2]] ?_
        with_reducible refine (X1.out wj).mono ?_
        rintro e w' ⟨rfl, hb⟩
        refine ⟨_, rfl, ?_⟩
        have hN := hF.keep hb
        refine hK.out _ _ (by exact (hN.m.b.block _ (HM.out.lt 2 rfl))) (fun hHeld => ?_)
        exact nj (J15 (g7_17, g7_18) _ hN)
    intro J19
    refine join_ (σ := Nat × Nat) 9 (bt 22 8191) (fun s => [(103, .tuple #[.agg #[.bool false, .slice none 0 0, .slice none 0 0], .agg #[.bool false, .slice none 0 0, .slice none 0 0], .int .i64 220])]) (fun s w' => Bx wk6.heap.size wk6 w' [] []) ?_ ?_
    · rintro ⟨g7_17, g7_18⟩ wj hF
      try dsimp only at hF ⊢
      refine nx ?_
      refine pv_ 13 90 ?_
      exact nj (J16 (g7_17, g7_18) _ hF)
    intro J20
    refine join_ (σ := Nat × Nat) 9 (bt 22 135167) (fun s => [(12, .pointer (some ⟨(s.1), 0, none⟩))]) (fun s w' => Bx wk6.heap.size wk6 w' [((s.1), zR)] []) ?_ ?_
    · rintro ⟨g7_17, g7_18⟩ wj hF
      try dsimp only at hF ⊢
      refine nx ?_
      refine o2 12 103 18 13 (bt 22 139263) (bt 22 397311) ?_ ?_
      · intro K hK
        refine go_ Tryz.func17 #[.agg #[.int .u64 P0.1, .int .u64 P0.2], .agg #[.int .u64 P1.1, .int .u64 P1.2], .agg #[.int .u64 P2.1, .int .u64 P2.2], .agg #[.int .u64 P3.1, .int .u64 P3.2]] ?_
        with_reducible refine (X1.out wj).mono ?_
        rintro e w' ⟨rfl, hb⟩
        refine ⟨_, rfl, ?_⟩
        have hN := hF.keep hb
        refine hK.out _ _ (by exact (hN.m.b.block _ (HM.out.lt 2 rfl))) (fun hHeld => ?_)
        exact nj (J17 (g7_17, g7_18) _ hN)
      · intro K hK
        refine al_ (.cells #[.bool false, .slice none 0 0, .slice none 0 0] 45) ?_
        have hN := hF.alloc zR
        refine hK.out _ _ (by exact (hN.m.b.block _ (HM.out.lt 2 rfl))) (fun hHeld => ?_)
        exact nj (J19 (g7_17, wj.heap.size) _ hN)
    intro J21
    refine join_ (σ := Nat × Nat) 9 (bt 22 266239) (fun s => [(13, .pointer (some ⟨(s.2), 0, none⟩))]) (fun s w' => Bx wk6.heap.size wk6 w' [((s.2), zR)] []) ?_ ?_
    · rintro ⟨g7_17, g7_18⟩ wj hF
      try dsimp only at hF ⊢
      refine nx ?_
      refine o2 12 103 17 12 (bt 22 270335) (bt 22 397311) ?_ ?_
      · intro K hK
        refine go_ Tryz.func17 #[.agg #[.int .u64 P0.1, .int .u64 P0.2], .agg #[.int .u64 P1.1, .int .u64 P1.2], .agg #[.int .u64 P2.1, .int .u64 P2.2], .agg #[.int .u64 P3.1, .int .u64 P3.2]] ?_
        with_reducible refine (X1.out wj).mono ?_
        rintro e w' ⟨rfl, hb⟩
        refine ⟨_, rfl, ?_⟩
        have hN := hF.keep hb
        refine hK.out _ _ (by exact (hN.m.b.block _ (HM.out.lt 2 rfl))) (fun hHeld => ?_)
        exact nj (J18 (g7_17, g7_18) _ hN)
      · intro K hK
        refine al_ (.cells #[.bool false, .slice none 0 0, .slice none 0 0] 45) ?_
        have hN := hF.alloc zR
        have hN := hN.sel (L' := [(wj.heap.size, zR), (g7_18, zR)]) (R' := []) (fun i => [1, 0].getD i i) (fun i x e => match i, e with | 0, e => e | 1, e => e) (fun i j hi hj => (show ∀ i, i < 2 → ∀ j, j < 2 → [1, 0].getD i i = [1, 0].getD j j → i = j by decide) i hi j hj) (by first | exact fun x h => h | (simp only [List.nil_append, List.cons_append, List.mem_cons]; grind))
        refine hK.out _ _ (by exact (hN.m.b.block _ (HM.out.lt 2 rfl))) (fun hHeld => ?_)
        exact nj (J19 (wj.heap.size, g7_18) _ hN)
    intro J22
    refine join_ (σ := Nat × Nat) 10 (bt 22 4095) (fun s => []) (fun s w' => Bx wk6.heap.size wk6 w' [] []) ?_ ?_
    · rintro ⟨g7_17, g7_18⟩ wj hF
      try dsimp only at hF ⊢
      refine nx ?_
      refine o3 12 103 17 12 18 13 (bt 22 8191) (bt 22 135167) (bt 22 266239) ?_ ?_ ?_
      · intro K hK
        refine go_ Tryz.func17 #[.agg #[.int .u64 P0.1, .int .u64 P0.2], .agg #[.int .u64 P1.1, .int .u64 P1.2], .agg #[.int .u64 P2.1, .int .u64 P2.2], .agg #[.int .u64 P3.1, .int .u64 P3.2]] ?_
        with_reducible refine (X1.out wj).mono ?_
        rintro e w' ⟨rfl, hb⟩
        refine ⟨_, rfl, ?_⟩
        have hN := hF.keep hb
        refine hK.out _ _ (by exact (hN.m.b.block _ (HM.out.lt 2 rfl))) (fun hHeld => ?_)
        exact nj (J20 (g7_17, g7_18) _ hN)
      · intro K hK
        refine al_ (.cells #[.bool false, .slice none 0 0, .slice none 0 0] 45) ?_
        have hN := hF.alloc zR
        refine hK.out _ _ (by exact (hN.m.b.block _ (HM.out.lt 2 rfl))) (fun hHeld => ?_)
        exact nj (J21 (wj.heap.size, g7_18) _ hN)
      · intro K hK
        refine al_ (.cells #[.bool false, .slice none 0 0, .slice none 0 0] 45) ?_
        have hN := hF.alloc zR
        refine hK.out _ _ (by exact (hN.m.b.block _ (HM.out.lt 2 rfl))) (fun hHeld => ?_)
        exact nj (J22 (g7_17, wj.heap.size) _ hN)
    intro J23
    exact nj (J23 (0, 0) _ ((Bx.start _).drew))
  rintro ⟨g7_17, g7_18⟩ wj hF
  try dsimp only at hF ⊢
  refine nx ?_
  have hG := HM.out.join hF
  (try simp only [List.nil_append, List.cons_append, World.size_alloc, List.set_cons_zero, List.set_cons_succ, putsC, pB, pC, pD] at hG)
  have hHeld := And.intro True.intro (hF.m.b.block _ (HM.out.lt 2 rfl))
  clear HM hF
  refine last_ (i := 19) (N := none) (bt 22 1048575) rfl rfl (by kernel_rfl) (by decide) (fun K hK => ?_)
  obtain ⟨y0, y1, y2, y3, y4, y5⟩ := rw3 (hG.at 5 rfl)
  refine skip_ (w1 := puts (g7_17) [(0, .bool false), (1, .slice none 0 0), (2, .slice none 0 0)] wj) (by rfl) rfl ?_ ?_
  · go_simp
    rfl
  refine hK.out _ _ ?_
  clear hK K y0 y1 y2 y3 y4 y5
  replace hG := hG.puts 5 rfl (by decide) [(0, .bool false), (1, .slice none 0 0), (2, .slice none 0 0)]
  (try simp only [List.nil_append, List.cons_append, World.size_alloc, List.set_cons_zero, List.set_cons_succ, putsC, pB, pC, pD] at hG)
  generalize puts (g7_17) _ wj = wk8 at *
  refine last_ (i := 20) (N := none) (bt 22 2097151) rfl rfl (by kernel_rfl) (by decide) (fun K hK => ?_)
  obtain ⟨y0, y1, y2, y3, y4, y5⟩ := rw3 (hG.at 6 rfl)
  refine skip_ (w1 := puts (g7_18) [(0, .bool false), (1, .slice none 0 0), (2, .slice none 0 0)] wk8) (by rfl) rfl ?_ ?_
  · go_simp
    rfl
  refine hK.out _ _ ?_
  clear hK K y0 y1 y2 y3 y4 y5
  replace hG := hG.puts 6 rfl (by decide) [(0, .bool false), (1, .slice none 0 0), (2, .slice none 0 0)]
  (try simp only [List.nil_append, List.cons_append, World.size_alloc, List.set_cons_zero, List.set_cons_succ, putsC, pB, pC, pD] at hG)
  generalize puts (g7_18) _ wk8 = wk9 at *
  refine pv_ 21 14 ?_
  refine done_ (by kernel_rfl) ?_
  (try simp only [List.nil_append, List.cons_append, World.size_alloc, List.set_cons_zero, List.set_cons_succ, putsC, pB, pC, pD] at hG)
  have HM := Lib.hid hG
  clear hG hHeld
  go_upto_region 13 with (fail)
  as_aux_lemma =>
  refine start_ (n := 19) (S := fun w' => w'.heap[v1.heap.size]? = wk9.heap[v1.heap.size]?) (ds := [16, 17]) (bt 19 0) (by kernel_rfl) rfl rfl (rfl) (fun hHeld => ?_)
  refine pv_ 0 108 ?_
  refine pv_ 1 109 ?_
  refine ld_ 2 110 ?_ hHeld ?_ ?_; rotate_left
  · rintro w' hs
    obtain ⟨q0, q1, q2, q3, q4, q5, q6, q7, q8, q9, q10, q11, q12, q13, q14, q15⟩ := rw8 ((hs).trans (HM.out.at 2 rfl))
    clear hs
    go_simp; with_reducible rfl
  refine pv_ 3 111 ?_
  refine pv_ 4 112 ?_
  refine ld_ 5 113 ?_ hHeld ?_ ?_; rotate_left
  · rintro w' hs
    obtain ⟨q0, q1, q2, q3, q4, q5, q6, q7, q8, q9, q10, q11, q12, q13, q14, q15⟩ := rw8 ((hs).trans (HM.out.at 2 rfl))
    clear hs
    go_simp; with_reducible rfl
  refine pv_ 6 114 ?_
  refine pv_ 7 115 ?_
  refine ld_ 8 116 ?_ hHeld ?_ ?_; rotate_left
  · rintro w' hs
    obtain ⟨q0, q1, q2, q3, q4, q5, q6, q7, q8, q9, q10, q11, q12, q13, q14, q15⟩ := rw8 ((hs).trans (HM.out.at 2 rfl))
    clear hs
    go_simp; with_reducible rfl
  refine join_ (σ := Nat × Nat) 3 (bt 19 65535) (fun s => [(117, .tuple #[.agg #[.bool false, .slice none 0 0, .slice none 0 0], .agg #[.bool false, .slice none 0 0, .slice none 0 0], .int .i64 220]), (107, .tuple #[.agg #[.bool false, .slice none 0 0, .slice none 0 0], .agg #[.bool false, .slice none 0 0, .slice none 0 0], .int .i64 220]), (118, .agg #[.bool false, .slice none 0 0, .slice none 0 0]), (119, .agg #[.bool false, .slice none 0 0, .slice none 0 0]), (120, .int .i64 220), (15, .pointer (some ⟨(s.1), 0, none⟩)), (16, .pointer (some ⟨(s.2), 0, none⟩))]) (fun s w' => Bx wk9.heap.size wk9 w' [((s.1), zR), ((s.2), zR)] []) ?_ ?_
  rotate_left
  · intro J0
    refine join_ (σ := Nat × Nat) 4 (bt 19 32767) (fun s => [(117, .tuple #[.agg #[.bool false, .slice none 0 0, .slice none 0 0], .agg #[.bool false, .slice none 0 0, .slice none 0 0], .int .i64 220]), (107, .tuple #[.agg #[.bool false, .slice none 0 0, .slice none 0 0], .agg #[.bool false, .slice none 0 0, .slice none 0 0], .int .i64 220]), (118, .agg #[.bool false, .slice none 0 0, .slice none 0 0]), (119, .agg #[.bool false, .slice none 0 0, .slice none 0 0]), (120, .int .i64 220), (15, .pointer (some ⟨(s.1), 0, none⟩))]) (fun s w' => Bx wk9.heap.size wk9 w' [((s.1), zR)] []) ?_ ?_
    · rintro ⟨g10_14, g10_15⟩ wj hF
      try dsimp only at hF ⊢
      refine nx ?_
      refine o1 15 16 (bt 19 65535) ?_
      · intro K hK
        refine al_ (.cells #[.bool false, .slice none 0 0, .slice none 0 0] 45) ?_
        have hN := hF.alloc zR
        refine hK.out _ _ (by exact (hN.m.b.block _ (HM.out.lt 2 rfl))) (fun hHeld => ?_)
        exact nj (J0 (g10_14, wj.heap.size) _ hN)
    intro J1
    refine join_ (σ := Nat × Nat) 4 (bt 19 49151) (fun s => [(117, .tuple #[.agg #[.bool false, .slice none 0 0, .slice none 0 0], .agg #[.bool false, .slice none 0 0, .slice none 0 0], .int .i64 220]), (107, .tuple #[.agg #[.bool false, .slice none 0 0, .slice none 0 0], .agg #[.bool false, .slice none 0 0, .slice none 0 0], .int .i64 220]), (118, .agg #[.bool false, .slice none 0 0, .slice none 0 0]), (119, .agg #[.bool false, .slice none 0 0, .slice none 0 0]), (120, .int .i64 220), (16, .pointer (some ⟨(s.2), 0, none⟩))]) (fun s w' => Bx wk9.heap.size wk9 w' [((s.2), zR)] []) ?_ ?_
    · rintro ⟨g10_14, g10_15⟩ wj hF
      try dsimp only at hF ⊢
      refine nx ?_
      refine o1 14 15 (bt 19 65535) ?_
      · intro K hK
        refine al_ (.cells #[.bool false, .slice none 0 0, .slice none 0 0] 45) ?_
        have hN := hF.alloc zR
        have hN := hN.sel (L' := [(wj.heap.size, zR), (g10_15, zR)]) (R' := []) (fun i => [1, 0].getD i i) (fun i x e => match i, e with | 0, e => e | 1, e => e) (fun i j hi hj => (show ∀ i, i < 2 → ∀ j, j < 2 → [1, 0].getD i i = [1, 0].getD j j → i = j by decide) i hi j hj) (by first | exact fun x h => h | (simp only [List.nil_append, List.cons_append, List.mem_cons]; grind))
        refine hK.out _ _ (by exact (hN.m.b.block _ (HM.out.lt 2 rfl))) (fun hHeld => ?_)
        exact nj (J0 (wj.heap.size, g10_15) _ hN)
    intro J2
    refine join_ (σ := Nat × Nat) 4 (bt 19 57343) (fun s => [(117, .tuple #[.agg #[.bool false, .slice none 0 0, .slice none 0 0], .agg #[.bool false, .slice none 0 0, .slice none 0 0], .int .i64 220]), (107, .tuple #[.agg #[.bool false, .slice none 0 0, .slice none 0 0], .agg #[.bool false, .slice none 0 0, .slice none 0 0], .int .i64 220]), (118, .agg #[.bool false, .slice none 0 0, .slice none 0 0]), (119, .agg #[.bool false, .slice none 0 0, .slice none 0 0]), (15, .pointer (some ⟨(s.1), 0, none⟩)), (16, .pointer (some ⟨(s.2), 0, none⟩))]) (fun s w' => Bx wk9.heap.size wk9 w' [((s.1), zR), ((s.2), zR)] []) ?_ ?_
    · rintro ⟨g10_14, g10_15⟩ wj hF
      try dsimp only at hF ⊢
      refine nx ?_
      refine pv_ 13 120 ?_
      exact nj (J0 (g10_14, g10_15) _ hF)
    intro J3
    refine join_ (σ := Nat × Nat) 5 (bt 19 16383) (fun s => [(117, .tuple #[.agg #[.bool false, .slice none 0 0, .slice none 0 0], .agg #[.bool false, .slice none 0 0, .slice none 0 0], .int .i64 220]), (107, .tuple #[.agg #[.bool false, .slice none 0 0, .slice none 0 0], .agg #[.bool false, .slice none 0 0, .slice none 0 0], .int .i64 220]), (118, .agg #[.bool false, .slice none 0 0, .slice none 0 0]), (119, .agg #[.bool false, .slice none 0 0, .slice none 0 0]), (120, .int .i64 220)]) (fun s w' => Bx wk9.heap.size wk9 w' [] []) ?_ ?_
    · rintro ⟨g10_14, g10_15⟩ wj hF
      try dsimp only at hF ⊢
      refine nx ?_
      refine o2 14 15 15 16 (bt 19 32767) (bt 19 49151) ?_ ?_
      · intro K hK
        refine al_ (.cells #[.bool false, .slice none 0 0, .slice none 0 0] 45) ?_
        have hN := hF.alloc zR
        refine hK.out _ _ (by exact (hN.m.b.block _ (HM.out.lt 2 rfl))) (fun hHeld => ?_)
        exact nj (J1 (wj.heap.size, g10_15) _ hN)
      · intro K hK
        refine al_ (.cells #[.bool false, .slice none 0 0, .slice none 0 0] 45) ?_
        have hN := hF.alloc zR
        refine hK.out _ _ (by exact (hN.m.b.block _ (HM.out.lt 2 rfl))) (fun hHeld => ?_)
        exact nj (J2 (g10_14, wj.heap.size) _ hN)
    intro J4
    refine join_ (σ := Nat × Nat) 5 (bt 19 24575) (fun s => [(117, .tuple #[.agg #[.bool false, .slice none 0 0, .slice none 0 0], .agg #[.bool false, .slice none 0 0, .slice none 0 0], .int .i64 220]), (107, .tuple #[.agg #[.bool false, .slice none 0 0, .slice none 0 0], .agg #[.bool false, .slice none 0 0, .slice none 0 0], .int .i64 220]), (118, .agg #[.bool false, .slice none 0 0, .slice none 0 0]), (119, .agg #[.bool false, .slice none 0 0, .slice none 0 0]), (15, .pointer (some ⟨(s.1), 0, none⟩))]) (fun s w' => Bx wk9.heap.size wk9 w' [((s.1), zR)] []) ?_ ?_
    · rintro ⟨g10_14, g10_15⟩ wj hF
      try dsimp only at hF ⊢
      refine nx ?_
      refine pv_ 13 120 ?_
      exact nj (J1 (g10_14, g10_15) _ hF)
    intro J5
    refine join_ (σ := Nat × Nat) 5 (bt 19 40959) (fun s => [(117, .tuple #[.agg #[.bool false, .slice none 0 0, .slice none 0 0], .agg #[.bool false, .slice none 0 0, .slice none 0 0], .int .i64 220]), (107, .tuple #[.agg #[.bool false, .slice none 0 0, .slice none 0 0], .agg #[.bool false, .slice none 0 0, .slice none 0 0], .int .i64 220]), (118, .agg #[.bool false, .slice none 0 0, .slice none 0 0]), (119, .agg #[.bool false, .slice none 0 0, .slice none 0 0]), (16, .pointer (some ⟨(s.2), 0, none⟩))]) (fun s w' => Bx wk9.heap.size wk9 w' [((s.2), zR)] []) ?_ ?_
    · rintro ⟨g10_14, g10_15⟩ wj hF
      try dsimp only at hF ⊢
      refine nx ?_
      refine pv_ 13 120 ?_
      exact nj (J2 (g10_14, g10_15) _ hF)
    intro J6
    refine join_ (σ := Nat × Nat) 5 (bt 19 53247) (fun s => [(117, .tuple #[.agg #[.bool false, .slice none 0 0, .slice none 0 0], .agg #[.bool false, .slice none 0 0, .slice none 0 0], .int .i64 220]), (107, .tuple #[.agg #[.bool false, .slice none 0 0, .slice none 0 0], .agg #[.bool false, .slice none 0 0, .slice none 0 0], .int .i64 220]), (118, .agg #[.bool false, .slice none 0 0, .slice none 0 0]), (15, .pointer (some ⟨(s.1), 0, none⟩)), (16, .pointer (some ⟨(s.2), 0, none⟩))]) (fun s w' => Bx wk9.heap.size wk9 w' [((s.1), zR), ((s.2), zR)] []) ?_ ?_
    · rintro ⟨g10_14, g10_15⟩ wj hF
      try dsimp only at hF ⊢
      refine nx ?_
      refine pv_ 12 119 ?_
      exact nj (J3 (g10_14, g10_15) _ hF)
    intro J7
    refine join_ (σ := Nat × Nat) 6 (bt 19 8191) (fun s => [(117, .tuple #[.agg #[.bool false, .slice none 0 0, .slice none 0 0], .agg #[.bool false, .slice none 0 0, .slice none 0 0], .int .i64 220]), (107, .tuple #[.agg #[.bool false, .slice none 0 0, .slice none 0 0], .agg #[.bool false, .slice none 0 0, .slice none 0 0], .int .i64 220]), (118, .agg #[.bool false, .slice none 0 0, .slice none 0 0]), (119, .agg #[.bool false, .slice none 0 0, .slice none 0 0])]) (fun s w' => Bx wk9.heap.size wk9 w' [] []) ?_ ?_
    · rintro ⟨g10_14, g10_15⟩ wj hF
      try dsimp only at hF ⊢
      refine nx ?_
      refine pv_ 13 120 ?_
      exact nj (J4 (g10_14, g10_15) _ hF)
    intro J8
    refine join_ (σ := Nat × Nat) 6 (bt 19 20479) (fun s => [(117, .tuple #[.agg #[.bool false, .slice none 0 0, .slice none 0 0], .agg #[.bool false, .slice none 0 0, .slice none 0 0], .int .i64 220]), (107, .tuple #[.agg #[.bool false, .slice none 0 0, .slice none 0 0], .agg #[.bool false, .slice none 0 0, .slice none 0 0], .int .i64 220]), (118, .agg #[.bool false, .slice none 0 0, .slice none 0 0]), (15, .pointer (some ⟨(s.1), 0, none⟩))]) (fun s w' => Bx wk9.heap.size wk9 w' [((s.1), zR)] []) ?_ ?_
    · rintro ⟨g10_14, g10_15⟩ wj hF
      try dsimp only at hF ⊢
      refine nx ?_
      refine pv_ 12 119 ?_
      exact nj (J5 (g10_14, g10_15) _ hF)
    intro J9
    refine join_ (σ := Nat × Nat) 6 (bt 19 36863) (fun s => [(117, .tuple #[.agg #[.bool false, .slice none 0 0, .slice none 0 0], .agg #[.bool false, .slice none 0 0, .slice none 0 0], .int .i64 220]), (107, .tuple #[.agg #[.bool false, .slice none 0 0, .slice none 0 0], .agg #[.bool false, .slice none 0 0, .slice none 0 0], .int .i64 220]), (118, .agg #[.bool false, .slice none 0 0, .slice none 0 0]), (16, .pointer (some ⟨(s.2), 0, none⟩))]) (fun s w' => Bx wk9.heap.size wk9 w' [((s.2), zR)] []) ?_ ?_
    · rintro ⟨g10_14, g10_15⟩ wj hF
      try dsimp only at hF ⊢
      refine nx ?_
      refine pv_ 12 119 ?_
      exact nj (J6 (g10_14, g10_15) _ hF)
    intro J10
    refine join_ (σ := Nat × Nat) 6 (bt 19 51199) (fun s => [(117, .tuple #[.agg #[.bool false, .slice none 0 0, .slice none 0 0], .agg #[.bool false, .slice none 0 0, .slice none 0 0], .int .i64 220]), (107, .tuple #[.agg #[.bool false, .slice none 0 0, .slice none 0 0], .agg #[.bool false, .slice none 0 0, .slice none 0 0], .int .i64 220]), (15, .pointer (some ⟨(s.1), 0, none⟩)), (16, .pointer (some ⟨(s.2), 0, none⟩))]) (fun s w' => Bx wk9.heap.size wk9 w' [((s.1), zR), ((s.2), zR)] []) ?_ ?_
    · rintro ⟨g10_14, g10_15⟩ wj hF
      try dsimp only at hF ⊢
      refine nx ?_
      refine pv_ 11 118 ?_
      exact nj (J7 (g10_14, g10_15) _ hF)
    intro J11
    refine join_ (σ := Nat × Nat) 7 (bt 19 4095) (fun s => [(117, .tuple #[.agg #[.bool false, .slice none 0 0, .slice none 0 0], .agg #[.bool false, .slice none 0 0, .slice none 0 0], .int .i64 220]), (107, .tuple #[.agg #[.bool false, .slice none 0 0, .slice none 0 0], .agg #[.bool false, .slice none 0 0, .slice none 0 0], .int .i64 220]), (118, .agg #[.bool false, .slice none 0 0, .slice none 0 0])]) (fun s w' => Bx wk9.heap.size wk9 w' [] []) ?_ ?_
    · rintro ⟨g10_14, g10_15⟩ wj hF
      try dsimp only at hF ⊢
      refine nx ?_
      refine pv_ 12 119 ?_
      exact nj (J8 (g10_14, g10_15) _ hF)
    intro J12
    refine join_ (σ := Nat × Nat) 7 (bt 19 18431) (fun s => [(117, .tuple #[.agg #[.bool false, .slice none 0 0, .slice none 0 0], .agg #[.bool false, .slice none 0 0, .slice none 0 0], .int .i64 220]), (107, .tuple #[.agg #[.bool false, .slice none 0 0, .slice none 0 0], .agg #[.bool false, .slice none 0 0, .slice none 0 0], .int .i64 220]), (15, .pointer (some ⟨(s.1), 0, none⟩))]) (fun s w' => Bx wk9.heap.size wk9 w' [((s.1), zR)] []) ?_ ?_
    · rintro ⟨g10_14, g10_15⟩ wj hF
      try dsimp only at hF ⊢
      refine nx ?_
      refine pv_ 11 118 ?_
      exact nj (J9 (g10_14, g10_15) _ hF)
    intro J13
    refine join_ (σ := Nat × Nat) 7 (bt 19 34815) (fun s => [(117, .tuple #[.agg #[.bool false, .slice none 0 0, .slice none 0 0], .agg #[.bool false, .slice none 0 0, .slice none 0 0], .int .i64 220]), (107, .tuple #[.agg #[.bool false, .slice none 0 0, .slice none 0 0], .agg #[.bool false, .slice none 0 0, .slice none 0 0], .int .i64 220]), (16, .pointer (some ⟨(s.2), 0, none⟩))]) (fun s w' => Bx wk9.heap.size wk9 w' [((s.2), zR)] []) ?_ ?_
    · rintro ⟨g10_14, g10_15⟩ wj hF
      try dsimp only at hF ⊢
      refine nx ?_
      refine pv_ 11 118 ?_
      exact nj (J10 (g10_14, g10_15) _ hF)
    intro J14
    refine join_ (σ := Nat × Nat) 7 (bt 19 50175) (fun s => [(117, .tuple #[.agg #[.bool false, .slice none 0 0, .slice none 0 0], .agg #[.bool false, .slice none 0 0, .slice none 0 0], .int .i64 220]), (15, .pointer (some ⟨(s.1), 0, none⟩)), (16, .pointer (some ⟨(s.2), 0, none⟩))]) (fun s w' => Bx wk9.heap.size wk9 w' [((s.1), zR), ((s.2), zR)] []) ?_ ?_
    · rintro ⟨g10_14, g10_15⟩ wj hF
      try dsimp only at hF ⊢
      refine nx ?_
      refine pv_ 10 107 ?_
      exact nj (J11 (g10_14, g10_15) _ hF)
    intro J15
    refine join_ (σ := Nat × Nat) 8 (bt 19 2047) (fun s => [(117, .tuple #[.agg #[.bool false, .slice none 0 0, .slice none 0 0], .agg #[.bool false, .slice none 0 0, .slice none 0 0], .int .i64 220]), (107, .tuple #[.agg #[.bool false, .slice none 0 0, .slice none 0 0], .agg #[.bool false, .slice none 0 0, .slice none 0 0], .int .i64 220])]) (fun s w' => Bx wk9.heap.size wk9 w' [] []) ?_ ?_
    · rintro ⟨g10_14, g10_15⟩ wj hF
      try dsimp only at hF ⊢
      refine nx ?_
      refine pv_ 11 118 ?_
      exact nj (J12 (g10_14, g10_15) _ hF)
    intro J16
    refine join_ (σ := Nat × Nat) 8 (bt 19 17407) (fun s => [(117, .tuple #[.agg #[.bool false, .slice none 0 0, .slice none 0 0], .agg #[.bool false, .slice none 0 0, .slice none 0 0], .int .i64 220]), (15, .pointer (some ⟨(s.1), 0, none⟩))]) (fun s w' => Bx wk9.heap.size wk9 w' [((s.1), zR)] []) ?_ ?_
    · rintro ⟨g10_14, g10_15⟩ wj hF
      try dsimp only at hF ⊢
      refine nx ?_
      refine pv_ 10 107 ?_
      exact nj (J13 (g10_14, g10_15) _ hF)
    intro J17
    refine join_ (σ := Nat × Nat) 8 (bt 19 33791) (fun s => [(117, .tuple #[.agg #[.bool false, .slice none 0 0, .slice none 0 0], .agg #[.bool false, .slice none 0 0, .slice none 0 0], .int .i64 220]), (16, .pointer (some ⟨(s.2), 0, none⟩))]) (fun s w' => Bx wk9.heap.size wk9 w' [((s.2), zR)] []) ?_ ?_
    · rintro ⟨g10_14, g10_15⟩ wj hF
      try dsimp only at hF ⊢
      refine nx ?_
      refine pv_ 10 107 ?_
      exact nj (J14 (g10_14, g10_15) _ hF)
    intro J18
    refine join_ (σ := Nat × Nat) 8 (bt 19 49663) (fun s => [(15, .pointer (some ⟨(s.1), 0, none⟩)), (16, .pointer (some ⟨(s.2), 0, none⟩))]) (fun s w' => Bx wk9.heap.size wk9 w' [((s.1), zR), ((s.2), zR)] []) ?_ ?_
    · rintro ⟨g10_14, g10_15⟩ wj hF
      try dsimp only at hF ⊢
      refine nx ?_
      refine o1 9 117 (bt 19 50175) ?_
      · intro K hK
        refine go_ Tryz.func26 #[.agg #[.int .u64 P0.1, .int .u64 P0.2], .agg #[.int .u64 P1.1, .int .u64 P1.2], .agg #[.int .u64 P2.1, .int .u64 P2.2]] ?_
        with_reducible refine (F1.out wj).mono ?_
        rintro e w' ⟨rfl, hb⟩
        refine ⟨_, rfl, ?_⟩
        have hN := hF.keep hb
        refine hK.out _ _ (by exact (hN.m.b.block _ (HM.out.lt 2 rfl))) (fun hHeld => ?_)
        exact nj (J15 (g10_14, g10_15) _ hN)
    intro J19
    refine join_ (σ := Nat × Nat) 9 (bt 19 1023) (fun s => [(117, .tuple #[.agg #[.bool false, .slice none 0 0, .slice none 0 0], .agg #[.bool false, .slice none 0 0, .slice none 0 0], .int .i64 220])]) (fun s w' => Bx wk9.heap.size wk9 w' [] []) ?_ ?_
    · rintro ⟨g10_14, g10_15⟩ wj hF
      try dsimp only at hF ⊢
      refine nx ?_
      refine pv_ 10 107 ?_
      exact nj (J16 (g10_14, g10_15) _ hF)
    intro J20
    refine join_ (σ := Nat × Nat) 9 (bt 19 16895) (fun s => [(15, .pointer (some ⟨(s.1), 0, none⟩))]) (fun s w' => Bx wk9.heap.size wk9 w' [((s.1), zR)] []) ?_ ?_
    · rintro ⟨g10_14, g10_15⟩ wj hF
      try dsimp only at hF ⊢
      refine nx ?_
      refine o2 9 117 15 16 (bt 19 17407) (bt 19 49663) ?_ ?_
      · intro K hK
        refine go_ Tryz.func26 #[.agg #[.int .u64 P0.1, .int .u64 P0.2], .agg #[.int .u64 P1.1, .int .u64 P1.2], .agg #[.int .u64 P2.1, .int .u64 P2.2]] ?_
        with_reducible refine (F1.out wj).mono ?_
        rintro e w' ⟨rfl, hb⟩
        refine ⟨_, rfl, ?_⟩
        have hN := hF.keep hb
        refine hK.out _ _ (by exact (hN.m.b.block _ (HM.out.lt 2 rfl))) (fun hHeld => ?_)
        exact nj (J17 (g10_14, g10_15) _ hN)
      · intro K hK
        refine al_ (.cells #[.bool false, .slice none 0 0, .slice none 0 0] 45) ?_
        have hN := hF.alloc zR
        refine hK.out _ _ (by exact (hN.m.b.block _ (HM.out.lt 2 rfl))) (fun hHeld => ?_)
        exact nj (J19 (g10_14, wj.heap.size) _ hN)
    intro J21
    refine join_ (σ := Nat × Nat) 9 (bt 19 33279) (fun s => [(16, .pointer (some ⟨(s.2), 0, none⟩))]) (fun s w' => Bx wk9.heap.size wk9 w' [((s.2), zR)] []) ?_ ?_
    · rintro ⟨g10_14, g10_15⟩ wj hF
      try dsimp only at hF ⊢
      refine nx ?_
      refine o2 9 117 14 15 (bt 19 33791) (bt 19 49663) ?_ ?_
      · intro K hK
        refine go_ Tryz.func26 #[.agg #[.int .u64 P0.1, .int .u64 P0.2], .agg #[.int .u64 P1.1, .int .u64 P1.2], .agg #[.int .u64 P2.1, .int .u64 P2.2]] ?_
        with_reducible refine (F1.out wj).mono ?_
        rintro e w' ⟨rfl, hb⟩
        refine ⟨_, rfl, ?_⟩
        have hN := hF.keep hb
        refine hK.out _ _ (by exact (hN.m.b.block _ (HM.out.lt 2 rfl))) (fun hHeld => ?_)
        exact nj (J18 (g10_14, g10_15) _ hN)
      · intro K hK
        refine al_ (.cells #[.bool false, .slice none 0 0, .slice none 0 0] 45) ?_
        have hN := hF.alloc zR
        have hN := hN.sel (L' := [(wj.heap.size, zR), (g10_15, zR)]) (R' := []) (fun i => [1, 0].getD i i) (fun i x e => match i, e with | 0, e => e | 1, e => e) (fun i j hi hj => (show ∀ i, i < 2 → ∀ j, j < 2 → [1, 0].getD i i = [1, 0].getD j j → i = j by decide) i hi j hj) (by first | exact fun x h => h | (simp only [List.nil_append, List.cons_append, List.mem_cons]; grind))
        refine hK.out _ _ (by exact (hN.m.b.block _ (HM.out.lt 2 rfl))) (fun hHeld => ?_)
        exact nj (J19 (wj.heap.size, g10_15) _ hN)
    intro J22
    refine join_ (σ := Nat × Nat) 10 (bt 19 511) (fun s => []) (fun s w' => Bx wk9.heap.size wk9 w' [] []) ?_ ?_
    · rintro ⟨g10_14, g10_15⟩ wj hF
      try dsimp only at hF ⊢
      refine nx ?_
      refine o3 9 117 14 15 15 16 (bt 19 1023) (bt 19 16895) (bt 19 33279) ?_ ?_ ?_
      · intro K hK
        refine go_ Tryz.func26 #[.agg #[.int .u64 P0.1, .int .u64 P0.2], .agg #[.int .u64 P1.1, .int .u64 P1.2], .agg #[.int .u64 P2.1, .int .u64 P2.2]] ?_
        with_reducible refine (F1.out wj).mono ?_
        rintro e w' ⟨rfl, hb⟩
        refine ⟨_, rfl, ?_⟩
        have hN := hF.keep hb
        refine hK.out _ _ (by exact (hN.m.b.block _ (HM.out.lt 2 rfl))) (fun hHeld => ?_)
        exact nj (J20 (g10_14, g10_15) _ hN)
      · intro K hK
        refine al_ (.cells #[.bool false, .slice none 0 0, .slice none 0 0] 45) ?_
        have hN := hF.alloc zR
        refine hK.out _ _ (by exact (hN.m.b.block _ (HM.out.lt 2 rfl))) (fun hHeld => ?_)
        exact nj (J21 (wj.heap.size, g10_15) _ hN)
      · intro K hK
        refine al_ (.cells #[.bool false, .slice none 0 0, .slice none 0 0] 45) ?_
        have hN := hF.alloc zR
        refine hK.out _ _ (by exact (hN.m.b.block _ (HM.out.lt 2 rfl))) (fun hHeld => ?_)
        exact nj (J22 (g10_14, wj.heap.size) _ hN)
    intro J23
    exact nj (J23 (0, 0) _ ((Bx.start _).drew))
  rintro ⟨g10_14, g10_15⟩ wj hF
  try dsimp only at hF ⊢
  refine nx ?_
  have hG := HM.out.join hF
  (try simp only [List.nil_append, List.cons_append, World.size_alloc, List.set_cons_zero, List.set_cons_succ, putsC, pB, pC, pD] at hG)
  have hHeld := And.intro True.intro (hF.m.b.block _ (HM.out.lt 2 rfl))
  clear HM hF
  refine last_ (i := 16) (N := none) (bt 19 131071) rfl rfl (by kernel_rfl) (by decide) (fun K hK => ?_)
  obtain ⟨y0, y1, y2, y3, y4, y5⟩ := rw3 (hG.at 7 rfl)
  refine skip_ (w1 := puts (g10_14) [(0, .bool false), (1, .slice none 0 0), (2, .slice none 0 0)] wj) (by rfl) rfl ?_ ?_
  · go_simp
    rfl
  refine hK.out _ _ ?_
  clear hK K y0 y1 y2 y3 y4 y5
  replace hG := hG.puts 7 rfl (by decide) [(0, .bool false), (1, .slice none 0 0), (2, .slice none 0 0)]
  (try simp only [List.nil_append, List.cons_append, World.size_alloc, List.set_cons_zero, List.set_cons_succ, putsC, pB, pC, pD] at hG)
  generalize puts (g10_14) _ wj = wk11 at *
  refine last_ (i := 17) (N := none) (bt 19 262143) rfl rfl (by kernel_rfl) (by decide) (fun K hK => ?_)
  obtain ⟨y0, y1, y2, y3, y4, y5⟩ := rw3 (hG.at 8 rfl)
  refine skip_ (w1 := puts (g10_15) [(0, .bool false), (1, .slice none 0 0), (2, .slice none 0 0)] wk11) (by rfl) rfl ?_ ?_
  · go_simp
    rfl
  refine hK.out _ _ ?_
  clear hK K y0 y1 y2 y3 y4 y5
  replace hG := hG.puts 8 rfl (by decide) [(0, .bool false), (1, .slice none 0 0), (2, .slice none 0 0)]
  (try simp only [List.nil_append, List.cons_append, World.size_alloc, List.set_cons_zero, List.set_cons_succ, putsC, pB, pC, pD] at hG)
  generalize puts (g10_15) _ wk11 = wk12 at *
  refine pv_ 18 17 ?_
  refine done_ (by kernel_rfl) ?_
  (try simp only [List.nil_append, List.cons_append, World.size_alloc, List.set_cons_zero, List.set_cons_succ, putsC, pB, pC, pD] at hG)
  have HM := Lib.hid hG
  clear hG hHeld
  go_upto_region 14 with (fail)
  as_aux_lemma =>
  refine start_ (n := 16) (S := fun w' => w'.heap[v1.heap.size]? = wk12.heap[v1.heap.size]?) (ds := [14]) (bt 16 0) (by kernel_rfl) rfl rfl (rfl) (fun hHeld => ?_)
  refine pv_ 0 122 ?_
  refine pv_ 1 123 ?_
  refine ld_ 2 124 ?_ hHeld ?_ ?_; rotate_left
  · rintro w' hs
    obtain ⟨q0, q1, q2, q3, q4, q5, q6, q7, q8, q9, q10, q11, q12, q13, q14, q15⟩ := rw8 ((hs).trans (HM.out.at 2 rfl))
    clear hs
    go_simp; with_reducible rfl
  refine pv_ 3 125 ?_
  refine pv_ 4 126 ?_
  refine ld_ 5 127 ?_ hHeld ?_ ?_; rotate_left
  · rintro w' hs
    obtain ⟨q0, q1, q2, q3, q4, q5, q6, q7, q8, q9, q10, q11, q12, q13, q14, q15⟩ := rw8 ((hs).trans (HM.out.at 2 rfl))
    clear hs
    go_simp; with_reducible rfl
  refine pv_ 6 128 ?_
  refine pv_ 7 129 ?_
  refine ld_ 8 130 ?_ hHeld ?_ ?_; rotate_left
  · rintro w' hs
    obtain ⟨q0, q1, q2, q3, q4, q5, q6, q7, q8, q9, q10, q11, q12, q13, q14, q15⟩ := rw8 ((hs).trans (HM.out.at 2 rfl))
    clear hs
    go_simp; with_reducible rfl
  refine join_ (σ := Nat) 2 (bt 16 16383) (fun s => [(131, .tuple #[.agg #[.bool false, .slice none 0 0, .slice none 0 0], .int .i64 220]), (121, .tuple #[.agg #[.bool false, .slice none 0 0, .slice none 0 0], .int .i64 220]), (132, .agg #[.bool false, .slice none 0 0, .slice none 0 0]), (133, .int .i64 220), (18, .pointer (some ⟨(s), 0, none⟩))]) (fun s w' => Bx wk12.heap.size wk12 w' [((s), zR)] []) ?_ ?_
  rotate_left
  · intro J0
    refine join_ (σ := Nat) 3 (bt 16 8191) (fun s => [(131, .tuple #[.agg #[.bool false, .slice none 0 0, .slice none 0 0], .int .i64 220]), (121, .tuple #[.agg #[.bool false, .slice none 0 0, .slice none 0 0], .int .i64 220]), (132, .agg #[.bool false, .slice none 0 0, .slice none 0 0]), (133, .int .i64 220)]) (fun s w' => Bx wk12.heap.size wk12 w' [] []) ?_ ?_
    · rintro g13_13 wj hF
      try dsimp only at hF ⊢
      refine nx ?_
      refine o1 13 18 (bt 16 16383) ?_
      · intro K hK
        refine al_ (.cells #[.bool false, .slice none 0 0, .slice none 0 0] 45) ?_
        have hN := hF.alloc zR
        refine hK.out _ _ (by exact (hN.m.b.block _ (HM.out.lt 2 rfl))) (fun hHeld => ?_)
        exact nj (J0 (wj.heap.size) _ hN)
    intro J1
    refine join_ (σ := Nat) 3 (bt 16 12287) (fun s => [(131, .tuple #[.agg #[.bool false, .slice none 0 0, .slice none 0 0], .int .i64 220]), (121, .tuple #[.agg #[.bool false, .slice none 0 0, .slice none 0 0], .int .i64 220]), (132, .agg #[.bool false, .slice none 0 0, .slice none 0 0]), (18, .pointer (some ⟨(s), 0, none⟩))]) (fun s w' => Bx wk12.heap.size wk12 w' [((s), zR)] []) ?_ ?_
    · rintro g13_13 wj hF
      try dsimp only at hF ⊢
      refine nx ?_
      refine pv_ 12 133 ?_
      exact nj (J0 (g13_13) _ hF)
    intro J2
    refine join_ (σ := Nat) 4 (bt 16 4095) (fun s => [(131, .tuple #[.agg #[.bool false, .slice none 0 0, .slice none 0 0], .int .i64 220]), (121, .tuple #[.agg #[.bool false, .slice none 0 0, .slice none 0 0], .int .i64 220]), (132, .agg #[.bool false, .slice none 0 0, .slice none 0 0])]) (fun s w' => Bx wk12.heap.size wk12 w' [] []) ?_ ?_
    · rintro g13_13 wj hF
      try dsimp only at hF ⊢
      refine nx ?_
      refine pv_ 12 133 ?_
      exact nj (J1 (g13_13) _ hF)
    intro J3
    refine join_ (σ := Nat) 4 (bt 16 10239) (fun s => [(131, .tuple #[.agg #[.bool false, .slice none 0 0, .slice none 0 0], .int .i64 220]), (121, .tuple #[.agg #[.bool false, .slice none 0 0, .slice none 0 0], .int .i64 220]), (18, .pointer (some ⟨(s), 0, none⟩))]) (fun s w' => Bx wk12.heap.size wk12 w' [((s), zR)] []) ?_ ?_
    · rintro g13_13 wj hF
      try dsimp only at hF ⊢
      refine nx ?_
      refine pv_ 11 132 ?_
      exact nj (J2 (g13_13) _ hF)
    intro J4
    refine join_ (σ := Nat) 5 (bt 16 2047) (fun s => [(131, .tuple #[.agg #[.bool false, .slice none 0 0, .slice none 0 0], .int .i64 220]), (121, .tuple #[.agg #[.bool false, .slice none 0 0, .slice none 0 0], .int .i64 220])]) (fun s w' => Bx wk12.heap.size wk12 w' [] []) ?_ ?_
    · rintro g13_13 wj hF
      try dsimp only at hF ⊢
      refine nx ?_
      refine pv_ 11 132 ?_
      exact nj (J3 (g13_13) _ hF)
    intro J5
    refine join_ (σ := Nat) 5 (bt 16 9215) (fun s => [(131, .tuple #[.agg #[.bool false, .slice none 0 0, .slice none 0 0], .int .i64 220]), (18, .pointer (some ⟨(s), 0, none⟩))]) (fun s w' => Bx wk12.heap.size wk12 w' [((s), zR)] []) ?_ ?_
    · rintro g13_13 wj hF
      try dsimp only at hF ⊢
      refine nx ?_
      refine pv_ 10 121 ?_
      exact nj (J4 (g13_13) _ hF)
    intro J6
    refine join_ (σ := Nat) 6 (bt 16 1023) (fun s => [(131, .tuple #[.agg #[.bool false, .slice none 0 0, .slice none 0 0], .int .i64 220])]) (fun s w' => Bx wk12.heap.size wk12 w' [] []) ?_ ?_
    · rintro g13_13 wj hF
      try dsimp only at hF ⊢
      refine nx ?_
      refine pv_ 10 121 ?_
      exact nj (J5 (g13_13) _ hF)
    intro J7
    refine join_ (σ := Nat) 6 (bt 16 8703) (fun s => [(18, .pointer (some ⟨(s), 0, none⟩))]) (fun s w' => Bx wk12.heap.size wk12 w' [((s), zR)] []) ?_ ?_
    · rintro g13_13 wj hF
      try dsimp only at hF ⊢
      refine nx ?_
      refine o1 9 131 (bt 16 9215) ?_
      · intro K hK
        refine go_ Tryz.func27 #[.agg #[.int .u64 P0.1, .int .u64 P0.2], .agg #[.int .u64 P1.1, .int .u64 P1.2], .agg #[.int .u64 P2.1, .int .u64 P2.2]] ?_
        with_reducible refine (R1.out wj).mono ?_
        rintro e w' ⟨rfl, hb⟩
        refine ⟨_, rfl, ?_⟩
        have hN := hF.keep hb
        refine hK.out _ _ (by exact (hN.m.b.block _ (HM.out.lt 2 rfl))) (fun hHeld => ?_)
        exact nj (J6 (g13_13) _ hN)
    intro J8
    refine join_ (σ := Nat) 7 (bt 16 511) (fun s => []) (fun s w' => Bx wk12.heap.size wk12 w' [] []) ?_ ?_
    · rintro g13_13 wj hF
      try dsimp only at hF ⊢
      refine nx ?_
      refine o2 9 131 13 18 (bt 16 1023) (bt 16 8703) ?_ ?_
      · intro K hK
        refine go_ Tryz.func27 #[.agg #[.int .u64 P0.1, .int .u64 P0.2], .agg #[.int .u64 P1.1, .int .u64 P1.2], .agg #[.int .u64 P2.1, .int .u64 P2.2]] ?_
        with_reducible refine (R1.out wj).mono ?_
        rintro e w' ⟨rfl, hb⟩
        refine ⟨_, rfl, ?_⟩
        have hN := hF.keep hb
        refine hK.out _ _ (by exact (hN.m.b.block _ (HM.out.lt 2 rfl))) (fun hHeld => ?_)
        exact nj (J7 (g13_13) _ hN)
      · intro K hK
        refine al_ (.cells #[.bool false, .slice none 0 0, .slice none 0 0] 45) ?_
        have hN := hF.alloc zR
        refine hK.out _ _ (by exact (hN.m.b.block _ (HM.out.lt 2 rfl))) (fun hHeld => ?_)
        exact nj (J8 (wj.heap.size) _ hN)
    intro J9
    exact nj (J9 (0) _ ((Bx.start _).drew))
  rintro g13_13 wj hF
  try dsimp only at hF ⊢
  refine nx ?_
  have hG := HM.out.join hF
  (try simp only [List.nil_append, List.cons_append, World.size_alloc, List.set_cons_zero, List.set_cons_succ, putsC, pB, pC, pD] at hG)
  have hHeld := And.intro True.intro (hF.m.b.block _ (HM.out.lt 2 rfl))
  clear HM hF
  refine last_ (i := 14) (N := none) (bt 16 32767) rfl rfl (by kernel_rfl) (by decide) (fun K hK => ?_)
  obtain ⟨y0, y1, y2, y3, y4, y5⟩ := rw3 (hG.at 9 rfl)
  refine skip_ (w1 := puts (g13_13) [(0, .bool false), (1, .slice none 0 0), (2, .slice none 0 0)] wj) (by rfl) rfl ?_ ?_
  · go_simp
    rfl
  refine hK.out _ _ ?_
  clear hK K y0 y1 y2 y3 y4 y5
  replace hG := hG.puts 9 rfl (by decide) [(0, .bool false), (1, .slice none 0 0), (2, .slice none 0 0)]
  (try simp only [List.nil_append, List.cons_append, World.size_alloc, List.set_cons_zero, List.set_cons_succ, putsC, pB, pC, pD] at hG)
  generalize puts (g13_13) _ wj = wk14 at *
  refine pv_ 15 19 ?_
  refine done_ (by kernel_rfl) ?_
  (try simp only [List.nil_append, List.cons_append, World.size_alloc, List.set_cons_zero, List.set_cons_succ, putsC, pB, pC, pD] at hG)
  have HM := Lib.hid hG
  clear hG hHeld
  go_upto_region 15 with (fail)
  as_aux_lemma =>
  have HK := Lib.hid (PR.out wk14 _ (pts4 (HM.out.at 2 rfl)) (HM.out.lt 2 rfl))
  ((try dsimp only); repeat (first | go_values | go_skip | go_guarded | go_step | go_upon))
  refine HK.out.mono ?_
  rintro e w15 ⟨rfl, hb⟩
  have hm := (HM.out.keep hb)
  clear HK HM hb 
  (try simp only [List.nil_append, List.cons_append, World.size_alloc, List.set_cons_zero, List.set_cons_succ, putsC, pB, pC, pD] at hm)
  have HM := Lib.hid hm
  clear hm
  go_upto_region 16 with (fail)
  as_aux_lemma =>
  have HK := Lib.hid (LA.out w15)
  ((try dsimp only); repeat (first | go_values | go_skip | go_guarded | go_step | go_upon))
  refine HK.out.mono ?_
  rintro e w16 ⟨rfl, hb⟩
  have hm := (HM.out.keep hb)
  clear HK HM hb 
  (try simp only [List.nil_append, List.cons_append, World.size_alloc, List.set_cons_zero, List.set_cons_succ, putsC, pB, pC, pD] at hm)
  have HM := Lib.hid hm
  clear hm
  obtain ⟨c3_0, c3_1, c3_2, c3_3, c3_4, c3_5, c3_6, c3_7, c3_8, c3_9, c3_10, c3_11⟩ := rw6 (HM.out.at 3 rfl)
  obtain ⟨c4_0, c4_1, c4_2, c4_3, c4_4, c4_5, c4_6, c4_7, c4_8, c4_9, c4_10, c4_11⟩ := rw6 (HM.out.at 4 rfl)
  obtain ⟨c5_0, c5_1, c5_2, c5_3, c5_4, c5_5⟩ := rw3 (HM.out.at 5 rfl)
  obtain ⟨c6_0, c6_1, c6_2, c6_3, c6_4, c6_5⟩ := rw3 (HM.out.at 6 rfl)
  obtain ⟨c7_0, c7_1, c7_2, c7_3, c7_4, c7_5⟩ := rw3 (HM.out.at 7 rfl)
  obtain ⟨c8_0, c8_1, c8_2, c8_3, c8_4, c8_5⟩ := rw3 (HM.out.at 8 rfl)
  obtain ⟨c9_0, c9_1, c9_2, c9_3, c9_4, c9_5⟩ := rw3 (HM.out.at 9 rfl)
  go_upto_region 20 with (fail)
  clear c3_0 c3_1 c3_2 c3_3 c3_4 c3_5 c3_6 c3_7 c3_8 c3_9 c3_10 c3_11 c4_0 c4_1 c4_2 c4_3 c4_4 c4_5 c4_6 c4_7 c4_8 c4_9 c4_10 c4_11 c5_0 c5_1 c5_2 c5_3 c5_4 c5_5 c6_0 c6_1 c6_2 c6_3 c6_4 c6_5 c7_0 c7_1 c7_2 c7_3 c7_4 c7_5 c8_0 c8_1 c8_2 c8_3 c8_4 c8_5 c9_0 c9_1 c9_2 c9_3 c9_4 c9_5
  as_aux_lemma =>
  have hmk := HMK.out
  go_upto_region 21 with (fail)
  have hm := HM.out.alloc (.cells Z 24 (0, 0))
  (try simp only [List.nil_append, List.cons_append, World.size_alloc, List.set_cons_zero, List.set_cons_succ, putsC, pB, pC, pD] at hm)
  clear hmk HM
  generalize (World.alloc w16 _) = vv at *
  have HM := Lib.hid hm
  clear hm
  go_cut [22] (fun t wx => t = .slice (some ⟨w16.heap.size, 0, none⟩) 513 513 ∧ Below w.heap.size w wx)
  case first =>
    obtain ⟨c2_0, c2_1, c2_2, c2_3, c2_4, c2_5, c2_6, c2_7, c2_8, c2_9, c2_10, c2_11, c2_12, c2_13, c2_14, c2_15⟩ := rw8 (HM.out.at 2 rfl)
    have y0 := (cell_of_cells (HM.out.at 10 rfl) 0).trans HZ.out.1
    have y1 := (cell_of_cells (HM.out.at 10 rfl) 1).trans HZ.out.2
    have z0 := free_of_cells (HM.out.at 10 rfl) 0
    have z1 := free_of_cells (HM.out.at 10 rfl) 1
    have hK := HKK.out
    rcases K with _ | _ | _ | K
    · ((try dsimp only); repeat (first | go_values | go_skip | go_guarded | go_step | go_upon))
      go_meet
      exact ⟨rfl, (HM.out.m.b.setCell (HM.out.g 10 _ _ rfl) _).setCell (HM.out.g 10 _ _ rfl) _⟩
    · ((try dsimp only); repeat (first | go_values | go_skip | go_guarded | go_step | go_upon))
      go_meet
      exact ⟨rfl, (HM.out.m.b.setCell (HM.out.g 10 _ _ rfl) _).setCell (HM.out.g 10 _ _ rfl) _⟩
    · ((try dsimp only); repeat (first | go_values | go_skip | go_guarded | go_step | go_upon))
      go_meet
      exact ⟨rfl, (HM.out.m.b.setCell (HM.out.g 10 _ _ rfl) _).setCell (HM.out.g 10 _ _ rfl) _⟩
    · omega
  case rest =>
  obtain ⟨rfl, hb⟩ := hcut
  ((try dsimp only); repeat (first | go_values | go_skip | go_guarded | go_step | go_upon))
  refine (PL.out _ _).mono ?_
  rintro e w9 ⟨rfl, hb9⟩
  ((try dsimp only); repeat (first | go_values | go_skip | go_guarded | go_step | go_upon))
  go_ret
  exact ⟨rfl, hb.trans (hb9.mono hb.size)⟩
end Go.Proofs.YtggfppgjabembaaGreatDoor

namespace Go.Proofs.YtggfppgjabembaaGreatDoor
open Go Go.ChangeShapes Go.WideShapes Go.ChangeAt Go.RowKit
set_option linter.unusedVariables false
section
variable {H : Type} {enc : TypeId × Value → H} {w : World} {base : Nat} {spare : Nat → Bool} {held : Bool} {fuel : Nat}
set_option maxRecDepth 100000 in
theorem open_int {cs : List Value} {x : DataW H × List MemPlace} (h : DataW.trod enc Tryz.prog w base spare held fuel 3 cs = some x) : ∃ n : Int, cs = [.int .i64 n] ∧ -9223372036854775808 ≤ n ∧ n ≤ 9223372036854775807 := by
  obtain ⟨n, h1, h2, h3⟩ := DataW.trod_int Tryz.underlying3 h
  refine ⟨n, h1, ?_⟩
  unfold Lit.wf at h3
  simp only [Bool.and_eq_true, decide_eq_true_eq] at h3
  exact h3
set_option maxRecDepth 100000 in
theorem open_odd {r : Reach} {b0 : Nat} {v : Value} {d : DataW H} {p : List MemPlace} (hv : Value.okWide Tryz.prog w r b0 72 v) (h : DataW.Trod enc Tryz.prog w base spare held 72 v d p) :
    ∃ (k b : Int) (y : Bool), v = odd k b y ∧ (-9223372036854775808 ≤ k ∧ k ≤ 9223372036854775807) ∧ U64 b := by
  obtain ⟨cs, rfl, hsz⟩ := okWide_struct Tryz.underlying72 hv
  obtain ⟨l⟩ := cs
  have c0 : Tryz.prog.cellsOf 72 = 3 := by kernel_rfl
  have c1 : Tryz.prog.cellsOf 3 = 1 := by kernel_rfl
  have c2 : Tryz.prog.cellsOf 22 = 1 := by kernel_rfl
  have c3 : Tryz.prog.cellsOf 4 = 1 := by kernel_rfl
  obtain ⟨fuel, hf⟩ := h
  obtain ⟨xs, n, _, _, hl, hx, hg⟩ := DataW.trod_struct Tryz.underlying72 hf
  rw [c0] at hsz
  match l, hsz with
  | [v0, v1, v2], _ =>
    match xs, hx with
    | [y0, y1, y2], _ =>
      have h0 : DataW.trod enc Tryz.prog w base spare held n 3 (List.take (Tryz.prog.cellsOf 3) (List.drop 0 [v0, v1, v2])) = some y0 := hg 0 _ rfl
      have h1 : DataW.trod enc Tryz.prog w base spare held n 22 (List.take (Tryz.prog.cellsOf 22) (List.drop 1 [v0, v1, v2])) = some y1 := hg 1 _ rfl
      have h2 : DataW.trod enc Tryz.prog w base spare held n 4 (List.take (Tryz.prog.cellsOf 4) (List.drop 2 [v0, v1, v2])) = some y2 := hg 2 _ rfl
      rw [c1] at h0
      rw [c2] at h1
      rw [c3] at h2
      obtain ⟨k, hk, uk⟩ := open_int (show DataW.trod enc Tryz.prog w base spare held n 3 [v0] = some y0 from h0)
      obtain ⟨b, hb, ub⟩ := open_word (show DataW.trod enc Tryz.prog w base spare held n 22 [v1] = some y1 from h1)
      obtain ⟨y, hy, _⟩ := DataW.trod_bool Tryz.underlying4 (show DataW.trod enc Tryz.prog w base spare held n 4 [v2] = some y2 from h2)
      cases hk
      cases hb
      cases hy
      exact ⟨k, b, y, rfl, uk, ub⟩
end
set_option maxRecDepth 100000 in
theorem segRefuses_lifted (os : Os) (started : os.Started) (H : Type) (enc : TypeId × Value → H) :
    ReturnsInHanded {} Tryz.checked os 8 .any (fun w args => (Rows.segRefusesSpec.pre enc Tryz.prog Tryz.f8 [] false w args ∧ laidMetH Tryz.prog [("plumb/near.stays", Rows.laid_plumb_near_stays)] w) ∧ sizedMet enc Tryz.prog Tryz.f8 (OpenSpec.ofChange Rows.segRefusesSpec) false w args)
      (Rows.segRefusesSpec.post enc Tryz.prog Tryz.f8 false true false false) := by
  refine returnsInHanded_of_change_and (C := Tryz.checked) (X := fun w _ => laidMetH Tryz.prog [("plumb/near.stays", Rows.laid_plumb_near_stays)] w) (fun _ _ _ hh h => h.of_heap hh) row_own started (by kernel_rfl) Tryz.func8
    (ChangeSpec.witness_shaped (enc := enc) (C := Tryz.checked) (os := os) (X := fun w _ => laidMetH Tryz.prog [("plumb/near.stays", Rows.laid_plumb_near_stays)] w) false (World.doorLaid Tryz.prog 400 os) #[fr (0, 0) (0, 0) (0, 0) (0, 0), odd 0 0 false] 8 rfl (World.shaped_of_RefB (by kernel_rfl) (by kernel_rfl)) (by kernel_rfl) (by kernel_rfl) (by kernel_rfl) (door_met os _)) ?_
  intro W base args ds gs before hval0 hW _ _ _ _
  have hval : ∀ (j : Nat) t v, Tryz.f8.params[j]? = some t → args[j]? = some v → Value.okWide Tryz.prog W .any base t v := hval0
  have hW' := hW
  obtain ⟨p, q, hA0, hV, rfl, hfz, hnd⟩ := hW
  have hA : DataW.TrodAll enc Tryz.prog W 0 (fun _ => true) true Tryz.f8.params.toList args.toList ds p := hA0
  rw [Tryz.params8] at hA hval
  obtain ⟨v0, v1, d0, d1, p0, p1, hargs, hds, hps, h0, h1⟩ := trodAll_two hA
  obtain ⟨rfl, rfl⟩ := trodVars_none hV
  subst hargs hds hps
  obtain ⟨a, b, c, e, rfl, ua, ub, uc, ue⟩ := open_four (hval 0 26 v0 rfl rfl) h0
  obtain ⟨k, bb, y, rfl, hk, ubb⟩ := open_odd (hval 1 72 v1 rfl rfl) h1
  simp only [List.append_nil] at hW'
  refine (lSegRefuses a b c e k bb y W ua ub uc ue hk ubb).mono fun x W' ⟨hx, hb⟩ => ?_
  subst hx
  refine ⟨_, rfl, post_true rfl rfl rfl hW' hb (fun sp hsp => ?_)⟩
  rw [Tryz.params8]
  have hlt : ∀ x ∈ p0 ++ p1, x.block < W.heap.size := fun x hx => hW'.lt x hx
  exact trodAll_mk2 (WideElems.Trod_stays row_laidOut (by kernel_rfl) (of_decide_eq_true (by kernel_rfl)) h0 (fun x hx => hb.same (hlt x (List.mem_append_left _ hx))) (fun x hx => hsp x (List.mem_append_left _ hx)))
    (WideElems.Trod_stays row_laidOut (by kernel_rfl) (of_decide_eq_true (by kernel_rfl)) h1 (fun x hx => hb.same (hlt x (List.mem_append_right _ hx))) (fun x hx => hsp x (List.mem_append_right _ hx)))
theorem segRefuses_said : Rows.SegRefusesSaid :=
  OpenClaim.holds_of_wide 8 Tryz.f8 rfl rfl rfl rfl rfl rfl rfl ⟨rfl, rfl, rfl, rfl, rfl⟩ rfl rfl rfl rfl rfl (by kernel_rfl) Tryz.func8 (by kernel_rfl)
    (of_decide_eq_true (by kernel_rfl)) (by unfold Func.isWrapper; first | (rw [if_pos (by decide +kernel)]; kernel_rfl) | (rw [if_neg (by decide +kernel)]; exact ⟨rfl, rfl⟩))
    (fun os started H enc _ => segRefuses_lifted os started H enc)
theorem segRefuses_holds : Rows.SegRefusesCardSaid :=
  Claim7.holds_tied_plain_at .later [] [.data] true (true, "80a292a554acde2cdd04e5bef36b3977b4b8f6b315eb70e2ed427cc397b18b81") true
    segRefuses_said (fun _ h => by cases h) (by kernel_rfl) (fun _ h => by cases h) segRefuses_row_tie rfl ⟨rfl, rfl⟩ (by kernel_rfl) rfl
    (fun f fn hf hfn => by
      obtain rfl : f = 8 := Option.some.inj ((show Tryz.prog.funcNamed "plumb/plumblaw23.SegRefuses" = some 8 by kernel_rfl).symm.trans hf) |>.symm
      obtain rfl : fn = Tryz.f8 := (Option.some.inj (Tryz.func8.symm.trans hfn)).symm
      exact ⟨by kernel_rfl, fun j t ht => by
        rw [Tryz.params8] at ht
        have hm : t ∈ [26, 72] := by simpa using Array.mem_of_getElem? ht
        have hall : ([26, 72].all fun u => !Tryz.prog.wantsStandIn u) = true := by kernel_rfl
        exact (show Tryz.prog.wantsStandIn t = false by simpa using List.all_eq_true.1 hall t hm)⟩)
    (by kernel_rfl)
end Go.Proofs.YtggfppgjabembaaGreatDoor
