/- Package plumblaw23: one, like. -/
import Derived.Test.YtggfppgjabembaaGreatDoorKN
import Derived.Test.YtggfppgjabembaaGreatDoorKA
namespace Go.Proofs.YtggfppgjabembaaGreatDoor
open Go.RowKit Go.Proofs.YtggfppgjabembaaGreatDoorW.PrintLast
set_option linter.unusedVariables false
set_option linter.unusedSimpArgs false
set_option maxRecDepth 100000 in
set_option maxHeartbeats 6400000 in
theorem lFoot (a b c : Pt) (w : World) (fa : FinP a) (fb : FinP b) (fc : FinP c) :
    Calls Tryz.prog 26 #[pt a, pt b, pt c] w fun e w' => ∃ E F G I, e = .returned (.tuple #[qv E F (ftR (pl a) (pl b) (pl c)).1, qv G I (ftR (pl a) (pl b) (pl c)).2, .int .i64 0]) ∧ RatFresh w.heap.size w' E F (ftR (pl a) (pl b) (pl c)).1 ∧ RatFresh w.heap.size w' G I (ftR (pl a) (pl b) (pl c)).2 ∧ Below w.heap.size w w' := by
  have HA := Lib.hid (fun (p : Pt) wz => sAt p wz)
  have z : ∀ p : Pt, FinP p → FinP (zp p) := fun p h => ⟨zed_fin h.1, zed_fin h.2⟩
  have hfi : ∀ p ∈ [a, b, c], FinP p := by intro p h; simp at h; rcases h with rfl | rfl | rfl <;> assumption
  have HFI := Lib.hid (fun wz g hp hb => sFinite g 0 [a, b, c] wz hp hb (by simp) hfi)
  have HV := Lib.hid (fun wz => sVector (zp c) wz (z _ fc))
  have sz := ft_sz (pl_sz fa) (pl_sz fb) (pl_sz fc)
  have HT := Lib.hid (fun A B C D wz hp => sFoot (zp a) (zp b) (pl c) A B C D 0 wz.heap.size wz (good_zp fa.1 fa.2) (good_zp fb.1 fb.2) hp (Nat.le_refl _) (pl_sz fc))
  rw [pl_zp] at HV
  rw [pl_zp, pl_zp] at HT
  generalize ftR (pl a) (pl b) (pl c) = f at *
  generalize pl c = pc at *
  clear z hfi fa fb fc sz
  unfold pv pt st at *
  unfold qv
  have hmm : Bx w.heap.size w (((((w.alloc (.cells #[.int .u64 a.1, .int .u64 a.2] 24)).alloc (.cells #[.int .u64 b.1, .int .u64 b.2] 24)).alloc (.cells #[.int .u64 c.1, .int .u64 c.2] 24)).alloc (.cells #[.bool false, .slice none 0 0, .slice none 0 0] 45)).alloc (.cells #[.bool false, .slice none 0 0, .slice none 0 0] 45)) _ _ := (((((Bx.start w).alloc (.cells #[.int .u64 a.1, .int .u64 a.2] 24 (0, 0))).alloc (.cells #[.int .u64 b.1, .int .u64 b.2] 24 (0, 0))).alloc (.cells #[.int .u64 c.1, .int .u64 c.2] 24 (0, 0))).alloc (.cells #[.bool false, .slice none 0 0, .slice none 0 0] 45 (0, 0))).alloc (.cells #[.bool false, .slice none 0 0, .slice none 0 0] 45 (0, 0))
  go_enter Tryz.func26, Tryz.ntmps26
  go_upto_region 1 with (fail)
  generalize (World.alloc (World.alloc (World.alloc (World.alloc (World.alloc w _) _) _) _) _) = v at *
  (try simp only [List.nil_append, List.cons_append, World.size_alloc, List.set_cons_zero, List.set_cons_succ, putsC, pB, pC, pD] at hmm)
  have HM := Lib.hid hmm
  clear hmm
  obtain ⟨c0_0, c0_1, c0_2, c0_3⟩ := rw2 (HM.out.at 0 rfl)
  obtain ⟨c1_0, c1_1, c1_2, c1_3⟩ := rw2 (HM.out.at 1 rfl)
  obtain ⟨c2_0, c2_1, c2_2, c2_3⟩ := rw2 (HM.out.at 2 rfl)
  have hn : Bx w.heap.size w (World.alloc v (.cells #[.int .u64 a.1, .int .u64 a.2, .int .u64 b.1, .int .u64 b.2, .int .u64 c.1, .int .u64 c.2] 24)) _ _ := (HM.out.alloc (.cells #[.int .u64 a.1, .int .u64 a.2, .int .u64 b.1, .int .u64 b.2, .int .u64 c.1, .int .u64 c.2] 24 (0, 0)))
  (try simp only [List.nil_append, List.cons_append, World.size_alloc, List.set_cons_zero, List.set_cons_succ, putsC, pB, pC, pD] at hn)
  have HN := Lib.hid hn
  clear hn
  have HK := Lib.hid (HFI.out (World.alloc v (.cells #[.int .u64 a.1, .int .u64 a.2, .int .u64 b.1, .int .u64 b.2, .int .u64 c.1, .int .u64 c.2] 24)) _ (pts3 (HN.out.at 5 rfl)) (HN.out.lt 5 rfl))
  ((try dsimp only); repeat (first | go_values | go_skip | go_guarded | go_step | go_upon))
  refine HK.out.mono ?_
  rintro e w0 ⟨rfl, hb⟩
  have hm := (HN.out.keep hb)
  clear HK HM hb c0_0 c0_1 c0_2 c0_3 c1_0 c1_1 c1_2 c1_3 c2_0 c2_1 c2_2 c2_3 HN
  (try simp only [List.nil_append, List.cons_append, World.size_alloc, List.set_cons_zero, List.set_cons_succ, putsC, pB, pC, pD] at hm)
  have HM := Lib.hid hm
  clear hm
  go_upto_region 3 with (fail)
  refine start_ (n := 11) (S := fun w' => w'.heap[w.heap.size]? = w0.heap[w.heap.size]? ∧ w'.heap[w.heap.size + 1]? = w0.heap[w.heap.size + 1]? ∧ w'.heap[w.heap.size + 1 + 1]? = w0.heap[w.heap.size + 1 + 1]?) (ds := [10]) (bt 11 0) (by kernel_rfl) rfl rfl ((And.intro rfl (And.intro rfl rfl))) (fun hHeld => ?_)
  refine ld_ 0 18 ?_ hHeld ?_ ?_; rotate_left
  · rintro w' hs
    obtain ⟨q0, q1, q2, q3⟩ := rw2 ((hs.1).trans (HM.out.at 0 rfl))
    clear hs
    go_simp; with_reducible rfl
  refine ld_ 2 20 ?_ hHeld ?_ ?_; rotate_left
  · rintro w' hs
    obtain ⟨q0, q1, q2, q3⟩ := rw2 ((hs.2.1).trans (HM.out.at 1 rfl))
    clear hs
    go_simp; with_reducible rfl
  refine ld_ 5 23 ?_ hHeld ?_ ?_; rotate_left
  · rintro w' hs
    obtain ⟨q0, q1, q2, q3⟩ := rw2 ((hs.2.2).trans (HM.out.at 2 rfl))
    clear hs
    go_simp; with_reducible rfl
  refine join_ (σ := Option Addr × Option Addr × Option Addr × Option Addr × Option Addr × Option Addr × Option Addr × Option Addr × Nat) 1 (bt 11 1023) (fun s => [(19, (pt (zp a))), (21, (pt (zp b))), (22, (st (zp a) (zp b))), (24, (pt (zp c))), (25, (pv (s.1) (s.2.1) (s.2.2.1) (s.2.2.2.1) pc)), (26, (pv (s.2.2.2.2.1) (s.2.2.2.2.2.1) (s.2.2.2.2.2.2.1) (s.2.2.2.2.2.2.2.1) f)), (9, .pointer (some ⟨(s.2.2.2.2.2.2.2.2), 0, none⟩))]) (fun s w' => Bx w0.heap.size w0 w' [((s.2.2.2.2.2.2.2.2), zV)] [((s.1), (s.2.1), pc.1), ((s.2.2.1), (s.2.2.2.1), pc.2), ((s.2.2.2.2.1), (s.2.2.2.2.2.1), f.1), ((s.2.2.2.2.2.2.1), (s.2.2.2.2.2.2.2.1), f.2)]) ?_ ?_
  rotate_left
  · intro J0
    refine join_ (σ := Option Addr × Option Addr × Option Addr × Option Addr × Option Addr × Option Addr × Option Addr × Option Addr × Nat) 2 (bt 11 511) (fun s => [(19, (pt (zp a))), (21, (pt (zp b))), (22, (st (zp a) (zp b))), (24, (pt (zp c))), (25, (pv (s.1) (s.2.1) (s.2.2.1) (s.2.2.2.1) pc)), (26, (pv (s.2.2.2.2.1) (s.2.2.2.2.2.1) (s.2.2.2.2.2.2.1) (s.2.2.2.2.2.2.2.1) f))]) (fun s w' => Bx w0.heap.size w0 w' [] [((s.1), (s.2.1), pc.1), ((s.2.2.1), (s.2.2.2.1), pc.2), ((s.2.2.2.2.1), (s.2.2.2.2.2.1), f.1), ((s.2.2.2.2.2.2.1), (s.2.2.2.2.2.2.2.1), f.2)]) ?_ ?_
    · rintro ⟨E1_7, F1_7, G1_7, I1_7, E1_8, F1_8, G1_8, I1_8, g1_9⟩ wj hF
      try dsimp only at hF ⊢
      refine nx ?_
      refine o1 9 9 (bt 11 1023) ?_
      · intro K hK
        refine al_ (.cells #[.bool false, .slice none 0 0, .slice none 0 0, .bool false, .slice none 0 0, .slice none 0 0] 89) ?_
        have hN := hF.alloc zV
        refine hK.out _ _ (by exact (And.intro (hN.m.b.block _ (HM.out.lt 0 rfl)) (And.intro (hN.m.b.block _ (HM.out.lt 1 rfl)) (hN.m.b.block _ (HM.out.lt 2 rfl))))) (fun hHeld => ?_)
        exact nj (J0 (E1_7, F1_7, G1_7, I1_7, E1_8, F1_8, G1_8, I1_8, wj.heap.size) _ hN)
    intro J1
    refine join_ (σ := Option Addr × Option Addr × Option Addr × Option Addr × Option Addr × Option Addr × Option Addr × Option Addr × Nat) 2 (bt 11 767) (fun s => [(19, (pt (zp a))), (21, (pt (zp b))), (22, (st (zp a) (zp b))), (24, (pt (zp c))), (25, (pv (s.1) (s.2.1) (s.2.2.1) (s.2.2.2.1) pc)), (9, .pointer (some ⟨(s.2.2.2.2.2.2.2.2), 0, none⟩))]) (fun s w' => Bx w0.heap.size w0 w' [((s.2.2.2.2.2.2.2.2), zV)] [((s.1), (s.2.1), pc.1), ((s.2.2.1), (s.2.2.2.1), pc.2)]) ?_ ?_
    · rintro ⟨E1_7, F1_7, G1_7, I1_7, E1_8, F1_8, G1_8, I1_8, g1_9⟩ wj hF
      try dsimp only at hF ⊢
      refine nx ?_
      refine o1 8 26 (bt 11 1023) ?_
      · intro K hK
        refine go_ Tryz.func60 #[.agg #[.int .u64 (zp a).1, .int .u64 (zp a).2, .int .u64 (zp b).1, .int .u64 (zp b).2], .agg #[.bool (decide (pc.1.num < 0)), .slice E1_7 (qn pc.1).length (qn pc.1).length, .slice F1_7 (qd pc.1).length (qd pc.1).length, .bool (decide (pc.2.num < 0)), .slice G1_7 (qn pc.2).length (qn pc.2).length, .slice I1_7 (qd pc.2).length (qd pc.2).length]] ?_
        with_reducible refine (HT.out _ _ _ _ wj ⟨(hF.ins 0 rfl), (hF.ins 1 rfl)⟩).mono ?_
        rintro e w' ⟨E1_8, F1_8, G1_8, I1_8, rfl, hf, hb⟩
        refine ⟨_, rfl, ?_⟩
        have hN := hF.call2 hf hb
        refine hK.out _ _ (by exact (And.intro (hN.m.b.block _ (HM.out.lt 0 rfl)) (And.intro (hN.m.b.block _ (HM.out.lt 1 rfl)) (hN.m.b.block _ (HM.out.lt 2 rfl))))) (fun hHeld => ?_)
        exact nj (J0 (E1_7, F1_7, G1_7, I1_7, E1_8, F1_8, G1_8, I1_8, g1_9) _ hN)
    intro J2
    refine join_ (σ := Option Addr × Option Addr × Option Addr × Option Addr × Option Addr × Option Addr × Option Addr × Option Addr × Nat) 3 (bt 11 255) (fun s => [(19, (pt (zp a))), (21, (pt (zp b))), (22, (st (zp a) (zp b))), (24, (pt (zp c))), (25, (pv (s.1) (s.2.1) (s.2.2.1) (s.2.2.2.1) pc))]) (fun s w' => Bx w0.heap.size w0 w' [] [((s.1), (s.2.1), pc.1), ((s.2.2.1), (s.2.2.2.1), pc.2)]) ?_ ?_
    · rintro ⟨E1_7, F1_7, G1_7, I1_7, E1_8, F1_8, G1_8, I1_8, g1_9⟩ wj hF
      try dsimp only at hF ⊢
      refine nx ?_
      refine o2 8 26 9 9 (bt 11 511) (bt 11 767) ?_ ?_
      · intro K hK
        refine go_ Tryz.func60 #[.agg #[.int .u64 (zp a).1, .int .u64 (zp a).2, .int .u64 (zp b).1, .int .u64 (zp b).2], .agg #[.bool (decide (pc.1.num < 0)), .slice E1_7 (qn pc.1).length (qn pc.1).length, .slice F1_7 (qd pc.1).length (qd pc.1).length, .bool (decide (pc.2.num < 0)), .slice G1_7 (qn pc.2).length (qn pc.2).length, .slice I1_7 (qd pc.2).length (qd pc.2).length]] ?_
        with_reducible refine (HT.out _ _ _ _ wj ⟨(hF.ins 0 rfl), (hF.ins 1 rfl)⟩).mono ?_
        rintro e w' ⟨E1_8, F1_8, G1_8, I1_8, rfl, hf, hb⟩
        refine ⟨_, rfl, ?_⟩
        have hN := hF.call2 hf hb
        refine hK.out _ _ (by exact (And.intro (hN.m.b.block _ (HM.out.lt 0 rfl)) (And.intro (hN.m.b.block _ (HM.out.lt 1 rfl)) (hN.m.b.block _ (HM.out.lt 2 rfl))))) (fun hHeld => ?_)
        exact nj (J1 (E1_7, F1_7, G1_7, I1_7, E1_8, F1_8, G1_8, I1_8, g1_9) _ hN)
      · intro K hK
        refine al_ (.cells #[.bool false, .slice none 0 0, .slice none 0 0, .bool false, .slice none 0 0, .slice none 0 0] 89) ?_
        have hN := hF.alloc zV
        refine hK.out _ _ (by exact (And.intro (hN.m.b.block _ (HM.out.lt 0 rfl)) (And.intro (hN.m.b.block _ (HM.out.lt 1 rfl)) (hN.m.b.block _ (HM.out.lt 2 rfl))))) (fun hHeld => ?_)
        exact nj (J2 (E1_7, F1_7, G1_7, I1_7, E1_8, F1_8, G1_8, I1_8, wj.heap.size) _ hN)
    intro J3
    refine join_ (σ := Option Addr × Option Addr × Option Addr × Option Addr × Option Addr × Option Addr × Option Addr × Option Addr × Nat) 3 (bt 11 639) (fun s => [(19, (pt (zp a))), (21, (pt (zp b))), (22, (st (zp a) (zp b))), (24, (pt (zp c))), (9, .pointer (some ⟨(s.2.2.2.2.2.2.2.2), 0, none⟩))]) (fun s w' => Bx w0.heap.size w0 w' [((s.2.2.2.2.2.2.2.2), zV)] []) ?_ ?_
    · rintro ⟨E1_7, F1_7, G1_7, I1_7, E1_8, F1_8, G1_8, I1_8, g1_9⟩ wj hF
      try dsimp only at hF ⊢
      refine nx ?_
      refine o1 7 25 (bt 11 767) ?_
      · intro K hK
        refine go_ Tryz.func61 #[.agg #[.int .u64 (zp c).1, .int .u64 (zp c).2]] ?_
        with_reducible refine (HV.out wj).mono ?_
        rintro e w' ⟨E1_7, F1_7, G1_7, I1_7, rfl, hf, hb⟩
        refine ⟨_, rfl, ?_⟩
        have hN := hF.call2 hf hb
        refine hK.out _ _ (by exact (And.intro (hN.m.b.block _ (HM.out.lt 0 rfl)) (And.intro (hN.m.b.block _ (HM.out.lt 1 rfl)) (hN.m.b.block _ (HM.out.lt 2 rfl))))) (fun hHeld => ?_)
        exact nj (J2 (E1_7, F1_7, G1_7, I1_7, E1_8, F1_8, G1_8, I1_8, g1_9) _ hN)
    intro J4
    refine join_ (σ := Option Addr × Option Addr × Option Addr × Option Addr × Option Addr × Option Addr × Option Addr × Option Addr × Nat) 4 (bt 11 127) (fun s => [(19, (pt (zp a))), (21, (pt (zp b))), (22, (st (zp a) (zp b))), (24, (pt (zp c)))]) (fun s w' => Bx w0.heap.size w0 w' [] []) ?_ ?_
    · rintro ⟨E1_7, F1_7, G1_7, I1_7, E1_8, F1_8, G1_8, I1_8, g1_9⟩ wj hF
      try dsimp only at hF ⊢
      refine nx ?_
      refine o2 7 25 9 9 (bt 11 255) (bt 11 639) ?_ ?_
      · intro K hK
        refine go_ Tryz.func61 #[.agg #[.int .u64 (zp c).1, .int .u64 (zp c).2]] ?_
        with_reducible refine (HV.out wj).mono ?_
        rintro e w' ⟨E1_7, F1_7, G1_7, I1_7, rfl, hf, hb⟩
        refine ⟨_, rfl, ?_⟩
        have hN := hF.call2 hf hb
        refine hK.out _ _ (by exact (And.intro (hN.m.b.block _ (HM.out.lt 0 rfl)) (And.intro (hN.m.b.block _ (HM.out.lt 1 rfl)) (hN.m.b.block _ (HM.out.lt 2 rfl))))) (fun hHeld => ?_)
        exact nj (J3 (E1_7, F1_7, G1_7, I1_7, E1_8, F1_8, G1_8, I1_8, g1_9) _ hN)
      · intro K hK
        refine al_ (.cells #[.bool false, .slice none 0 0, .slice none 0 0, .bool false, .slice none 0 0, .slice none 0 0] 89) ?_
        have hN := hF.alloc zV
        refine hK.out _ _ (by exact (And.intro (hN.m.b.block _ (HM.out.lt 0 rfl)) (And.intro (hN.m.b.block _ (HM.out.lt 1 rfl)) (hN.m.b.block _ (HM.out.lt 2 rfl))))) (fun hHeld => ?_)
        exact nj (J4 (E1_7, F1_7, G1_7, I1_7, E1_8, F1_8, G1_8, I1_8, wj.heap.size) _ hN)
    intro J5
    refine join_ (σ := Option Addr × Option Addr × Option Addr × Option Addr × Option Addr × Option Addr × Option Addr × Option Addr × Nat) 4 (bt 11 575) (fun s => [(19, (pt (zp a))), (21, (pt (zp b))), (22, (st (zp a) (zp b))), (9, .pointer (some ⟨(s.2.2.2.2.2.2.2.2), 0, none⟩))]) (fun s w' => Bx w0.heap.size w0 w' [((s.2.2.2.2.2.2.2.2), zV)] []) ?_ ?_
    · rintro ⟨E1_7, F1_7, G1_7, I1_7, E1_8, F1_8, G1_8, I1_8, g1_9⟩ wj hF
      try dsimp only at hF ⊢
      refine nx ?_
      refine o1 6 24 (bt 11 639) ?_
      · intro K hK
        refine go_ Tryz.func36 #[.agg #[.int .u64 c.1, .int .u64 c.2]] ?_
        with_reducible refine (HA.out c wj).mono ?_
        rintro e w' ⟨rfl, hb⟩
        refine ⟨_, rfl, ?_⟩
        have hN := hF.keep hb
        refine hK.out _ _ (by exact (And.intro (hN.m.b.block _ (HM.out.lt 0 rfl)) (And.intro (hN.m.b.block _ (HM.out.lt 1 rfl)) (hN.m.b.block _ (HM.out.lt 2 rfl))))) (fun hHeld => ?_)
        exact nj (J4 (E1_7, F1_7, G1_7, I1_7, E1_8, F1_8, G1_8, I1_8, g1_9) _ hN)
    intro J6
    refine join_ (σ := Option Addr × Option Addr × Option Addr × Option Addr × Option Addr × Option Addr × Option Addr × Option Addr × Nat) 5 (bt 11 63) (fun s => [(19, (pt (zp a))), (21, (pt (zp b))), (22, (st (zp a) (zp b)))]) (fun s w' => Bx w0.heap.size w0 w' [] []) ?_ ?_
    · rintro ⟨E1_7, F1_7, G1_7, I1_7, E1_8, F1_8, G1_8, I1_8, g1_9⟩ wj hF
      try dsimp only at hF ⊢
      refine nx ?_
      refine o2 6 24 9 9 (bt 11 127) (bt 11 575) ?_ ?_
      · intro K hK
        refine go_ Tryz.func36 #[.agg #[.int .u64 c.1, .int .u64 c.2]] ?_
        with_reducible refine (HA.out c wj).mono ?_
        rintro e w' ⟨rfl, hb⟩
        refine ⟨_, rfl, ?_⟩
        have hN := hF.keep hb
        refine hK.out _ _ (by exact (And.intro (hN.m.b.block _ (HM.out.lt 0 rfl)) (And.intro (hN.m.b.block _ (HM.out.lt 1 rfl)) (hN.m.b.block _ (HM.out.lt 2 rfl))))) (fun hHeld => ?_)
        exact nj (J5 (E1_7, F1_7, G1_7, I1_7, E1_8, F1_8, G1_8, I1_8, g1_9) _ hN)
      · intro K hK
        refine al_ (.cells #[.bool false, .slice none 0 0, .slice none 0 0, .bool false, .slice none 0 0, .slice none 0 0] 89) ?_
        have hN := hF.alloc zV
        refine hK.out _ _ (by exact (And.intro (hN.m.b.block _ (HM.out.lt 0 rfl)) (And.intro (hN.m.b.block _ (HM.out.lt 1 rfl)) (hN.m.b.block _ (HM.out.lt 2 rfl))))) (fun hHeld => ?_)
        exact nj (J6 (E1_7, F1_7, G1_7, I1_7, E1_8, F1_8, G1_8, I1_8, wj.heap.size) _ hN)
    intro J7
    refine join_ (σ := Option Addr × Option Addr × Option Addr × Option Addr × Option Addr × Option Addr × Option Addr × Option Addr × Nat) 5 (bt 11 559) (fun s => [(19, (pt (zp a))), (21, (pt (zp b))), (9, .pointer (some ⟨(s.2.2.2.2.2.2.2.2), 0, none⟩))]) (fun s w' => Bx w0.heap.size w0 w' [((s.2.2.2.2.2.2.2.2), zV)] []) ?_ ?_
    · rintro ⟨E1_7, F1_7, G1_7, I1_7, E1_8, F1_8, G1_8, I1_8, g1_9⟩ wj hF
      try dsimp only at hF ⊢
      refine nx ?_
      refine pv_ 4 22 ?_
      exact nj (J6 (E1_7, F1_7, G1_7, I1_7, E1_8, F1_8, G1_8, I1_8, g1_9) _ hF)
    intro J8
    refine join_ (σ := Option Addr × Option Addr × Option Addr × Option Addr × Option Addr × Option Addr × Option Addr × Option Addr × Nat) 6 (bt 11 47) (fun s => [(19, (pt (zp a))), (21, (pt (zp b)))]) (fun s w' => Bx w0.heap.size w0 w' [] []) ?_ ?_
    · rintro ⟨E1_7, F1_7, G1_7, I1_7, E1_8, F1_8, G1_8, I1_8, g1_9⟩ wj hF
      try dsimp only at hF ⊢
      refine nx ?_
      refine pv_ 4 22 ?_
      exact nj (J7 (E1_7, F1_7, G1_7, I1_7, E1_8, F1_8, G1_8, I1_8, g1_9) _ hF)
    intro J9
    refine join_ (σ := Option Addr × Option Addr × Option Addr × Option Addr × Option Addr × Option Addr × Option Addr × Option Addr × Nat) 6 (bt 11 551) (fun s => [(19, (pt (zp a))), (9, .pointer (some ⟨(s.2.2.2.2.2.2.2.2), 0, none⟩))]) (fun s w' => Bx w0.heap.size w0 w' [((s.2.2.2.2.2.2.2.2), zV)] []) ?_ ?_
    · rintro ⟨E1_7, F1_7, G1_7, I1_7, E1_8, F1_8, G1_8, I1_8, g1_9⟩ wj hF
      try dsimp only at hF ⊢
      refine nx ?_
      refine o1 3 21 (bt 11 559) ?_
      · intro K hK
        refine go_ Tryz.func36 #[.agg #[.int .u64 b.1, .int .u64 b.2]] ?_
        with_reducible refine (HA.out b wj).mono ?_
        rintro e w' ⟨rfl, hb⟩
        refine ⟨_, rfl, ?_⟩
        have hN := hF.keep hb
        refine hK.out _ _ (by exact (And.intro (hN.m.b.block _ (HM.out.lt 0 rfl)) (And.intro (hN.m.b.block _ (HM.out.lt 1 rfl)) (hN.m.b.block _ (HM.out.lt 2 rfl))))) (fun hHeld => ?_)
        exact nj (J8 (E1_7, F1_7, G1_7, I1_7, E1_8, F1_8, G1_8, I1_8, g1_9) _ hN)
    intro J10
    refine join_ (σ := Option Addr × Option Addr × Option Addr × Option Addr × Option Addr × Option Addr × Option Addr × Option Addr × Nat) 7 (bt 11 39) (fun s => [(19, (pt (zp a)))]) (fun s w' => Bx w0.heap.size w0 w' [] []) ?_ ?_
    · rintro ⟨E1_7, F1_7, G1_7, I1_7, E1_8, F1_8, G1_8, I1_8, g1_9⟩ wj hF
      try dsimp only at hF ⊢
      refine nx ?_
      refine o2 3 21 9 9 (bt 11 47) (bt 11 551) ?_ ?_
      · intro K hK
        refine go_ Tryz.func36 #[.agg #[.int .u64 b.1, .int .u64 b.2]] ?_
        with_reducible refine (HA.out b wj).mono ?_
        rintro e w' ⟨rfl, hb⟩
        refine ⟨_, rfl, ?_⟩
        have hN := hF.keep hb
        refine hK.out _ _ (by exact (And.intro (hN.m.b.block _ (HM.out.lt 0 rfl)) (And.intro (hN.m.b.block _ (HM.out.lt 1 rfl)) (hN.m.b.block _ (HM.out.lt 2 rfl))))) (fun hHeld => ?_)
        exact nj (J9 (E1_7, F1_7, G1_7, I1_7, E1_8, F1_8, G1_8, I1_8, g1_9) _ hN)
      · intro K hK
        refine al_ (.cells #[.bool false, .slice none 0 0, .slice none 0 0, .bool false, .slice none 0 0, .slice none 0 0] 89) ?_
        have hN := hF.alloc zV
        refine hK.out _ _ (by exact (And.intro (hN.m.b.block _ (HM.out.lt 0 rfl)) (And.intro (hN.m.b.block _ (HM.out.lt 1 rfl)) (hN.m.b.block _ (HM.out.lt 2 rfl))))) (fun hHeld => ?_)
        exact nj (J10 (E1_7, F1_7, G1_7, I1_7, E1_8, F1_8, G1_8, I1_8, wj.heap.size) _ hN)
    intro J11
    refine join_ (σ := Option Addr × Option Addr × Option Addr × Option Addr × Option Addr × Option Addr × Option Addr × Option Addr × Nat) 7 (bt 11 549) (fun s => [(9, .pointer (some ⟨(s.2.2.2.2.2.2.2.2), 0, none⟩))]) (fun s w' => Bx w0.heap.size w0 w' [((s.2.2.2.2.2.2.2.2), zV)] []) ?_ ?_
    · rintro ⟨E1_7, F1_7, G1_7, I1_7, E1_8, F1_8, G1_8, I1_8, g1_9⟩ wj hF
      try dsimp only at hF ⊢
      refine nx ?_
      refine o1 1 19 (bt 11 551) ?_
      · intro K hK
        refine go_ Tryz.func36 #[.agg #[.int .u64 a.1, .int .u64 a.2]] ?_
        with_reducible refine (HA.out a wj).mono ?_
        rintro e w' ⟨rfl, hb⟩
        refine ⟨_, rfl, ?_⟩
        have hN := hF.keep hb
        refine hK.out _ _ (by exact (And.intro (hN.m.b.block _ (HM.out.lt 0 rfl)) (And.intro (hN.m.b.block _ (HM.out.lt 1 rfl)) (hN.m.b.block _ (HM.out.lt 2 rfl))))) (fun hHeld => ?_)
        exact nj (J10 (E1_7, F1_7, G1_7, I1_7, E1_8, F1_8, G1_8, I1_8, g1_9) _ hN)
    intro J12
    refine join_ (σ := Option Addr × Option Addr × Option Addr × Option Addr × Option Addr × Option Addr × Option Addr × Option Addr × Nat) 8 (bt 11 37) (fun s => []) (fun s w' => Bx w0.heap.size w0 w' [] []) ?_ ?_
    · rintro ⟨E1_7, F1_7, G1_7, I1_7, E1_8, F1_8, G1_8, I1_8, g1_9⟩ wj hF
      try dsimp only at hF ⊢
      refine nx ?_
      refine o2 1 19 9 9 (bt 11 39) (bt 11 549) ?_ ?_
      · intro K hK
        refine go_ Tryz.func36 #[.agg #[.int .u64 a.1, .int .u64 a.2]] ?_
        with_reducible refine (HA.out a wj).mono ?_
        rintro e w' ⟨rfl, hb⟩
        refine ⟨_, rfl, ?_⟩
        have hN := hF.keep hb
        refine hK.out _ _ (by exact (And.intro (hN.m.b.block _ (HM.out.lt 0 rfl)) (And.intro (hN.m.b.block _ (HM.out.lt 1 rfl)) (hN.m.b.block _ (HM.out.lt 2 rfl))))) (fun hHeld => ?_)
        exact nj (J11 (E1_7, F1_7, G1_7, I1_7, E1_8, F1_8, G1_8, I1_8, g1_9) _ hN)
      · intro K hK
        refine al_ (.cells #[.bool false, .slice none 0 0, .slice none 0 0, .bool false, .slice none 0 0, .slice none 0 0] 89) ?_
        have hN := hF.alloc zV
        refine hK.out _ _ (by exact (And.intro (hN.m.b.block _ (HM.out.lt 0 rfl)) (And.intro (hN.m.b.block _ (HM.out.lt 1 rfl)) (hN.m.b.block _ (HM.out.lt 2 rfl))))) (fun hHeld => ?_)
        exact nj (J12 (E1_7, F1_7, G1_7, I1_7, E1_8, F1_8, G1_8, I1_8, wj.heap.size) _ hN)
    intro J13
    exact nj (J13 (none, none, none, none, none, none, none, none, 0) _ ((Bx.start _).drew))
  rintro ⟨E1_7, F1_7, G1_7, I1_7, E1_8, F1_8, G1_8, I1_8, g1_9⟩ wj hF
  try dsimp only at hF ⊢
  refine nx ?_
  have hG := HM.out.join hF
  (try simp only [List.nil_append, List.cons_append, World.size_alloc, List.set_cons_zero, List.set_cons_succ, putsC, pB, pC, pD] at hG)
  have hHeld := And.intro True.intro (And.intro (hF.m.b.block _ (HM.out.lt 0 rfl)) (And.intro (hF.m.b.block _ (HM.out.lt 1 rfl)) (hF.m.b.block _ (HM.out.lt 2 rfl))))
  clear HM hF
  refine last_ (i := 10) (N := none) (bt 11 2047) rfl rfl (by kernel_rfl) (by decide) (fun K hK => ?_)
  obtain ⟨y0, y1, y2, y3, y4, y5, y6, y7, y8, y9, y10, y11⟩ := rw6 (hG.at 6 rfl)
  refine skip_ (w1 := puts (g1_9) [(0, .bool (decide (f.1.num < 0))), (1, .slice E1_8 (qn f.1).length (qn f.1).length), (2, .slice F1_8 (qd f.1).length (qd f.1).length), (3, .bool (decide (f.2.num < 0))), (4, .slice G1_8 (qn f.2).length (qn f.2).length), (5, .slice I1_8 (qd f.2).length (qd f.2).length)] wj) (by rfl) rfl ?_ ?_
  · go_simp
    rfl
  refine hK.out _ _ ?_
  clear hK K y0 y1 y2 y3 y4 y5 y6 y7 y8 y9 y10 y11
  replace hG := hG.puts 6 rfl (by decide) [(0, .bool (decide (f.1.num < 0))), (1, .slice E1_8 (qn f.1).length (qn f.1).length), (2, .slice F1_8 (qd f.1).length (qd f.1).length), (3, .bool (decide (f.2.num < 0))), (4, .slice G1_8 (qn f.2).length (qn f.2).length), (5, .slice I1_8 (qd f.2).length (qd f.2).length)]
  (try simp only [List.nil_append, List.cons_append, World.size_alloc, List.set_cons_zero, List.set_cons_succ, putsC, pB, pC, pD] at hG)
  generalize puts (g1_9) _ wj = wk2 at *
  refine done_ (by kernel_rfl) ?_
  (try simp only [List.nil_append, List.cons_append, World.size_alloc, List.set_cons_zero, List.set_cons_succ, putsC, pB, pC, pD] at hG)
  have HM := Lib.hid hG
  clear hG hHeld
  go_upto_region 4 with (fail)
  refine start_ (n := 7) (S := fun w' => w'.heap[g1_9]? = wk2.heap[g1_9]?) (ds := [5]) (bt 7 0) (by kernel_rfl) rfl rfl (rfl) (fun hHeld => ?_)
  refine pv_ 0 27 ?_
  refine ld_ 1 28 ?_ hHeld ?_ ?_; rotate_left
  · rintro w' hs
    obtain ⟨q0, q1, q2, q3, q4, q5, q6, q7, q8, q9, q10, q11⟩ := rw6 ((hs).trans (HM.out.at 6 rfl))
    clear hs
    go_simp; with_reducible rfl
  refine pv_ 2 29 ?_
  refine ld_ 3 30 ?_ hHeld ?_ ?_; rotate_left
  · rintro w' hs
    obtain ⟨q0, q1, q2, q3, q4, q5, q6, q7, q8, q9, q10, q11⟩ := rw6 ((hs).trans (HM.out.at 6 rfl))
    clear hs
    go_simp; with_reducible rfl
  have hG := HM.out.drew
  replace hHeld := And.intro True.intro hHeld
  clear HM
  generalize hwg : wk2.drew = wj at *
  clear hwg
  refine one_ (i := 4) (N := none) (bt 7 31) rfl rfl (by kernel_rfl) (by decide) (fun K hK => ?_)
  obtain ⟨y0, y1, y2, y3, y4, y5⟩ := rw3 (hG.at 3 rfl)
  refine skip_ (w1 := puts (w.heap.size + 1 + 1 + 1) [(0, .bool (decide (f.1.num < 0))), (1, .slice E1_8 (qn f.1).length (qn f.1).length), (2, .slice F1_8 (qd f.1).length (qd f.1).length)] wj) (by rfl) rfl ?_ ?_
  · go_simp
    rfl
  replace hHeld := And.intro True.intro ((puts_other (hG.ne 6 3 rfl rfl (by decide)) [(0, .bool (decide (f.1.num < 0))), (1, .slice E1_8 (qn f.1).length (qn f.1).length), (2, .slice F1_8 (qd f.1).length (qd f.1).length)] wj).trans hHeld.2)
  refine hK.out _ _ (by exact hHeld.2) (fun _ => ?_)
  clear hK K y0 y1 y2 y3 y4 y5
  replace hG := hG.puts 3 rfl (by decide) [(0, .bool (decide (f.1.num < 0))), (1, .slice E1_8 (qn f.1).length (qn f.1).length), (2, .slice F1_8 (qd f.1).length (qd f.1).length)]
  (try simp only [List.nil_append, List.cons_append, World.size_alloc, List.set_cons_zero, List.set_cons_succ, putsC, pB, pC, pD] at hG)
  generalize puts (w.heap.size + 1 + 1 + 1) _ wj = wk3 at *
  refine last_ (i := 5) (N := none) (bt 7 63) rfl rfl (by kernel_rfl) (by decide) (fun K hK => ?_)
  obtain ⟨y0, y1, y2, y3, y4, y5⟩ := rw3 (hG.at 4 rfl)
  refine skip_ (w1 := puts (w.heap.size + 1 + 1 + 1 + 1) [(0, .bool (decide (f.2.num < 0))), (1, .slice G1_8 (qn f.2).length (qn f.2).length), (2, .slice I1_8 (qd f.2).length (qd f.2).length)] wk3) (by rfl) rfl ?_ ?_
  · go_simp
    rfl
  refine hK.out _ _ ?_
  clear hK K y0 y1 y2 y3 y4 y5
  replace hG := hG.puts 4 rfl (by decide) [(0, .bool (decide (f.2.num < 0))), (1, .slice G1_8 (qn f.2).length (qn f.2).length), (2, .slice I1_8 (qd f.2).length (qd f.2).length)]
  (try simp only [List.nil_append, List.cons_append, World.size_alloc, List.set_cons_zero, List.set_cons_succ, putsC, pB, pC, pD] at hG)
  generalize puts (w.heap.size + 1 + 1 + 1 + 1) _ wk3 = wk4 at *
  refine pv_ 6 8 ?_
  refine done_ (by kernel_rfl) ?_
  (try simp only [List.nil_append, List.cons_append, World.size_alloc, List.set_cons_zero, List.set_cons_succ, putsC, pB, pC, pD] at hG)
  have HM := Lib.hid hG
  clear hG hHeld
  ((try dsimp only); repeat (first | go_values | go_skip | go_guarded | go_step | go_upon))
  refine bodyPost_ret (results_rows2 rfl _ _ (w.heap.size + 1 + 1 + 1) (w.heap.size + 1 + 1 + 1 + 1) _ _ _ _ _ _ _ _ rfl rfl (HM.out.at 3 rfl) (HM.out.at 4 rfl) rfl rfl rfl rfl rfl rfl) rfl ?_
  exact ⟨E1_8, F1_8, G1_8, I1_8, rfl, HM.out.fresh 2 rfl, HM.out.fresh 3 rfl, HM.out.m.b⟩
set_option maxRecDepth 100000 in
set_option maxHeartbeats 6400000 in
theorem lFar (a b c : Pt) (w : World) (fa : FinP a) (fb : FinP b) (fc : FinP c) :
    Calls Tryz.prog 27 #[pt a, pt b, pt c] w fun e w' => ∃ E F, e = .returned (.tuple #[qv E F (farR (pl a) (pl b) (pl c)), .int .i64 0]) ∧ RatFresh w.heap.size w' E F (farR (pl a) (pl b) (pl c)) ∧ Below w.heap.size w w' := by
  have HA := Lib.hid (fun (p : Pt) wz => sAt p wz)
  have z : ∀ p : Pt, FinP p → FinP (zp p) := fun p h => ⟨zed_fin h.1, zed_fin h.2⟩
  have hfi : ∀ p ∈ [a, b, c], FinP p := by intro p h; simp at h; rcases h with rfl | rfl | rfl <;> assumption
  have HFI := Lib.hid (fun wz g hp hb => sFinite g 0 [a, b, c] wz hp hb (by simp) hfi)
  have HV := Lib.hid (fun wz => sVector (zp c) wz (z _ fc))
  have sz := ft_sz (pl_sz fa) (pl_sz fb) (pl_sz fc)
  have HT := Lib.hid (fun A B C D wz hp => sFoot (zp a) (zp b) (pl c) A B C D 0 wz.heap.size wz (good_zp fa.1 fa.2) (good_zp fb.1 fb.2) hp (Nat.le_refl _) (pl_sz fc))
  rw [pl_zp] at HV
  rw [pl_zp, pl_zp] at HT
  have sc := pl_sz fc
  have VM := Lib.hid (fun A B C D A2 B2 C2 D2 wz h1 h2 => vMinus A B C D A2 B2 C2 D2 0 wz.heap.size _ _ (pl c) (ftR (pl a) (pl b) (pl c)) wz h1 h2 (Nat.le_refl _) sc sz (by omega))
  have eu : ((pl c).1 - (ftR (pl a) (pl b) (pl c)).1, (pl c).2 - (ftR (pl a) (pl b) (pl c)).2) = wayR (ftR (pl a) (pl b) (pl c)) (pl c) := rfl
  have su : PSz 22076 ((pl c).1 - (ftR (pl a) (pl b) (pl c)).1, (pl c).2 - (ftR (pl a) (pl b) (pl c)).2) := ⟨(sc.1.sub sz.1).mono (by omega), (sc.2.sub sz.2).mono (by omega)⟩
  rw [eu] at VM su
  have ef : farR (pl a) (pl b) (pl c) = dotR (wayR (ftR (pl a) (pl b) (pl c)) (pl c)) (wayR (ftR (pl a) (pl b) (pl c)) (pl c)) := rfl
  have VD := Lib.hid (fun A B C D A2 B2 C2 D2 wz h1 h2 => vDot A B C D A2 B2 C2 D2 0 wz.heap.size _ _ (wayR (ftR (pl a) (pl b) (pl c)) (pl c)) (wayR (ftR (pl a) (pl b) (pl c)) (pl c)) wz h1 h2 (Nat.le_refl _) su su (by omega))
  have ed : ∀ u v : Pl, u.1 * v.1 + u.2 * v.2 = dotR u v := fun _ _ => rfl
  simp only [ed] at VD
  rw [← ef] at VD
  clear ed ef eu su sc
  generalize farR (pl a) (pl b) (pl c) = d at *
  generalize wayR (ftR (pl a) (pl b) (pl c)) (pl c) = v0 at *
  generalize ftR (pl a) (pl b) (pl c) = f at *
  generalize pl c = pc at *
  clear z hfi fa fb fc sz
  unfold pv pt st qv at *
  have hmm : Bx w.heap.size w ((((w.alloc (.cells #[.int .u64 a.1, .int .u64 a.2] 24)).alloc (.cells #[.int .u64 b.1, .int .u64 b.2] 24)).alloc (.cells #[.int .u64 c.1, .int .u64 c.2] 24)).alloc (.cells #[.bool false, .slice none 0 0, .slice none 0 0] 45)) _ _ := ((((Bx.start w).alloc (.cells #[.int .u64 a.1, .int .u64 a.2] 24 (0, 0))).alloc (.cells #[.int .u64 b.1, .int .u64 b.2] 24 (0, 0))).alloc (.cells #[.int .u64 c.1, .int .u64 c.2] 24 (0, 0))).alloc (.cells #[.bool false, .slice none 0 0, .slice none 0 0] 45 (0, 0))
  go_enter Tryz.func27, Tryz.ntmps27
  go_upto_region 1 with (fail)
  generalize (World.alloc (World.alloc (World.alloc (World.alloc w _) _) _) _) = v at *
  (try simp only [List.nil_append, List.cons_append, World.size_alloc, List.set_cons_zero, List.set_cons_succ, putsC, pB, pC, pD] at hmm)
  have HM := Lib.hid hmm
  clear hmm
  obtain ⟨c0_0, c0_1, c0_2, c0_3⟩ := rw2 (HM.out.at 0 rfl)
  obtain ⟨c1_0, c1_1, c1_2, c1_3⟩ := rw2 (HM.out.at 1 rfl)
  obtain ⟨c2_0, c2_1, c2_2, c2_3⟩ := rw2 (HM.out.at 2 rfl)
  have hn : Bx w.heap.size w (World.alloc v (.cells #[.int .u64 a.1, .int .u64 a.2, .int .u64 b.1, .int .u64 b.2, .int .u64 c.1, .int .u64 c.2] 24)) _ _ := (HM.out.alloc (.cells #[.int .u64 a.1, .int .u64 a.2, .int .u64 b.1, .int .u64 b.2, .int .u64 c.1, .int .u64 c.2] 24 (0, 0)))
  (try simp only [List.nil_append, List.cons_append, World.size_alloc, List.set_cons_zero, List.set_cons_succ, putsC, pB, pC, pD] at hn)
  have HN := Lib.hid hn
  clear hn
  have HK := Lib.hid (HFI.out (World.alloc v (.cells #[.int .u64 a.1, .int .u64 a.2, .int .u64 b.1, .int .u64 b.2, .int .u64 c.1, .int .u64 c.2] 24)) _ (pts3 (HN.out.at 4 rfl)) (HN.out.lt 4 rfl))
  ((try dsimp only); repeat (first | go_values | go_skip | go_guarded | go_step | go_upon))
  refine HK.out.mono ?_
  rintro e w0 ⟨rfl, hb⟩
  have hm := (HN.out.keep hb)
  clear HK HM hb c0_0 c0_1 c0_2 c0_3 c1_0 c1_1 c1_2 c1_3 c2_0 c2_1 c2_2 c2_3 HN
  (try simp only [List.nil_append, List.cons_append, World.size_alloc, List.set_cons_zero, List.set_cons_succ, putsC, pB, pC, pD] at hm)
  have HM := Lib.hid hm
  clear hm
  go_upto_region 3 with (fail)
  obtain ⟨c2_0, c2_1, c2_2, c2_3⟩ := rw2 (HM.out.at 2 rfl)
  have HK := Lib.hid (HA.out c w0)
  ((try dsimp only); repeat (first | go_values | go_skip | go_guarded | go_step | go_upon))
  refine HK.out.mono ?_
  rintro e w1 ⟨rfl, hb⟩
  have hm := (HM.out.keep hb)
  clear HK HM hb c2_0 c2_1 c2_2 c2_3
  (try simp only [List.nil_append, List.cons_append, World.size_alloc, List.set_cons_zero, List.set_cons_succ, putsC, pB, pC, pD] at hm)
  have HM := Lib.hid hm
  clear hm
  have HK := Lib.hid (HV.out w1)
  ((try dsimp only); repeat (first | go_values | go_skip | go_guarded | go_step | go_upon))
  refine HK.out.mono ?_
  rintro e w2 ⟨E2, F2, G2, I2, rfl, hf, hb⟩
  have hm : Bx w.heap.size w (World.alloc w2 (.cells #[.bool (decide (pc.1.num < 0)), .slice E2 (qn pc.1).length (qn pc.1).length, .slice F2 (qd pc.1).length (qd pc.1).length, .bool (decide (pc.2.num < 0)), .slice G2 (qn pc.2).length (qn pc.2).length, .slice I2 (qd pc.2).length (qd pc.2).length] 89)) _ _ := ((HM.out.call2 hf hb).alloc (.cells #[.bool (decide (pc.1.num < 0)), .slice E2 (qn pc.1).length (qn pc.1).length, .slice F2 (qd pc.1).length (qd pc.1).length, .bool (decide (pc.2.num < 0)), .slice G2 (qn pc.2).length (qn pc.2).length, .slice I2 (qd pc.2).length (qd pc.2).length] 89 (0, 0)))
  clear HK HM hf hb 
  go_upto_region 4 with (fail)
  generalize (World.alloc w2 _) = v3 at *
  (try simp only [List.nil_append, List.cons_append, World.size_alloc, List.set_cons_zero, List.set_cons_succ, putsC, pB, pC, pD] at hm)
  have HM := Lib.hid hm
  clear hm
  refine start_ (n := 11) (S := fun w' => w'.heap[w.heap.size]? = v3.heap[w.heap.size]? ∧ w'.heap[w.heap.size + 1]? = v3.heap[w.heap.size + 1]? ∧ w'.heap[w2.heap.size]? = v3.heap[w2.heap.size]?) (ds := [10]) (bt 11 0) (by kernel_rfl) rfl rfl ((And.intro rfl (And.intro rfl rfl))) (fun hHeld => ?_)
  refine ld_ 0 20 ?_ hHeld ?_ ?_; rotate_left
  · rintro w' hs
    obtain ⟨q0, q1, q2, q3, q4, q5, q6, q7, q8, q9, q10, q11⟩ := rw6 ((hs.2.2).trans (HM.out.at 5 rfl))
    clear hs
    go_simp; with_reducible rfl
  refine ld_ 1 21 ?_ hHeld ?_ ?_; rotate_left
  · rintro w' hs
    obtain ⟨q0, q1, q2, q3⟩ := rw2 ((hs.1).trans (HM.out.at 0 rfl))
    clear hs
    go_simp; with_reducible rfl
  refine ld_ 3 23 ?_ hHeld ?_ ?_; rotate_left
  · rintro w' hs
    obtain ⟨q0, q1, q2, q3⟩ := rw2 ((hs.2.1).trans (HM.out.at 1 rfl))
    clear hs
    go_simp; with_reducible rfl
  refine ld_ 6 26 ?_ hHeld ?_ ?_; rotate_left
  · rintro w' hs
    obtain ⟨q0, q1, q2, q3, q4, q5, q6, q7, q8, q9, q10, q11⟩ := rw6 ((hs.2.2).trans (HM.out.at 5 rfl))
    clear hs
    go_simp; with_reducible rfl
  refine join_ (σ := Option Addr × Option Addr × Option Addr × Option Addr × Option Addr × Option Addr × Option Addr × Option Addr × Nat) 1 (bt 11 1023) (fun s => [(22, (pt (zp a))), (24, (pt (zp b))), (25, (st (zp a) (zp b))), (27, (pv (s.1) (s.2.1) (s.2.2.1) (s.2.2.2.1) f)), (28, (pv (s.2.2.2.2.1) (s.2.2.2.2.2.1) (s.2.2.2.2.2.2.1) (s.2.2.2.2.2.2.2.1) v0)), (9, .pointer (some ⟨(s.2.2.2.2.2.2.2.2), 0, none⟩))]) (fun s w' => Bx v3.heap.size v3 w' [((s.2.2.2.2.2.2.2.2), zV)] [((s.1), (s.2.1), f.1), ((s.2.2.1), (s.2.2.2.1), f.2), ((s.2.2.2.2.1), (s.2.2.2.2.2.1), v0.1), ((s.2.2.2.2.2.2.1), (s.2.2.2.2.2.2.2.1), v0.2)]) ?_ ?_
  rotate_left
  · intro J0
    refine join_ (σ := Option Addr × Option Addr × Option Addr × Option Addr × Option Addr × Option Addr × Option Addr × Option Addr × Nat) 2 (bt 11 511) (fun s => [(22, (pt (zp a))), (24, (pt (zp b))), (25, (st (zp a) (zp b))), (27, (pv (s.1) (s.2.1) (s.2.2.1) (s.2.2.2.1) f)), (28, (pv (s.2.2.2.2.1) (s.2.2.2.2.2.1) (s.2.2.2.2.2.2.1) (s.2.2.2.2.2.2.2.1) v0))]) (fun s w' => Bx v3.heap.size v3 w' [] [((s.1), (s.2.1), f.1), ((s.2.2.1), (s.2.2.2.1), f.2), ((s.2.2.2.2.1), (s.2.2.2.2.2.1), v0.1), ((s.2.2.2.2.2.2.1), (s.2.2.2.2.2.2.2.1), v0.2)]) ?_ ?_
    · rintro ⟨E4_7, F4_7, G4_7, I4_7, E4_8, F4_8, G4_8, I4_8, g4_9⟩ wj hF
      try dsimp only at hF ⊢
      refine nx ?_
      refine o1 9 9 (bt 11 1023) ?_
      · intro K hK
        refine al_ (.cells #[.bool false, .slice none 0 0, .slice none 0 0, .bool false, .slice none 0 0, .slice none 0 0] 89) ?_
        have hN := hF.alloc zV
        refine hK.out _ _ (by exact (And.intro (hN.m.b.block _ (HM.out.lt 0 rfl)) (And.intro (hN.m.b.block _ (HM.out.lt 1 rfl)) (hN.m.b.block _ (HM.out.lt 5 rfl))))) (fun hHeld => ?_)
        exact nj (J0 (E4_7, F4_7, G4_7, I4_7, E4_8, F4_8, G4_8, I4_8, wj.heap.size) _ hN)
    intro J1
    refine join_ (σ := Option Addr × Option Addr × Option Addr × Option Addr × Option Addr × Option Addr × Option Addr × Option Addr × Nat) 2 (bt 11 767) (fun s => [(22, (pt (zp a))), (24, (pt (zp b))), (25, (st (zp a) (zp b))), (27, (pv (s.1) (s.2.1) (s.2.2.1) (s.2.2.2.1) f)), (9, .pointer (some ⟨(s.2.2.2.2.2.2.2.2), 0, none⟩))]) (fun s w' => Bx v3.heap.size v3 w' [((s.2.2.2.2.2.2.2.2), zV)] [((s.1), (s.2.1), f.1), ((s.2.2.1), (s.2.2.2.1), f.2)]) ?_ ?_
    · rintro ⟨E4_7, F4_7, G4_7, I4_7, E4_8, F4_8, G4_8, I4_8, g4_9⟩ wj hF
      try dsimp only at hF ⊢
      refine nx ?_
      refine o1 8 28 (bt 11 1023) ?_
      · intro K hK
        refine go_ Tryz.func62 #[.agg #[.bool (decide (pc.1.num < 0)), .slice E2 (qn pc.1).length (qn pc.1).length, .slice F2 (qd pc.1).length (qd pc.1).length, .bool (decide (pc.2.num < 0)), .slice G2 (qn pc.2).length (qn pc.2).length, .slice I2 (qd pc.2).length (qd pc.2).length], .agg #[.bool (decide (f.1.num < 0)), .slice E4_7 (qn f.1).length (qn f.1).length, .slice F4_7 (qd f.1).length (qd f.1).length, .bool (decide (f.2.num < 0)), .slice G4_7 (qn f.2).length (qn f.2).length, .slice I4_7 (qd f.2).length (qd f.2).length]] ?_
        with_reducible refine (VM.out _ _ _ _ _ _ _ _ wj ⟨((HM.out.keep hF.m.b).ins 0 rfl), ((HM.out.keep hF.m.b).ins 1 rfl)⟩ ⟨(hF.ins 0 rfl), (hF.ins 1 rfl)⟩).mono ?_
        rintro e w' ⟨E4_8, F4_8, G4_8, I4_8, rfl, hf, hb⟩
        refine ⟨_, rfl, ?_⟩
        have hN := hF.call2 hf hb
        refine hK.out _ _ (by exact (And.intro (hN.m.b.block _ (HM.out.lt 0 rfl)) (And.intro (hN.m.b.block _ (HM.out.lt 1 rfl)) (hN.m.b.block _ (HM.out.lt 5 rfl))))) (fun hHeld => ?_)
        exact nj (J0 (E4_7, F4_7, G4_7, I4_7, E4_8, F4_8, G4_8, I4_8, g4_9) _ hN)
    intro J2
    refine join_ (σ := Option Addr × Option Addr × Option Addr × Option Addr × Option Addr × Option Addr × Option Addr × Option Addr × Nat) 3 (bt 11 255) (fun s => [(22, (pt (zp a))), (24, (pt (zp b))), (25, (st (zp a) (zp b))), (27, (pv (s.1) (s.2.1) (s.2.2.1) (s.2.2.2.1) f))]) (fun s w' => Bx v3.heap.size v3 w' [] [((s.1), (s.2.1), f.1), ((s.2.2.1), (s.2.2.2.1), f.2)]) ?_ ?_
    · rintro ⟨E4_7, F4_7, G4_7, I4_7, E4_8, F4_8, G4_8, I4_8, g4_9⟩ wj hF
      try dsimp only at hF ⊢
      refine nx ?_
      refine o2 8 28 9 9 (bt 11 511) (bt 11 767) ?_ ?_
      · intro K hK
        refine go_ Tryz.func62 #[.agg #[.bool (decide (pc.1.num < 0)), .slice E2 (qn pc.1).length (qn pc.1).length, .slice F2 (qd pc.1).length (qd pc.1).length, .bool (decide (pc.2.num < 0)), .slice G2 (qn pc.2).length (qn pc.2).length, .slice I2 (qd pc.2).length (qd pc.2).length], .agg #[.bool (decide (f.1.num < 0)), .slice E4_7 (qn f.1).length (qn f.1).length, .slice F4_7 (qd f.1).length (qd f.1).length, .bool (decide (f.2.num < 0)), .slice G4_7 (qn f.2).length (qn f.2).length, .slice I4_7 (qd f.2).length (qd f.2).length]] ?_
        with_reducible refine (VM.out _ _ _ _ _ _ _ _ wj ⟨((HM.out.keep hF.m.b).ins 0 rfl), ((HM.out.keep hF.m.b).ins 1 rfl)⟩ ⟨(hF.ins 0 rfl), (hF.ins 1 rfl)⟩).mono ?_
        rintro e w' ⟨E4_8, F4_8, G4_8, I4_8, rfl, hf, hb⟩
        refine ⟨_, rfl, ?_⟩
        have hN := hF.call2 hf hb
        refine hK.out _ _ (by exact (And.intro (hN.m.b.block _ (HM.out.lt 0 rfl)) (And.intro (hN.m.b.block _ (HM.out.lt 1 rfl)) (hN.m.b.block _ (HM.out.lt 5 rfl))))) (fun hHeld => ?_)
        exact nj (J1 (E4_7, F4_7, G4_7, I4_7, E4_8, F4_8, G4_8, I4_8, g4_9) _ hN)
      · intro K hK
        refine al_ (.cells #[.bool false, .slice none 0 0, .slice none 0 0, .bool false, .slice none 0 0, .slice none 0 0] 89) ?_
        have hN := hF.alloc zV
        refine hK.out _ _ (by exact (And.intro (hN.m.b.block _ (HM.out.lt 0 rfl)) (And.intro (hN.m.b.block _ (HM.out.lt 1 rfl)) (hN.m.b.block _ (HM.out.lt 5 rfl))))) (fun hHeld => ?_)
        exact nj (J2 (E4_7, F4_7, G4_7, I4_7, E4_8, F4_8, G4_8, I4_8, wj.heap.size) _ hN)
    intro J3
    refine join_ (σ := Option Addr × Option Addr × Option Addr × Option Addr × Option Addr × Option Addr × Option Addr × Option Addr × Nat) 3 (bt 11 639) (fun s => [(22, (pt (zp a))), (24, (pt (zp b))), (25, (st (zp a) (zp b))), (9, .pointer (some ⟨(s.2.2.2.2.2.2.2.2), 0, none⟩))]) (fun s w' => Bx v3.heap.size v3 w' [((s.2.2.2.2.2.2.2.2), zV)] []) ?_ ?_
    · rintro ⟨E4_7, F4_7, G4_7, I4_7, E4_8, F4_8, G4_8, I4_8, g4_9⟩ wj hF
      try dsimp only at hF ⊢
      refine nx ?_
      refine o1 7 27 (bt 11 767) ?_
      · intro K hK
        refine go_ Tryz.func60 #[.agg #[.int .u64 (zp a).1, .int .u64 (zp a).2, .int .u64 (zp b).1, .int .u64 (zp b).2], .agg #[.bool (decide (pc.1.num < 0)), .slice E2 (qn pc.1).length (qn pc.1).length, .slice F2 (qd pc.1).length (qd pc.1).length, .bool (decide (pc.2.num < 0)), .slice G2 (qn pc.2).length (qn pc.2).length, .slice I2 (qd pc.2).length (qd pc.2).length]] ?_
        with_reducible refine (HT.out _ _ _ _ wj ⟨((HM.out.keep hF.m.b).ins 0 rfl), ((HM.out.keep hF.m.b).ins 1 rfl)⟩).mono ?_
        rintro e w' ⟨E4_7, F4_7, G4_7, I4_7, rfl, hf, hb⟩
        refine ⟨_, rfl, ?_⟩
        have hN := hF.call2 hf hb
        refine hK.out _ _ (by exact (And.intro (hN.m.b.block _ (HM.out.lt 0 rfl)) (And.intro (hN.m.b.block _ (HM.out.lt 1 rfl)) (hN.m.b.block _ (HM.out.lt 5 rfl))))) (fun hHeld => ?_)
        exact nj (J2 (E4_7, F4_7, G4_7, I4_7, E4_8, F4_8, G4_8, I4_8, g4_9) _ hN)
    intro J4
    refine join_ (σ := Option Addr × Option Addr × Option Addr × Option Addr × Option Addr × Option Addr × Option Addr × Option Addr × Nat) 4 (bt 11 127) (fun s => [(22, (pt (zp a))), (24, (pt (zp b))), (25, (st (zp a) (zp b)))]) (fun s w' => Bx v3.heap.size v3 w' [] []) ?_ ?_
    · rintro ⟨E4_7, F4_7, G4_7, I4_7, E4_8, F4_8, G4_8, I4_8, g4_9⟩ wj hF
      try dsimp only at hF ⊢
      refine nx ?_
      refine o2 7 27 9 9 (bt 11 255) (bt 11 639) ?_ ?_
      · intro K hK
        refine go_ Tryz.func60 #[.agg #[.int .u64 (zp a).1, .int .u64 (zp a).2, .int .u64 (zp b).1, .int .u64 (zp b).2], .agg #[.bool (decide (pc.1.num < 0)), .slice E2 (qn pc.1).length (qn pc.1).length, .slice F2 (qd pc.1).length (qd pc.1).length, .bool (decide (pc.2.num < 0)), .slice G2 (qn pc.2).length (qn pc.2).length, .slice I2 (qd pc.2).length (qd pc.2).length]] ?_
        with_reducible refine (HT.out _ _ _ _ wj ⟨((HM.out.keep hF.m.b).ins 0 rfl), ((HM.out.keep hF.m.b).ins 1 rfl)⟩).mono ?_
        rintro e w' ⟨E4_7, F4_7, G4_7, I4_7, rfl, hf, hb⟩
        refine ⟨_, rfl, ?_⟩
        have hN := hF.call2 hf hb
        refine hK.out _ _ (by exact (And.intro (hN.m.b.block _ (HM.out.lt 0 rfl)) (And.intro (hN.m.b.block _ (HM.out.lt 1 rfl)) (hN.m.b.block _ (HM.out.lt 5 rfl))))) (fun hHeld => ?_)
        exact nj (J3 (E4_7, F4_7, G4_7, I4_7, E4_8, F4_8, G4_8, I4_8, g4_9) _ hN)
      · intro K hK
        refine al_ (.cells #[.bool false, .slice none 0 0, .slice none 0 0, .bool false, .slice none 0 0, .slice none 0 0] 89) ?_
        have hN := hF.alloc zV
        refine hK.out _ _ (by exact (And.intro (hN.m.b.block _ (HM.out.lt 0 rfl)) (And.intro (hN.m.b.block _ (HM.out.lt 1 rfl)) (hN.m.b.block _ (HM.out.lt 5 rfl))))) (fun hHeld => ?_)
        exact nj (J4 (E4_7, F4_7, G4_7, I4_7, E4_8, F4_8, G4_8, I4_8, wj.heap.size) _ hN)
    intro J5
    refine join_ (σ := Option Addr × Option Addr × Option Addr × Option Addr × Option Addr × Option Addr × Option Addr × Option Addr × Nat) 4 (bt 11 607) (fun s => [(22, (pt (zp a))), (24, (pt (zp b))), (9, .pointer (some ⟨(s.2.2.2.2.2.2.2.2), 0, none⟩))]) (fun s w' => Bx v3.heap.size v3 w' [((s.2.2.2.2.2.2.2.2), zV)] []) ?_ ?_
    · rintro ⟨E4_7, F4_7, G4_7, I4_7, E4_8, F4_8, G4_8, I4_8, g4_9⟩ wj hF
      try dsimp only at hF ⊢
      refine nx ?_
      refine pv_ 5 25 ?_
      exact nj (J4 (E4_7, F4_7, G4_7, I4_7, E4_8, F4_8, G4_8, I4_8, g4_9) _ hF)
    intro J6
    refine join_ (σ := Option Addr × Option Addr × Option Addr × Option Addr × Option Addr × Option Addr × Option Addr × Option Addr × Nat) 5 (bt 11 95) (fun s => [(22, (pt (zp a))), (24, (pt (zp b)))]) (fun s w' => Bx v3.heap.size v3 w' [] []) ?_ ?_
    · rintro ⟨E4_7, F4_7, G4_7, I4_7, E4_8, F4_8, G4_8, I4_8, g4_9⟩ wj hF
      try dsimp only at hF ⊢
      refine nx ?_
      refine pv_ 5 25 ?_
      exact nj (J5 (E4_7, F4_7, G4_7, I4_7, E4_8, F4_8, G4_8, I4_8, g4_9) _ hF)
    intro J7
    refine join_ (σ := Option Addr × Option Addr × Option Addr × Option Addr × Option Addr × Option Addr × Option Addr × Option Addr × Nat) 5 (bt 11 591) (fun s => [(22, (pt (zp a))), (9, .pointer (some ⟨(s.2.2.2.2.2.2.2.2), 0, none⟩))]) (fun s w' => Bx v3.heap.size v3 w' [((s.2.2.2.2.2.2.2.2), zV)] []) ?_ ?_
    · rintro ⟨E4_7, F4_7, G4_7, I4_7, E4_8, F4_8, G4_8, I4_8, g4_9⟩ wj hF
      try dsimp only at hF ⊢
      refine nx ?_
      refine o1 4 24 (bt 11 607) ?_
      · intro K hK
        refine go_ Tryz.func36 #[.agg #[.int .u64 b.1, .int .u64 b.2]] ?_
        with_reducible refine (HA.out b wj).mono ?_
        rintro e w' ⟨rfl, hb⟩
        refine ⟨_, rfl, ?_⟩
        have hN := hF.keep hb
        refine hK.out _ _ (by exact (And.intro (hN.m.b.block _ (HM.out.lt 0 rfl)) (And.intro (hN.m.b.block _ (HM.out.lt 1 rfl)) (hN.m.b.block _ (HM.out.lt 5 rfl))))) (fun hHeld => ?_)
        exact nj (J6 (E4_7, F4_7, G4_7, I4_7, E4_8, F4_8, G4_8, I4_8, g4_9) _ hN)
    intro J8
    refine join_ (σ := Option Addr × Option Addr × Option Addr × Option Addr × Option Addr × Option Addr × Option Addr × Option Addr × Nat) 6 (bt 11 79) (fun s => [(22, (pt (zp a)))]) (fun s w' => Bx v3.heap.size v3 w' [] []) ?_ ?_
    · rintro ⟨E4_7, F4_7, G4_7, I4_7, E4_8, F4_8, G4_8, I4_8, g4_9⟩ wj hF
      try dsimp only at hF ⊢
      refine nx ?_
      refine o2 4 24 9 9 (bt 11 95) (bt 11 591) ?_ ?_
      · intro K hK
        refine go_ Tryz.func36 #[.agg #[.int .u64 b.1, .int .u64 b.2]] ?_
        with_reducible refine (HA.out b wj).mono ?_
        rintro e w' ⟨rfl, hb⟩
        refine ⟨_, rfl, ?_⟩
        have hN := hF.keep hb
        refine hK.out _ _ (by exact (And.intro (hN.m.b.block _ (HM.out.lt 0 rfl)) (And.intro (hN.m.b.block _ (HM.out.lt 1 rfl)) (hN.m.b.block _ (HM.out.lt 5 rfl))))) (fun hHeld => ?_)
        exact nj (J7 (E4_7, F4_7, G4_7, I4_7, E4_8, F4_8, G4_8, I4_8, g4_9) _ hN)
      · intro K hK
        refine al_ (.cells #[.bool false, .slice none 0 0, .slice none 0 0, .bool false, .slice none 0 0, .slice none 0 0] 89) ?_
        have hN := hF.alloc zV
        refine hK.out _ _ (by exact (And.intro (hN.m.b.block _ (HM.out.lt 0 rfl)) (And.intro (hN.m.b.block _ (HM.out.lt 1 rfl)) (hN.m.b.block _ (HM.out.lt 5 rfl))))) (fun hHeld => ?_)
        exact nj (J8 (E4_7, F4_7, G4_7, I4_7, E4_8, F4_8, G4_8, I4_8, wj.heap.size) _ hN)
    intro J9
    refine join_ (σ := Option Addr × Option Addr × Option Addr × Option Addr × Option Addr × Option Addr × Option Addr × Option Addr × Nat) 6 (bt 11 587) (fun s => [(9, .pointer (some ⟨(s.2.2.2.2.2.2.2.2), 0, none⟩))]) (fun s w' => Bx v3.heap.size v3 w' [((s.2.2.2.2.2.2.2.2), zV)] []) ?_ ?_
    · rintro ⟨E4_7, F4_7, G4_7, I4_7, E4_8, F4_8, G4_8, I4_8, g4_9⟩ wj hF
      try dsimp only at hF ⊢
      refine nx ?_
      refine o1 2 22 (bt 11 591) ?_
      · intro K hK
        refine go_ Tryz.func36 #[.agg #[.int .u64 a.1, .int .u64 a.2]] ?_
        with_reducible refine (HA.out a wj).mono ?_
        rintro e w' ⟨rfl, hb⟩
        refine ⟨_, rfl, ?_⟩
        have hN := hF.keep hb
        refine hK.out _ _ (by exact (And.intro (hN.m.b.block _ (HM.out.lt 0 rfl)) (And.intro (hN.m.b.block _ (HM.out.lt 1 rfl)) (hN.m.b.block _ (HM.out.lt 5 rfl))))) (fun hHeld => ?_)
        exact nj (J8 (E4_7, F4_7, G4_7, I4_7, E4_8, F4_8, G4_8, I4_8, g4_9) _ hN)
    intro J10
    refine join_ (σ := Option Addr × Option Addr × Option Addr × Option Addr × Option Addr × Option Addr × Option Addr × Option Addr × Nat) 7 (bt 11 75) (fun s => []) (fun s w' => Bx v3.heap.size v3 w' [] []) ?_ ?_
    · rintro ⟨E4_7, F4_7, G4_7, I4_7, E4_8, F4_8, G4_8, I4_8, g4_9⟩ wj hF
      try dsimp only at hF ⊢
      refine nx ?_
      refine o2 2 22 9 9 (bt 11 79) (bt 11 587) ?_ ?_
      · intro K hK
        refine go_ Tryz.func36 #[.agg #[.int .u64 a.1, .int .u64 a.2]] ?_
        with_reducible refine (HA.out a wj).mono ?_
        rintro e w' ⟨rfl, hb⟩
        refine ⟨_, rfl, ?_⟩
        have hN := hF.keep hb
        refine hK.out _ _ (by exact (And.intro (hN.m.b.block _ (HM.out.lt 0 rfl)) (And.intro (hN.m.b.block _ (HM.out.lt 1 rfl)) (hN.m.b.block _ (HM.out.lt 5 rfl))))) (fun hHeld => ?_)
        exact nj (J9 (E4_7, F4_7, G4_7, I4_7, E4_8, F4_8, G4_8, I4_8, g4_9) _ hN)
      · intro K hK
        refine al_ (.cells #[.bool false, .slice none 0 0, .slice none 0 0, .bool false, .slice none 0 0, .slice none 0 0] 89) ?_
        have hN := hF.alloc zV
        refine hK.out _ _ (by exact (And.intro (hN.m.b.block _ (HM.out.lt 0 rfl)) (And.intro (hN.m.b.block _ (HM.out.lt 1 rfl)) (hN.m.b.block _ (HM.out.lt 5 rfl))))) (fun hHeld => ?_)
        exact nj (J10 (E4_7, F4_7, G4_7, I4_7, E4_8, F4_8, G4_8, I4_8, wj.heap.size) _ hN)
    intro J11
    exact nj (J11 (none, none, none, none, none, none, none, none, 0) _ ((Bx.start _).drew))
  rintro ⟨E4_7, F4_7, G4_7, I4_7, E4_8, F4_8, G4_8, I4_8, g4_9⟩ wj hF
  try dsimp only at hF ⊢
  refine nx ?_
  have hG := HM.out.join hF
  (try simp only [List.nil_append, List.cons_append, World.size_alloc, List.set_cons_zero, List.set_cons_succ, putsC, pB, pC, pD] at hG)
  have hHeld := And.intro True.intro (And.intro (hF.m.b.block _ (HM.out.lt 0 rfl)) (And.intro (hF.m.b.block _ (HM.out.lt 1 rfl)) (hF.m.b.block _ (HM.out.lt 5 rfl))))
  clear HM hF
  refine last_ (i := 10) (N := none) (bt 11 2047) rfl rfl (by kernel_rfl) (by decide) (fun K hK => ?_)
  obtain ⟨y0, y1, y2, y3, y4, y5, y6, y7, y8, y9, y10, y11⟩ := rw6 (hG.at 6 rfl)
  refine skip_ (w1 := puts (g4_9) [(0, .bool (decide (v0.1.num < 0))), (1, .slice E4_8 (qn v0.1).length (qn v0.1).length), (2, .slice F4_8 (qd v0.1).length (qd v0.1).length), (3, .bool (decide (v0.2.num < 0))), (4, .slice G4_8 (qn v0.2).length (qn v0.2).length), (5, .slice I4_8 (qd v0.2).length (qd v0.2).length)] wj) (by rfl) rfl ?_ ?_
  · go_simp
    rfl
  refine hK.out _ _ ?_
  clear hK K y0 y1 y2 y3 y4 y5 y6 y7 y8 y9 y10 y11
  replace hG := hG.puts 6 rfl (by decide) [(0, .bool (decide (v0.1.num < 0))), (1, .slice E4_8 (qn v0.1).length (qn v0.1).length), (2, .slice F4_8 (qd v0.1).length (qd v0.1).length), (3, .bool (decide (v0.2.num < 0))), (4, .slice G4_8 (qn v0.2).length (qn v0.2).length), (5, .slice I4_8 (qd v0.2).length (qd v0.2).length)]
  (try simp only [List.nil_append, List.cons_append, World.size_alloc, List.set_cons_zero, List.set_cons_succ, putsC, pB, pC, pD] at hG)
  generalize puts (g4_9) _ wj = wk5 at *
  refine done_ (by kernel_rfl) ?_
  (try simp only [List.nil_append, List.cons_append, World.size_alloc, List.set_cons_zero, List.set_cons_succ, putsC, pB, pC, pD] at hG)
  have HM := Lib.hid hG
  clear hG hHeld
  go_upto_region 5 with (fail)
  obtain ⟨c6_0, c6_1, c6_2, c6_3, c6_4, c6_5, c6_6, c6_7, c6_8, c6_9, c6_10, c6_11⟩ := rw6 (HM.out.at 6 rfl)
  have HK := Lib.hid (VD.out _ _ _ _ _ _ _ _ wk5 ⟨(HM.out.ins 4 rfl), (HM.out.ins 5 rfl)⟩ ⟨(HM.out.ins 4 rfl), (HM.out.ins 5 rfl)⟩)
  ((try dsimp only); repeat (first | go_values | go_skip | go_guarded | go_step | go_upon))
  refine HK.out.mono ?_
  rintro e w6 ⟨E6, F6, rfl, hf, hb⟩
  have hm := (HM.out.call hf hb)
  clear HK HM hf hb c6_0 c6_1 c6_2 c6_3 c6_4 c6_5 c6_6 c6_7 c6_8 c6_9 c6_10 c6_11
  (try simp only [List.nil_append, List.cons_append, World.size_alloc, List.set_cons_zero, List.set_cons_succ, putsC, pB, pC, pD] at hm)
  have HM := Lib.hid hm
  clear hm
  obtain ⟨c3_0, c3_1, c3_2, c3_3, c3_4, c3_5⟩ := rw3 (HM.out.at 3 rfl)
  have hm : Bx w.heap.size w (World.setCell (World.setCell (World.setCell w6 ⟨w.heap.size + 1 + 1 + 1, 0, none⟩ (.bool (decide (d.num < 0)))) ⟨w.heap.size + 1 + 1 + 1, 1, none⟩ (.slice E6 (qn d).length (qn d).length)) ⟨w.heap.size + 1 + 1 + 1, 2, none⟩ (.slice F6 (qd d).length (qd d).length)) _ _ := (HM.out.puts 3 rfl (by decide) [(0, .bool (decide (d.num < 0))), (1, .slice E6 (qn d).length (qn d).length), (2, .slice F6 (qd d).length (qd d).length)])
  ((try dsimp only); repeat (first | go_values | go_skip | go_guarded | go_step | go_upon))
  refine bodyPost_ret (results_row_tmp rfl _ _ (w.heap.size + 1 + 1 + 1) _ _ _ _ rfl (hm.at 3 rfl) rfl rfl rfl) rfl ?_
  exact ⟨E6, F6, rfl, hm.fresh 6 rfl, hm.m.b⟩
end Go.Proofs.YtggfppgjabembaaGreatDoor

namespace Go.Proofs.YtggfppgjabembaaGreatDoor
open Go.RowKit Go.Proofs.YtggfppgjabembaaGreatDoorW.PrintLast
set_option linter.unusedVariables false
set_option linter.unusedSimpArgs false
theorem word1 {w : World} {g : Nat} {x : Int} (h : w.heap[g]? = some (.cells #[.int .u64 x] 22 (0, 0))) : WordsIn 0 w.heap.size w (some ⟨g, 0, none⟩) [x] := by
  refine Or.inr ⟨g, 0, rfl, Nat.zero_le _, heap_lt h, fun i hi => ?_⟩
  match i, hi with
  | 0, _ => exact (cell_of_cells h 0).trans rfl
theorem val_one (x : Int) : val [x] = x := by simp [val]
theorem rNew1 (k m : Int) (g1 g2 : Nat) (w : World) (hk0 : 0 ≤ k) (hk1 : k ≤ 18446744073709551615) (hm0 : 0 < m) (hm1 : m ≤ 18446744073709551615)
    (h1 : w.heap[g1]? = some (.cells #[.int .u64 k] 22 (0, 0))) (h2 : w.heap[g2]? = some (.cells #[.int .u64 m] 22 (0, 0))) :
    Calls Tryz.prog 46 #[.bool false, .slice (some ⟨g1, 0, none⟩) 1 1, .slice (some ⟨g2, 0, none⟩) 1 1] w fun e w' => ∃ E F, e = .returned (.tuple #[qv E F (quo false k m), .int .i64 0]) ∧ RatFresh w.heap.size w' E F (quo false k m) ∧ Below w.heap.size w w' := by
  have hl : ∀ x : Int, 0 ≤ x → x ≤ 18446744073709551615 → (limbs (val [x])).length ≤ 4096 := fun x h0 h1 => by
    rw [val_one]
    exact Nat.le_trans (len_of (n := 64) (by omega) (by omega)) (by omega)
  have := rNewQ false (some ⟨g1, 0, none⟩) (some ⟨g2, 0, none⟩) 1 1 0 w.heap.size [k] [m] w (Ws.cons hk0 hk1 Ws.nil) (word1 h1) (Ws.cons (Int.le_of_lt hm0) hm1 Ws.nil) (word1 h2) (Nat.le_refl _)
    (by rw [val_one]; exact hm0) (by simp) (by simp) (hl k hk0 hk1) (hl m (Int.le_of_lt hm0) hm1)
  rw [val_one, val_one] at this
  exact this
theorem t16_sz {k : Int} (h0 : 0 ≤ k) (h1 : k ≤ 16) : Sz 5 (quo false k 16) := sz_quo h0 (by decide) (by omega) (by omega)
set_option maxRecDepth 100000 in
set_option maxHeartbeats 3200000 in
theorem lBetween (a b : Pt) (k : Int) (w : World) (fa : FinP a) (fb : FinP b) (hk0 : 0 ≤ k) (hk1 : k ≤ 16) :
    Calls Tryz.prog 29 #[pt a, pt b, .int .i64 k] w fun e w' => ∃ E F G I, e = .returned (.tuple #[qv E F (fval a.1 + (fval b.1 - fval a.1) * quo false k 16), qv G I (fval a.2 + (fval b.2 - fval a.2) * quo false k 16), .bool true]) ∧
      RatFresh w.heap.size w' E F (fval a.1 + (fval b.1 - fval a.1) * quo false k 16) ∧ RatFresh w.heap.size w' G I (fval a.2 + (fval b.2 - fval a.2) * quo false k 16) ∧ Below w.heap.size w w' := by
  have V1 := Lib.hid (fun wz => vValue a.1 wz fa.1)
  have V2 := Lib.hid (fun wz => vValue a.2 wz fa.2)
  have V3 := Lib.hid (fun wz => vValue b.1 wz fb.1)
  have V4 := Lib.hid (fun wz => vValue b.2 wz fb.2)
  have VN := Lib.hid (fun g1 g2 wz h1 h2 => rNew1 k 16 g1 g2 wz hk0 (by omega) (by omega) (by omega) h1 h2)
  have hcv : k % 18446744073709551616 = k := by omega
  have s1 := fval_sz fa.1
  have s2 := fval_sz fa.2
  have s3 := fval_sz fb.1
  have s4 := fval_sz fb.2
  have s5 := t16_sz hk0 hk1
  generalize fval a.1 = ax at *
  generalize fval a.2 = ay at *
  generalize fval b.1 = bx at *
  generalize fval b.2 = bY at *
  generalize quo false k 16 = t at *
  have t1 := s3.sub s1
  have t2 := s4.sub s2
  have O1 := Lib.hid (fun A B C D lo up wz hp hq hu => rSubQ A B C D lo up _ _ bx ax wz hp hq hu s3 s1 (by omega))
  have O2 := Lib.hid (fun A B C D lo up wz hp hq hu => rSubQ A B C D lo up _ _ bY ay wz hp hq hu s4 s2 (by omega))
  generalize bx - ax = ux at *
  generalize bY - ay = uy at *
  have r1 := t1.mul s5
  have r2 := t2.mul s5
  have O3 := Lib.hid (fun A B C D lo up wz hp hq hu => rMulQ A B C D lo up _ _ ux t wz hp hq hu t1 s5 (by omega))
  have O4 := Lib.hid (fun A B C D lo up wz hp hq hu => rMulQ A B C D lo up _ _ uy t wz hp hq hu t2 s5 (by omega))
  generalize ux * t = vx at *
  generalize uy * t = vy at *
  have O5 := Lib.hid (fun A B C D lo up wz hp hq hu => rAddQ A B C D lo up _ _ ax vx wz hp hq hu s1 r1 (by omega))
  have O6 := Lib.hid (fun A B C D lo up wz hp hq hu => rAddQ A B C D lo up _ _ ay vy wz hp hq hu s2 r2 (by omega))
  generalize ax + vx = x at *
  generalize ay + vy = y at *
  clear s1 s2 s3 s4 s5 t1 t2 r1 r2 hk0 hk1
  unfold qv at *
  unfold pt
  have hmm : Bx w.heap.size w ((((w.alloc (.cells #[.int .u64 a.1, .int .u64 a.2] 24)).alloc (.cells #[.int .u64 b.1, .int .u64 b.2] 24)).alloc (.cells #[.bool false, .slice none 0 0, .slice none 0 0] 45)).alloc (.cells #[.bool false, .slice none 0 0, .slice none 0 0] 45)) _ _ := ((((Bx.start w).alloc (.cells #[.int .u64 a.1, .int .u64 a.2] 24 (0, 0))).alloc (.cells #[.int .u64 b.1, .int .u64 b.2] 24 (0, 0))).alloc (.cells #[.bool false, .slice none 0 0, .slice none 0 0] 45 (0, 0))).alloc (.cells #[.bool false, .slice none 0 0, .slice none 0 0] 45 (0, 0))
  go_enter Tryz.func29, Tryz.ntmps29
  go_upto_region 1 with (fail)
  generalize (World.alloc (World.alloc (World.alloc (World.alloc w _) _) _) _) = v at *
  (try simp only [List.nil_append, List.cons_append, World.size_alloc, List.set_cons_zero, List.set_cons_succ, putsC, pB, pC, pD] at hmm)
  have HM := Lib.hid hmm
  clear hmm
  obtain ⟨c0_0, c0_1, c0_2, c0_3⟩ := rw2 (HM.out.at 0 rfl)
  have HK := Lib.hid (V1.out v)
  ((try dsimp only); repeat (first | go_values | go_skip | go_guarded | go_step | go_upon))
  refine HK.out.mono ?_
  rintro e w0 ⟨E0, F0, rfl, hf, hb⟩
  have hm : Bx w.heap.size w (World.alloc w0 (.cells #[.bool (decide (ax.num < 0)), .slice E0 (qn ax).length (qn ax).length, .slice F0 (qd ax).length (qd ax).length] 45)) _ _ := ((HM.out.call hf hb).alloc (.cells #[.bool (decide (ax.num < 0)), .slice E0 (qn ax).length (qn ax).length, .slice F0 (qd ax).length (qd ax).length] 45 (0, 0)))
  clear HK HM hf hb c0_0 c0_1 c0_2 c0_3
  go_upto_region 2 with (fail)
  generalize (World.alloc w0 _) = v1 at *
  (try simp only [List.nil_append, List.cons_append, World.size_alloc, List.set_cons_zero, List.set_cons_succ, putsC, pB, pC, pD] at hm)
  have HM := Lib.hid hm
  clear hm
  obtain ⟨c0_0, c0_1, c0_2, c0_3⟩ := rw2 (HM.out.at 0 rfl)
  have HK := Lib.hid (V2.out v1)
  ((try dsimp only); repeat (first | go_values | go_skip | go_guarded | go_step | go_upon))
  refine HK.out.mono ?_
  rintro e w2 ⟨E2, F2, rfl, hf, hb⟩
  have hm : Bx w.heap.size w (World.alloc w2 (.cells #[.bool (decide (ay.num < 0)), .slice E2 (qn ay).length (qn ay).length, .slice F2 (qd ay).length (qd ay).length] 45)) _ _ := ((HM.out.call hf hb).alloc (.cells #[.bool (decide (ay.num < 0)), .slice E2 (qn ay).length (qn ay).length, .slice F2 (qd ay).length (qd ay).length] 45 (0, 0)))
  clear HK HM hf hb c0_0 c0_1 c0_2 c0_3
  go_upto_region 3 with (fail)
  generalize (World.alloc w2 _) = v3 at *
  (try simp only [List.nil_append, List.cons_append, World.size_alloc, List.set_cons_zero, List.set_cons_succ, putsC, pB, pC, pD] at hm)
  have HM := Lib.hid hm
  clear hm
  obtain ⟨c1_0, c1_1, c1_2, c1_3⟩ := rw2 (HM.out.at 1 rfl)
  have HK := Lib.hid (V3.out v3)
  ((try dsimp only); repeat (first | go_values | go_skip | go_guarded | go_step | go_upon))
  refine HK.out.mono ?_
  rintro e w4 ⟨E4, F4, rfl, hf, hb⟩
  have hm : Bx w.heap.size w (World.alloc w4 (.cells #[.bool (decide (bx.num < 0)), .slice E4 (qn bx).length (qn bx).length, .slice F4 (qd bx).length (qd bx).length] 45)) _ _ := ((HM.out.call hf hb).alloc (.cells #[.bool (decide (bx.num < 0)), .slice E4 (qn bx).length (qn bx).length, .slice F4 (qd bx).length (qd bx).length] 45 (0, 0)))
  clear HK HM hf hb c1_0 c1_1 c1_2 c1_3
  go_upto_region 4 with (fail)
  generalize (World.alloc w4 _) = v5 at *
  (try simp only [List.nil_append, List.cons_append, World.size_alloc, List.set_cons_zero, List.set_cons_succ, putsC, pB, pC, pD] at hm)
  have HM := Lib.hid hm
  clear hm
  obtain ⟨c1_0, c1_1, c1_2, c1_3⟩ := rw2 (HM.out.at 1 rfl)
  have HK := Lib.hid (V4.out v5)
  ((try dsimp only); repeat (first | go_values | go_skip | go_guarded | go_step | go_upon))
  refine HK.out.mono ?_
  rintro e w6 ⟨E6, F6, rfl, hf, hb⟩
  have hm : Bx w.heap.size w (World.alloc w6 (.cells #[.bool (decide (bY.num < 0)), .slice E6 (qn bY).length (qn bY).length, .slice F6 (qd bY).length (qd bY).length] 45)) _ _ := ((HM.out.call hf hb).alloc (.cells #[.bool (decide (bY.num < 0)), .slice E6 (qn bY).length (qn bY).length, .slice F6 (qd bY).length (qd bY).length] 45 (0, 0)))
  clear HK HM hf hb c1_0 c1_1 c1_2 c1_3
  go_upto_region 5 with (fail)
  generalize (World.alloc w6 _) = v7 at *
  (try simp only [List.nil_append, List.cons_append, World.size_alloc, List.set_cons_zero, List.set_cons_succ, putsC, pB, pC, pD] at hm)
  have HM := Lib.hid hm
  clear hm
  have hn : Bx w.heap.size w (World.alloc (World.alloc v7 (.cells #[.int .u64 k] 22)) (.cells #[.int .u64 16] 22)) _ _ := ((HM.out.alloc (.cells #[.int .u64 k] 22 (0, 0))).alloc (.cells #[.int .u64 16] 22 (0, 0)))
  (try simp only [List.nil_append, List.cons_append, World.size_alloc, List.set_cons_zero, List.set_cons_succ, putsC, pB, pC, pD] at hn)
  have HN := Lib.hid hn
  clear hn
  have HK := Lib.hid (VN.out _ _ (World.alloc (World.alloc v7 (.cells #[.int .u64 k] 22)) (.cells #[.int .u64 16] 22)) (HN.out.at 8 rfl) (HN.out.at 9 rfl))
  ((try dsimp only); repeat (first | go_values | go_skip | go_guarded | go_step | go_upon))
  refine HK.out.mono ?_
  rintro e w8 ⟨E8, F8, rfl, hf, hb⟩
  have hm : Bx w.heap.size w (World.alloc w8 (.cells #[.bool (decide (t.num < 0)), .slice E8 (qn t).length (qn t).length, .slice F8 (qd t).length (qd t).length] 45)) _ _ := ((HN.out.call hf hb).alloc (.cells #[.bool (decide (t.num < 0)), .slice E8 (qn t).length (qn t).length, .slice F8 (qd t).length (qd t).length] 45 (0, 0)))
  clear HK HM hf hb  HN
  go_upto_region 8 with (fail)
  generalize (World.alloc w8 _) = v9 at *
  (try simp only [List.nil_append, List.cons_append, World.size_alloc, List.set_cons_zero, List.set_cons_succ, putsC, pB, pC, pD] at hm)
  have HM := Lib.hid hm
  clear hm
  obtain ⟨c4_0, c4_1, c4_2, c4_3, c4_4, c4_5⟩ := rw3 (HM.out.at 4 rfl)
  obtain ⟨c6_0, c6_1, c6_2, c6_3, c6_4, c6_5⟩ := rw3 (HM.out.at 6 rfl)
  have HK := Lib.hid (O1.out _ _ _ _ _ _ v9 (HM.out.ins 2 rfl) (HM.out.ins 0 rfl) (Nat.le_refl _))
  ((try dsimp only); repeat (first | go_values | go_skip | go_guarded | go_step | go_upon))
  refine HK.out.mono ?_
  rintro e w10 ⟨E10, F10, rfl, hf, hb⟩
  have hm : Bx w.heap.size w (World.alloc w10 (.cells #[.bool (decide (ux.num < 0)), .slice E10 (qn ux).length (qn ux).length, .slice F10 (qd ux).length (qd ux).length] 45)) _ _ := ((HM.out.call hf hb).alloc (.cells #[.bool (decide (ux.num < 0)), .slice E10 (qn ux).length (qn ux).length, .slice F10 (qd ux).length (qd ux).length] 45 (0, 0)))
  clear HK HM hf hb c4_0 c4_1 c4_2 c4_3 c4_4 c4_5 c6_0 c6_1 c6_2 c6_3 c6_4 c6_5
  go_upto_region 9 with (fail)
  generalize (World.alloc w10 _) = v11 at *
  (try simp only [List.nil_append, List.cons_append, World.size_alloc, List.set_cons_zero, List.set_cons_succ, putsC, pB, pC, pD] at hm)
  have HM := Lib.hid hm
  clear hm
  obtain ⟨c5_0, c5_1, c5_2, c5_3, c5_4, c5_5⟩ := rw3 (HM.out.at 5 rfl)
  obtain ⟨c7_0, c7_1, c7_2, c7_3, c7_4, c7_5⟩ := rw3 (HM.out.at 7 rfl)
  have HK := Lib.hid (O2.out _ _ _ _ _ _ v11 (HM.out.ins 3 rfl) (HM.out.ins 1 rfl) (Nat.le_refl _))
  ((try dsimp only); repeat (first | go_values | go_skip | go_guarded | go_step | go_upon))
  refine HK.out.mono ?_
  rintro e w12 ⟨E12, F12, rfl, hf, hb⟩
  have hm : Bx w.heap.size w (World.alloc w12 (.cells #[.bool (decide (uy.num < 0)), .slice E12 (qn uy).length (qn uy).length, .slice F12 (qd uy).length (qd uy).length] 45)) _ _ := ((HM.out.call hf hb).alloc (.cells #[.bool (decide (uy.num < 0)), .slice E12 (qn uy).length (qn uy).length, .slice F12 (qd uy).length (qd uy).length] 45 (0, 0)))
  clear HK HM hf hb c5_0 c5_1 c5_2 c5_3 c5_4 c5_5 c7_0 c7_1 c7_2 c7_3 c7_4 c7_5
  go_upto_region 10 with (fail)
  generalize (World.alloc w12 _) = v13 at *
  (try simp only [List.nil_append, List.cons_append, World.size_alloc, List.set_cons_zero, List.set_cons_succ, putsC, pB, pC, pD] at hm)
  have HM := Lib.hid hm
  clear hm
  obtain ⟨c10_0, c10_1, c10_2, c10_3, c10_4, c10_5⟩ := rw3 (HM.out.at 10 rfl)
  obtain ⟨c11_0, c11_1, c11_2, c11_3, c11_4, c11_5⟩ := rw3 (HM.out.at 11 rfl)
  have HK := Lib.hid (O3.out _ _ _ _ _ _ v13 (HM.out.ins 5 rfl) (HM.out.ins 4 rfl) (Nat.le_refl _))
  ((try dsimp only); repeat (first | go_values | go_skip | go_guarded | go_step | go_upon))
  refine HK.out.mono ?_
  rintro e w14 ⟨E14, F14, rfl, hf, hb⟩
  have hm : Bx w.heap.size w (World.alloc w14 (.cells #[.bool (decide (vx.num < 0)), .slice E14 (qn vx).length (qn vx).length, .slice F14 (qd vx).length (qd vx).length] 45)) _ _ := ((HM.out.call hf hb).alloc (.cells #[.bool (decide (vx.num < 0)), .slice E14 (qn vx).length (qn vx).length, .slice F14 (qd vx).length (qd vx).length] 45 (0, 0)))
  clear HK HM hf hb c10_0 c10_1 c10_2 c10_3 c10_4 c10_5 c11_0 c11_1 c11_2 c11_3 c11_4 c11_5
  go_upto_region 11 with (fail)
  generalize (World.alloc w14 _) = v15 at *
  (try simp only [List.nil_append, List.cons_append, World.size_alloc, List.set_cons_zero, List.set_cons_succ, putsC, pB, pC, pD] at hm)
  have HM := Lib.hid hm
  clear hm
  obtain ⟨c10_0, c10_1, c10_2, c10_3, c10_4, c10_5⟩ := rw3 (HM.out.at 10 rfl)
  obtain ⟨c12_0, c12_1, c12_2, c12_3, c12_4, c12_5⟩ := rw3 (HM.out.at 12 rfl)
  have HK := Lib.hid (O4.out _ _ _ _ _ _ v15 (HM.out.ins 6 rfl) (HM.out.ins 4 rfl) (Nat.le_refl _))
  ((try dsimp only); repeat (first | go_values | go_skip | go_guarded | go_step | go_upon))
  refine HK.out.mono ?_
  rintro e w16 ⟨E16, F16, rfl, hf, hb⟩
  have hm : Bx w.heap.size w (World.alloc w16 (.cells #[.bool (decide (vy.num < 0)), .slice E16 (qn vy).length (qn vy).length, .slice F16 (qd vy).length (qd vy).length] 45)) _ _ := ((HM.out.call hf hb).alloc (.cells #[.bool (decide (vy.num < 0)), .slice E16 (qn vy).length (qn vy).length, .slice F16 (qd vy).length (qd vy).length] 45 (0, 0)))
  clear HK HM hf hb c10_0 c10_1 c10_2 c10_3 c10_4 c10_5 c12_0 c12_1 c12_2 c12_3 c12_4 c12_5
  go_upto_region 12 with (fail)
  generalize (World.alloc w16 _) = v17 at *
  (try simp only [List.nil_append, List.cons_append, World.size_alloc, List.set_cons_zero, List.set_cons_succ, putsC, pB, pC, pD] at hm)
  have HM := Lib.hid hm
  clear hm
  obtain ⟨c4_0, c4_1, c4_2, c4_3, c4_4, c4_5⟩ := rw3 (HM.out.at 4 rfl)
  obtain ⟨c13_0, c13_1, c13_2, c13_3, c13_4, c13_5⟩ := rw3 (HM.out.at 13 rfl)
  have HK := Lib.hid (O5.out _ _ _ _ _ _ v17 (HM.out.ins 0 rfl) (HM.out.ins 7 rfl) (Nat.le_refl _))
  ((try dsimp only); repeat (first | go_values | go_skip | go_guarded | go_step | go_upon))
  refine HK.out.mono ?_
  rintro e w18 ⟨E18, F18, rfl, hf, hb⟩
  have hm : Bx w.heap.size w (World.alloc w18 (.cells #[.bool (decide (x.num < 0)), .slice E18 (qn x).length (qn x).length, .slice F18 (qd x).length (qd x).length] 45)) _ _ := ((HM.out.call hf hb).alloc (.cells #[.bool (decide (x.num < 0)), .slice E18 (qn x).length (qn x).length, .slice F18 (qd x).length (qd x).length] 45 (0, 0)))
  clear HK HM hf hb c4_0 c4_1 c4_2 c4_3 c4_4 c4_5 c13_0 c13_1 c13_2 c13_3 c13_4 c13_5
  go_upto_region 13 with (fail)
  generalize (World.alloc w18 _) = v19 at *
  (try simp only [List.nil_append, List.cons_append, World.size_alloc, List.set_cons_zero, List.set_cons_succ, putsC, pB, pC, pD] at hm)
  have HM := Lib.hid hm
  clear hm
  obtain ⟨c5_0, c5_1, c5_2, c5_3, c5_4, c5_5⟩ := rw3 (HM.out.at 5 rfl)
  obtain ⟨c14_0, c14_1, c14_2, c14_3, c14_4, c14_5⟩ := rw3 (HM.out.at 14 rfl)
  have HK := Lib.hid (O6.out _ _ _ _ _ _ v19 (HM.out.ins 1 rfl) (HM.out.ins 8 rfl) (Nat.le_refl _))
  ((try dsimp only); repeat (first | go_values | go_skip | go_guarded | go_step | go_upon))
  refine HK.out.mono ?_
  rintro e w20 ⟨E20, F20, rfl, hf, hb⟩
  have hm : Bx w.heap.size w (World.alloc w20 (.cells #[.bool (decide (y.num < 0)), .slice E20 (qn y).length (qn y).length, .slice F20 (qd y).length (qd y).length] 45)) _ _ := ((HM.out.call hf hb).alloc (.cells #[.bool (decide (y.num < 0)), .slice E20 (qn y).length (qn y).length, .slice F20 (qd y).length (qd y).length] 45 (0, 0)))
  clear HK HM hf hb c5_0 c5_1 c5_2 c5_3 c5_4 c5_5 c14_0 c14_1 c14_2 c14_3 c14_4 c14_5
  go_upto_region 14 with (fail)
  generalize (World.alloc w20 _) = v21 at *
  (try simp only [List.nil_append, List.cons_append, World.size_alloc, List.set_cons_zero, List.set_cons_succ, putsC, pB, pC, pD] at hm)
  have HM := Lib.hid hm
  clear hm
  refine start_ (n := 27) (S := fun w' => w'.heap[w18.heap.size]? = v21.heap[w18.heap.size]? ∧ w'.heap[w20.heap.size]? = v21.heap[w20.heap.size]?) (ds := [25]) (bt 27 0) (by kernel_rfl) rfl rfl ((And.intro rfl rfl)) (fun hHeld => ?_)
  refine ld_ 0 114 ?_ hHeld ?_ ?_; rotate_left
  · rintro w' hs
    obtain ⟨q0, q1, q2, q3, q4, q5⟩ := rw3 ((hs.1).trans (HM.out.at 15 rfl))
    clear hs
    go_simp; with_reducible rfl
  refine ld_ 1 115 ?_ hHeld ?_ ?_; rotate_left
  · rintro w' hs
    obtain ⟨q0, q1, q2, q3, q4, q5⟩ := rw3 ((hs.2).trans (HM.out.at 16 rfl))
    clear hs
    go_simp; with_reducible rfl
  refine pv_ 2 116 ?_
  refine pv_ 3 117 ?_
  refine pv_ 4 118 ?_
  refine pv_ 5 119 ?_
  refine pv_ 6 120 ?_
  refine pv_ 7 121 ?_
  refine pv_ 8 122 ?_
  refine pv_ 9 123 ?_
  refine pv_ 10 124 ?_
  refine pv_ 11 125 ?_
  refine pv_ 12 126 ?_
  refine pv_ 13 127 ?_
  refine pv_ 14 128 ?_
  refine pv_ 15 129 ?_
  refine pv_ 16 130 ?_
  refine pv_ 17 131 ?_
  refine pv_ 18 132 ?_
  refine pv_ 19 133 ?_
  refine pv_ 20 134 ?_
  refine pv_ 21 135 ?_
  refine pv_ 22 136 ?_
  refine pv_ 23 137 ?_
  have hG := HM.out.drew
  replace hHeld := And.intro True.intro hHeld
  clear HM
  generalize hwg : v21.drew = wj at *
  clear hwg
  refine one_ (i := 24) (N := none) (bt 27 33554431) rfl rfl (by kernel_rfl) (by decide) (fun K hK => ?_)
  obtain ⟨y0, y1, y2, y3, y4, y5⟩ := rw3 (hG.at 2 rfl)
  refine skip_ (w1 := puts (w.heap.size + 1 + 1) [(0, .bool (decide (x.num < 0))), (1, .slice E18 (qn x).length (qn x).length), (2, .slice F18 (qd x).length (qd x).length)] wj) (by rfl) rfl ?_ ?_
  · go_simp
    rfl
  replace hHeld := And.intro True.intro (And.intro ((puts_other (hG.ne 15 2 rfl rfl (by decide)) [(0, .bool (decide (x.num < 0))), (1, .slice E18 (qn x).length (qn x).length), (2, .slice F18 (qd x).length (qd x).length)] wj).trans hHeld.2.1) ((puts_other (hG.ne 16 2 rfl rfl (by decide)) [(0, .bool (decide (x.num < 0))), (1, .slice E18 (qn x).length (qn x).length), (2, .slice F18 (qd x).length (qd x).length)] wj).trans hHeld.2.2))
  refine hK.out _ _ (by exact hHeld.2) (fun _ => ?_)
  clear hK K y0 y1 y2 y3 y4 y5
  replace hG := hG.puts 2 rfl (by decide) [(0, .bool (decide (x.num < 0))), (1, .slice E18 (qn x).length (qn x).length), (2, .slice F18 (qd x).length (qd x).length)]
  (try simp only [List.nil_append, List.cons_append, World.size_alloc, List.set_cons_zero, List.set_cons_succ, putsC, pB, pC, pD] at hG)
  generalize puts (w.heap.size + 1 + 1) _ wj = wk22 at *
  refine last_ (i := 25) (N := none) (bt 27 67108863) rfl rfl (by kernel_rfl) (by decide) (fun K hK => ?_)
  obtain ⟨y0, y1, y2, y3, y4, y5⟩ := rw3 (hG.at 3 rfl)
  refine skip_ (w1 := puts (w.heap.size + 1 + 1 + 1) [(0, .bool (decide (y.num < 0))), (1, .slice E20 (qn y).length (qn y).length), (2, .slice F20 (qd y).length (qd y).length)] wk22) (by rfl) rfl ?_ ?_
  · go_simp
    rfl
  refine hK.out _ _ ?_
  clear hK K y0 y1 y2 y3 y4 y5
  replace hG := hG.puts 3 rfl (by decide) [(0, .bool (decide (y.num < 0))), (1, .slice E20 (qn y).length (qn y).length), (2, .slice F20 (qd y).length (qd y).length)]
  (try simp only [List.nil_append, List.cons_append, World.size_alloc, List.set_cons_zero, List.set_cons_succ, putsC, pB, pC, pD] at hG)
  generalize puts (w.heap.size + 1 + 1 + 1) _ wk22 = wk23 at *
  refine pv_ 26 8 ?_
  refine done_ (by kernel_rfl) ?_
  (try simp only [List.nil_append, List.cons_append, World.size_alloc, List.set_cons_zero, List.set_cons_succ, putsC, pB, pC, pD] at hG)
  have HM := Lib.hid hG
  clear hG hHeld
  ((try dsimp only); repeat (first | go_values | go_skip | go_guarded | go_step | go_upon))
  refine bodyPost_ret (results_rows2 rfl _ _ (w.heap.size + 1 + 1) (w.heap.size + 1 + 1 + 1) _ _ _ _ _ _ _ _ rfl rfl (HM.out.at 2 rfl) (HM.out.at 3 rfl) rfl rfl rfl rfl rfl rfl) rfl ?_
  exact ⟨E18, F18, E20, F20, rfl, HM.out.fresh 9 rfl, HM.out.fresh 10 rfl, HM.out.m.b⟩
end Go.Proofs.YtggfppgjabembaaGreatDoor

namespace Go.Proofs.YtggfppgjabembaaGreatDoor
open Go.RowKit
set_option linter.unusedVariables false
set_option linter.unusedSimpArgs false
def insB (a b x : Rat) : Bool := decide (qcmp a x ≤ 0) && decide (qcmp x b ≤ 0) || decide (0 ≤ qcmp a x) && decide (0 ≤ qcmp x b)
set_option maxRecDepth 100000 in
set_option maxHeartbeats 1600000 in
theorem lInside (A B C D E F : Option Addr) (lo up m : Nat) (a b x : Rat) (w : World) (ha : RatIn lo up w A B a) (hb : RatIn lo up w C D b) (hx : RatIn lo up w E F x) (hu : up ≤ w.heap.size) (sa : Sz m a) (sb : Sz m b) (sx : Sz m x) (hm : m ≤ 100000)
    (ht : insB a b x = true) :
    Calls Tryz.prog 30 #[qv A B a, qv C D b, qv E F x] w fun e w' => e = .returned (.bool true) ∧ Below w.heap.size w w' := by
  have O1 := Lib.hid (fun A B C D lo up wz hp hq hu => rCmpQ A B C D lo up _ _ a x wz hp hq hu sa sx (by omega))
  have O2 := Lib.hid (fun A B C D lo up wz hp hq hu => rCmpQ A B C D lo up _ _ x b wz hp hq hu sx sb (by omega))
  clear sa sb sx
  unfold insB at ht
  generalize qcmp a x = c1 at *
  generalize qcmp x b = c2 at *
  have HT := Lib.hid ht
  have hmm : Mem w.heap.size w (((w.alloc (.cells #[.bool (decide (a.num < 0)), .slice A (qn a).length (qn a).length, .slice B (qd a).length (qd a).length] 45)).alloc (.cells #[.bool (decide (b.num < 0)), .slice C (qn b).length (qn b).length, .slice D (qd b).length (qd b).length] 45)).alloc (.cells #[.bool (decide (x.num < 0)), .slice E (qn x).length (qn x).length, .slice F (qd x).length (qd x).length] 45)) _ _ :=
    (((Mem.start w).alloc (qo A B a)).alloc (qo C D b)).alloc (qo E F x)
  have HX := Lib.hid (And.intro ha (And.intro hb (And.intro hx hu)))
  clear ha hb hx hu ht
  unfold qv
  go_enter Tryz.func30, Tryz.ntmps30
  go_upto_region 1 with (fail)
  generalize (World.alloc (World.alloc (World.alloc w _) _) _) = v at *
  simp only [World.size_alloc] at hmm
  have HM := Lib.hid hmm
  clear hmm
  obtain ⟨c0_0, c0_1, c0_2, c0_3, c0_4, c0_5⟩ := HM.out.qrow 0 rfl
  obtain ⟨c2_0, c2_1, c2_2, c2_3, c2_4, c2_5⟩ := HM.out.qrow 2 rfl
  have HK := Lib.hid (O1.out _ _ _ _ _ _ v (HM.out.arg HX.out.1 HX.out.2.2.2) (HM.out.arg HX.out.2.2.1 HX.out.2.2.2) (Nat.le_refl _))
  (try unfold qv at HK)
  (try unfold pt at HK)
  (try unfold mv at HK)
  ((try dsimp only); repeat (first | go_values | go_skip | go_guarded | go_step | go_upon))
  refine HK.out.mono ?_
  rintro e w0 ⟨rfl, hb⟩
  have hm := (HM.out.keep hb)
  clear HK HM hb  c0_0 c0_1 c0_2 c0_3 c0_4 c0_5 c2_0 c2_1 c2_2 c2_3 c2_4 c2_5
  go_upto_region 2 with (fail)
  have HM := Lib.hid hm
  clear hm
  obtain ⟨c2_0, c2_1, c2_2, c2_3, c2_4, c2_5⟩ := HM.out.qrow 2 rfl
  obtain ⟨c1_0, c1_1, c1_2, c1_3, c1_4, c1_5⟩ := HM.out.qrow 1 rfl
  have HK := Lib.hid (O2.out _ _ _ _ _ _ w0 (HM.out.arg HX.out.2.2.1 HX.out.2.2.2) (HM.out.arg HX.out.2.1 HX.out.2.2.2) (Nat.le_refl _))
  (try unfold qv at HK)
  (try unfold pt at HK)
  (try unfold mv at HK)
  ((try dsimp only); repeat (first | go_values | go_skip | go_guarded | go_step | go_upon))
  refine HK.out.mono ?_
  rintro e w1 ⟨rfl, hb⟩
  have hm := (HM.out.keep hb)
  clear HK HM hb  c2_0 c2_1 c2_2 c2_3 c2_4 c2_5 c1_0 c1_1 c1_2 c1_3 c1_4 c1_5
  go_upto_region 3 with (fail)
  have HM := Lib.hid hm
  clear hm
  have h3 := HT.out
  by_cases k1 : c1 ≤ 0 <;> by_cases k2 : c2 ≤ 0 <;> by_cases k3 : 0 ≤ c1 <;> by_cases k4 : 0 ≤ c2 <;> simp [k1, k2, k3, k4] at h3
  all_goals
    ((try dsimp only); repeat (first | go_values | go_skip | go_guarded | go_step | go_upon))
    go_ret
    exact ⟨rfl, HM.out.b⟩
end Go.Proofs.YtggfppgjabembaaGreatDoor

namespace Go.Proofs.YtggfppgjabembaaGreatDoor
open Go.RowKit
set_option linter.unusedVariables false
set_option linter.unusedSimpArgs false
def sq2 (a : Pl) (x y : Rat) : Rat := (a.1 - x) * (a.1 - x) + (a.2 - y) * (a.2 - y)
theorem sq2_sz {a : Pt} {n : Nat} {x y : Rat} (fa : FinP a) (sx : Sz n x) (sy : Sz n y) : Sz (4 * n + 5000) (sq2 (pl a) x y) := by
  have a1 := fval_sz fa.1
  have a2 := fval_sz fa.2
  exact (((a1.sub sx).mul (a1.sub sx)).add ((a2.sub sy).mul (a2.sub sy))).mono (by omega)
set_option maxRecDepth 100000 in
set_option maxHeartbeats 3200000 in
theorem lSquare (a : Pt) (A B C D : Option Addr) (lo up m : Nat) (x y : Rat) (w : World) (fa : FinP a) (hx : RatIn lo up w A B x) (hy : RatIn lo up w C D y) (hu : up ≤ w.heap.size) (sx : Sz m x) (sy : Sz m y) (hm : m ≤ 60000) :
    Calls Tryz.prog 28 #[pt a, qv A B x, qv C D y] w fun e w' => ∃ E F, e = .returned (.tuple #[qv E F (sq2 (pl a) x y), .bool true]) ∧ RatFresh w.heap.size w' E F (sq2 (pl a) x y) ∧ Below w.heap.size w w' := by
  have HAr : Hid (sq2 (pl a) x y = (fval a.1 - x) * (fval a.1 - x) + (fval a.2 - y) * (fval a.2 - y)) := Lib.hid rfl
  rw [HAr.out]
  clear HAr
  have V1 := Lib.hid (fun wz => vValue a.1 wz fa.1)
  have V2 := Lib.hid (fun wz => vValue a.2 wz fa.2)
  have s1 := fval_sz fa.1
  have s2 := fval_sz fa.2
  generalize fval a.1 = ax at *
  generalize fval a.2 = ay at *
  have t1 := s1.sub sx
  have t2 := s2.sub sy
  have O1 := Lib.hid (fun A B C D lo up wz hp hq hu => rSubQ A B C D lo up _ _ ax x wz hp hq hu s1 sx (by omega))
  have O2 := Lib.hid (fun A B C D lo up wz hp hq hu => rSubQ A B C D lo up _ _ ay y wz hp hq hu s2 sy (by omega))
  generalize ax - x = ux at *
  generalize ay - y = uy at *
  have r1 := t1.mul t1
  have r2 := t2.mul t2
  have O5 := Lib.hid (fun A B C D lo up wz hp hq hu => rMulQ A B C D lo up _ _ ux ux wz hp hq hu t1 t1 (by omega))
  have O6 := Lib.hid (fun A B C D lo up wz hp hq hu => rMulQ A B C D lo up _ _ uy uy wz hp hq hu t2 t2 (by omega))
  generalize ux * ux = p at *
  generalize uy * uy = q at *
  have O7 := Lib.hid (fun A B C D lo up wz hp hq hu => rAddQ A B C D lo up _ _ p q wz hp hq hu r1 r2 (by omega))
  generalize p + q = r at *
  clear s1 s2 t1 t2 r1 r2 sx sy
  have hmm : Mem w.heap.size w ((((w.alloc (.cells #[.int .u64 a.1, .int .u64 a.2] 24)).alloc (.cells #[.bool (decide (x.num < 0)), .slice A (qn x).length (qn x).length, .slice B (qd x).length (qd x).length] 45)).alloc (.cells #[.bool (decide (y.num < 0)), .slice C (qn y).length (qn y).length, .slice D (qd y).length (qd y).length] 45)).alloc (.cells #[.bool false, .slice none 0 0, .slice none 0 0] 45)) _ _ :=
    ((((Mem.start w).alloc (po a)).alloc (qo A B x)).alloc (qo C D y)).alloc (.cells #[.bool false, .slice none 0 0, .slice none 0 0] 45 (0, 0))
  have HX := Lib.hid (And.intro hx (And.intro hy hu))
  clear hx hy hu
  unfold qv pt
  go_enter Tryz.func28, Tryz.ntmps28
  go_upto_region 1 with (fail)
  generalize (World.alloc (World.alloc (World.alloc (World.alloc w _) _) _) _) = v at *
  simp only [World.size_alloc] at hmm
  have HM := Lib.hid hmm
  clear hmm
  obtain ⟨c0_0, c0_1, c0_2, c0_3⟩ := HM.out.prow 0 rfl
  have HK := Lib.hid (V1.out v)
  (try unfold qv at HK)
  (try unfold pt at HK)
  (try unfold mv at HK)
  ((try dsimp only); repeat (first | go_values | go_skip | go_guarded | go_step | go_upon))
  refine HK.out.mono ?_
  rintro e w0 ⟨E0, F0, rfl, hf, hb⟩
  have hm : Mem w.heap.size w (w0.alloc (.cells #[.bool (decide (ax.num < 0)), .slice E0 (qn ax).length (qn ax).length, .slice F0 (qd ax).length (qd ax).length] 45)) _ _ := (HM.out.call hf hb).alloc (qo E0 F0 ax)
  clear HK HM hb hf c0_0 c0_1 c0_2 c0_3
  go_upto_region 2 with (fail)
  generalize (World.alloc w0 _) = v0 at *
  have HM := Lib.hid hm
  clear hm
  obtain ⟨c0_0, c0_1, c0_2, c0_3⟩ := HM.out.prow 0 rfl
  have HK := Lib.hid (V2.out v0)
  (try unfold qv at HK)
  (try unfold pt at HK)
  (try unfold mv at HK)
  ((try dsimp only); repeat (first | go_values | go_skip | go_guarded | go_step | go_upon))
  refine HK.out.mono ?_
  rintro e w1 ⟨E1, F1, rfl, hf, hb⟩
  have hm : Mem w.heap.size w (w1.alloc (.cells #[.bool (decide (ay.num < 0)), .slice E1 (qn ay).length (qn ay).length, .slice F1 (qd ay).length (qd ay).length] 45)) _ _ := (HM.out.call hf hb).alloc (qo E1 F1 ay)
  clear HK HM hb hf c0_0 c0_1 c0_2 c0_3
  go_upto_region 5 with (fail)
  generalize (World.alloc w1 _) = v1 at *
  have HM := Lib.hid hm
  clear hm
  obtain ⟨c4_0, c4_1, c4_2, c4_3, c4_4, c4_5⟩ := HM.out.qrow 4 rfl
  obtain ⟨c1_0, c1_1, c1_2, c1_3, c1_4, c1_5⟩ := HM.out.qrow 1 rfl
  have HK := Lib.hid (O1.out _ _ _ _ 0 _ v1 ((HM.out.ins 0 rfl).wide (Nat.zero_le _) (Nat.le_refl _)) ((HM.out.arg HX.out.1 HX.out.2.2).wide (Nat.zero_le _) (Nat.le_refl _)) (Nat.le_refl _))
  (try unfold qv at HK)
  (try unfold pt at HK)
  (try unfold mv at HK)
  ((try dsimp only); repeat (first | go_values | go_skip | go_guarded | go_step | go_upon))
  refine HK.out.mono ?_
  rintro e w2 ⟨E2, F2, rfl, hf, hb⟩
  have hm : Mem w.heap.size w (w2.alloc (.cells #[.bool (decide (ux.num < 0)), .slice E2 (qn ux).length (qn ux).length, .slice F2 (qd ux).length (qd ux).length] 45)) _ _ := (HM.out.call hf hb).alloc (qo E2 F2 ux)
  clear HK HM hb hf c4_0 c4_1 c4_2 c4_3 c4_4 c4_5 c1_0 c1_1 c1_2 c1_3 c1_4 c1_5
  go_upto_region 6 with (fail)
  generalize (World.alloc w2 _) = v2 at *
  have HM := Lib.hid hm
  clear hm
  obtain ⟨c5_0, c5_1, c5_2, c5_3, c5_4, c5_5⟩ := HM.out.qrow 5 rfl
  obtain ⟨c2_0, c2_1, c2_2, c2_3, c2_4, c2_5⟩ := HM.out.qrow 2 rfl
  have HK := Lib.hid (O2.out _ _ _ _ 0 _ v2 ((HM.out.ins 1 rfl).wide (Nat.zero_le _) (Nat.le_refl _)) ((HM.out.arg HX.out.2.1 HX.out.2.2).wide (Nat.zero_le _) (Nat.le_refl _)) (Nat.le_refl _))
  (try unfold qv at HK)
  (try unfold pt at HK)
  (try unfold mv at HK)
  ((try dsimp only); repeat (first | go_values | go_skip | go_guarded | go_step | go_upon))
  refine HK.out.mono ?_
  rintro e w3 ⟨E3, F3, rfl, hf, hb⟩
  have hm : Mem w.heap.size w (w3.alloc (.cells #[.bool (decide (uy.num < 0)), .slice E3 (qn uy).length (qn uy).length, .slice F3 (qd uy).length (qd uy).length] 45)) _ _ := (HM.out.call hf hb).alloc (qo E3 F3 uy)
  clear HK HM hb hf c5_0 c5_1 c5_2 c5_3 c5_4 c5_5 c2_0 c2_1 c2_2 c2_3 c2_4 c2_5
  go_upto_region 9 with (fail)
  generalize (World.alloc w3 _) = v3 at *
  have HM := Lib.hid hm
  clear hm
  obtain ⟨c6_0, c6_1, c6_2, c6_3, c6_4, c6_5⟩ := HM.out.qrow 6 rfl
  have HK := Lib.hid (O5.out _ _ _ _ _ _ v3 (HM.out.ins 2 rfl) (HM.out.ins 2 rfl) (Nat.le_refl _))
  (try unfold qv at HK)
  (try unfold pt at HK)
  (try unfold mv at HK)
  ((try dsimp only); repeat (first | go_values | go_skip | go_guarded | go_step | go_upon))
  refine HK.out.mono ?_
  rintro e w4 ⟨E4, F4, rfl, hf, hb⟩
  have hm : Mem w.heap.size w (w4.alloc (.cells #[.bool (decide (p.num < 0)), .slice E4 (qn p).length (qn p).length, .slice F4 (qd p).length (qd p).length] 45)) _ _ := (HM.out.call hf hb).alloc (qo E4 F4 p)
  clear HK HM hb hf c6_0 c6_1 c6_2 c6_3 c6_4 c6_5
  go_upto_region 10 with (fail)
  generalize (World.alloc w4 _) = v4 at *
  have HM := Lib.hid hm
  clear hm
  obtain ⟨c7_0, c7_1, c7_2, c7_3, c7_4, c7_5⟩ := HM.out.qrow 7 rfl
  have HK := Lib.hid (O6.out _ _ _ _ _ _ v4 (HM.out.ins 3 rfl) (HM.out.ins 3 rfl) (Nat.le_refl _))
  (try unfold qv at HK)
  (try unfold pt at HK)
  (try unfold mv at HK)
  ((try dsimp only); repeat (first | go_values | go_skip | go_guarded | go_step | go_upon))
  refine HK.out.mono ?_
  rintro e w5 ⟨E5, F5, rfl, hf, hb⟩
  have hm : Mem w.heap.size w (w5.alloc (.cells #[.bool (decide (q.num < 0)), .slice E5 (qn q).length (qn q).length, .slice F5 (qd q).length (qd q).length] 45)) _ _ := (HM.out.call hf hb).alloc (qo E5 F5 q)
  clear HK HM hb hf c7_0 c7_1 c7_2 c7_3 c7_4 c7_5
  go_upto_region 13 with (fail)
  generalize (World.alloc w5 _) = v5 at *
  have HM := Lib.hid hm
  clear hm
  obtain ⟨c8_0, c8_1, c8_2, c8_3, c8_4, c8_5⟩ := HM.out.qrow 8 rfl
  obtain ⟨c9_0, c9_1, c9_2, c9_3, c9_4, c9_5⟩ := HM.out.qrow 9 rfl
  have HK := Lib.hid (O7.out _ _ _ _ _ _ v5 (HM.out.ins 4 rfl) (HM.out.ins 5 rfl) (Nat.le_refl _))
  (try unfold qv at HK)
  (try unfold pt at HK)
  (try unfold mv at HK)
  ((try dsimp only); repeat (first | go_values | go_skip | go_guarded | go_step | go_upon))
  refine HK.out.mono ?_
  rintro e w6 ⟨E6, F6, rfl, hf, hb⟩
  have hm : Mem w.heap.size w (w6.alloc (.cells #[.bool (decide (r.num < 0)), .slice E6 (qn r).length (qn r).length, .slice F6 (qd r).length (qd r).length] 45)) _ _ := (HM.out.call hf hb).alloc (qo E6 F6 r)
  clear HK HM hb hf c8_0 c8_1 c8_2 c8_3 c8_4 c8_5 c9_0 c9_1 c9_2 c9_3 c9_4 c9_5
  go_upto_region 14 with (fail)
  generalize (World.alloc w6 _) = v6 at *
  have HM := Lib.hid hm
  clear hm
  obtain ⟨c10_0, c10_1, c10_2, c10_3, c10_4, c10_5⟩ := HM.out.qrow 10 rfl
  obtain ⟨c3_0, c3_1, c3_2, c3_3, c3_4, c3_5⟩ := row3 (HM.out.l 3 _ _ rfl)
  ((try dsimp only); repeat (first | go_values | go_skip | go_guarded | go_step | go_upon))
  have hg := heap_set_three (HM.out.l 3 _ _ rfl) (.bool (decide (r.num < 0))) (.slice E6 (qn r).length (qn r).length) (.slice F6 (qd r).length (qd r).length)
  refine bodyPost_ret (results_row_tmp rfl _ _ (w.heap.size + 1 + 1 + 1) _ _ _ _ rfl hg rfl rfl rfl) rfl ?_
  have hl := HM.out
  refine ⟨E6, F6, rfl, ?_, (((hl.b.setCell (by show _ ≤ w.heap.size + 1 + 1 + 1; omega) _).setCell (by show _ ≤ w.heap.size + 1 + 1 + 1; omega) _).setCell (by show _ ≤ w.heap.size + 1 + 1 + 1; omega) _)⟩
  exact (hl.r 6 _ _ _ rfl).off3 (hl.l 3 _ _ rfl) (by decide) _ _ _
end Go.Proofs.YtggfppgjabembaaGreatDoor

namespace Go.Proofs.YtggfppgjabembaaGreatDoor
open Go.RowKit Go.Proofs.YtggfppgjabembaaGreatDoorW.PrintLast
set_option linter.unusedVariables false
set_option linter.unusedSimpArgs false
theorem side_sz {a b : Pt} {n : Nat} {x y : Rat} (fa : FinP a) (fb : FinP b) (sx : Sz n x) (sy : Sz n y) : Sz (2 * n + 10000) (area2 (pl a) (pl b) (x, y)) := by
  have a1 := fval_sz fa.1
  have a2 := fval_sz fa.2
  have b1 := fval_sz fb.1
  have b2 := fval_sz fb.2
  exact (((b1.sub a1).mul (sy.sub a2)).sub ((b2.sub a2).mul (sx.sub a1))).mono (by omega)
set_option maxRecDepth 100000 in
set_option maxHeartbeats 3200000 in
theorem lSide (a b : Pt) (A B C D : Option Addr) (lo up m : Nat) (x y : Rat) (w : World) (fa : FinP a) (fb : FinP b) (hx : RatIn lo up w A B x) (hy : RatIn lo up w C D y) (hu : up ≤ w.heap.size) (sx : Sz m x) (sy : Sz m y) (hm : m ≤ 100000) :
    Calls Tryz.prog 19 #[pt a, pt b, qv A B x, qv C D y] w fun e w' => ∃ E F, e = .returned (.tuple #[qv E F (area2 (pl a) (pl b) (x, y)), .bool true]) ∧ RatFresh w.heap.size w' E F (area2 (pl a) (pl b) (x, y)) ∧ Below w.heap.size w w' := by
  have HAr : Hid (area2 (pl a) (pl b) (x, y) = (fval b.1 - fval a.1) * (y - fval a.2) - (fval b.2 - fval a.2) * (x - fval a.1)) := Lib.hid rfl
  rw [HAr.out]
  clear HAr
  have V1 := Lib.hid (fun wz => vValue a.1 wz fa.1)
  have V2 := Lib.hid (fun wz => vValue a.2 wz fa.2)
  have V3 := Lib.hid (fun wz => vValue b.1 wz fb.1)
  have V4 := Lib.hid (fun wz => vValue b.2 wz fb.2)
  have s1 := fval_sz fa.1
  have s2 := fval_sz fa.2
  have s3 := fval_sz fb.1
  have s4 := fval_sz fb.2
  generalize fval a.1 = ax at *
  generalize fval a.2 = ay at *
  generalize fval b.1 = bx at *
  generalize fval b.2 = bY at *
  have t1 := s3.sub s1
  have t2 := s4.sub s2
  have t3 := sx.sub s1
  have t4 := sy.sub s2
  have O1 := Lib.hid (fun A B C D lo up wz hp hq hu => rSubQ A B C D lo up _ _ bx ax wz hp hq hu s3 s1 (by omega))
  have O2 := Lib.hid (fun A B C D lo up wz hp hq hu => rSubQ A B C D lo up _ _ bY ay wz hp hq hu s4 s2 (by omega))
  have O3 := Lib.hid (fun A B C D lo up wz hp hq hu => rSubQ A B C D lo up _ _ x ax wz hp hq hu sx s1 (by omega))
  have O4 := Lib.hid (fun A B C D lo up wz hp hq hu => rSubQ A B C D lo up _ _ y ay wz hp hq hu sy s2 (by omega))
  generalize bx - ax = ux at *
  generalize bY - ay = uy at *
  generalize x - ax = vx at *
  generalize y - ay = vy at *
  have r1 := t1.mul t4
  have r2 := t2.mul t3
  have O5 := Lib.hid (fun A B C D lo up wz hp hq hu => rMulQ A B C D lo up _ _ ux vy wz hp hq hu t1 t4 (by omega))
  have O6 := Lib.hid (fun A B C D lo up wz hp hq hu => rMulQ A B C D lo up _ _ uy vx wz hp hq hu t2 t3 (by omega))
  generalize ux * vy = p at *
  generalize uy * vx = q at *
  have O7 := Lib.hid (fun A B C D lo up wz hp hq hu => rSubQ A B C D lo up _ _ p q wz hp hq hu r1 r2 (by omega))
  generalize p - q = r at *
  clear s1 s2 s3 s4 t1 t2 t3 t4 r1 r2 sx sy
  have hmm : Mem w.heap.size w (((((w.alloc (.cells #[.int .u64 a.1, .int .u64 a.2] 24)).alloc (.cells #[.int .u64 b.1, .int .u64 b.2] 24)).alloc (.cells #[.bool (decide (x.num < 0)), .slice A (qn x).length (qn x).length, .slice B (qd x).length (qd x).length] 45)).alloc (.cells #[.bool (decide (y.num < 0)), .slice C (qn y).length (qn y).length, .slice D (qd y).length (qd y).length] 45)).alloc (.cells #[.bool false, .slice none 0 0, .slice none 0 0] 45)) _ _ :=
    (((((Mem.start w).alloc (po a)).alloc (po b)).alloc (qo A B x)).alloc (qo C D y)).alloc (.cells #[.bool false, .slice none 0 0, .slice none 0 0] 45 (0, 0))
  have HX := Lib.hid (And.intro hx (And.intro hy hu))
  clear hx hy hu
  unfold qv pt
  go_enter Tryz.func19, Tryz.ntmps19
  go_upto_region 1 with (fail)
  generalize (World.alloc (World.alloc (World.alloc (World.alloc (World.alloc w _) _) _) _) _) = v at *
  simp only [World.size_alloc] at hmm
  have HM := Lib.hid hmm
  clear hmm
  obtain ⟨c0_0, c0_1, c0_2, c0_3⟩ := HM.out.prow 0 rfl
  have HK := Lib.hid (V1.out v)
  (try unfold qv at HK)
  (try unfold pt at HK)
  (try unfold mv at HK)
  ((try dsimp only); repeat (first | go_values | go_skip | go_guarded | go_step | go_upon))
  refine HK.out.mono ?_
  rintro e w0 ⟨E0, F0, rfl, hf, hb⟩
  have hm : Mem w.heap.size w (w0.alloc (.cells #[.bool (decide (ax.num < 0)), .slice E0 (qn ax).length (qn ax).length, .slice F0 (qd ax).length (qd ax).length] 45)) _ _ := (HM.out.call hf hb).alloc (qo E0 F0 ax)
  clear HK HM hb hf c0_0 c0_1 c0_2 c0_3
  go_upto_region 2 with (fail)
  generalize (World.alloc w0 _) = v0 at *
  have HM := Lib.hid hm
  clear hm
  obtain ⟨c0_0, c0_1, c0_2, c0_3⟩ := HM.out.prow 0 rfl
  have HK := Lib.hid (V2.out v0)
  (try unfold qv at HK)
  (try unfold pt at HK)
  (try unfold mv at HK)
  ((try dsimp only); repeat (first | go_values | go_skip | go_guarded | go_step | go_upon))
  refine HK.out.mono ?_
  rintro e w1 ⟨E1, F1, rfl, hf, hb⟩
  have hm : Mem w.heap.size w (w1.alloc (.cells #[.bool (decide (ay.num < 0)), .slice E1 (qn ay).length (qn ay).length, .slice F1 (qd ay).length (qd ay).length] 45)) _ _ := (HM.out.call hf hb).alloc (qo E1 F1 ay)
  clear HK HM hb hf c0_0 c0_1 c0_2 c0_3
  go_upto_region 3 with (fail)
  generalize (World.alloc w1 _) = v1 at *
  have HM := Lib.hid hm
  clear hm
  obtain ⟨c1_0, c1_1, c1_2, c1_3⟩ := HM.out.prow 1 rfl
  have HK := Lib.hid (V3.out v1)
  (try unfold qv at HK)
  (try unfold pt at HK)
  (try unfold mv at HK)
  ((try dsimp only); repeat (first | go_values | go_skip | go_guarded | go_step | go_upon))
  refine HK.out.mono ?_
  rintro e w2 ⟨E2, F2, rfl, hf, hb⟩
  have hm : Mem w.heap.size w (w2.alloc (.cells #[.bool (decide (bx.num < 0)), .slice E2 (qn bx).length (qn bx).length, .slice F2 (qd bx).length (qd bx).length] 45)) _ _ := (HM.out.call hf hb).alloc (qo E2 F2 bx)
  clear HK HM hb hf c1_0 c1_1 c1_2 c1_3
  go_upto_region 4 with (fail)
  generalize (World.alloc w2 _) = v2 at *
  have HM := Lib.hid hm
  clear hm
  obtain ⟨c1_0, c1_1, c1_2, c1_3⟩ := HM.out.prow 1 rfl
  have HK := Lib.hid (V4.out v2)
  (try unfold qv at HK)
  (try unfold pt at HK)
  (try unfold mv at HK)
  ((try dsimp only); repeat (first | go_values | go_skip | go_guarded | go_step | go_upon))
  refine HK.out.mono ?_
  rintro e w3 ⟨E3, F3, rfl, hf, hb⟩
  have hm : Mem w.heap.size w (w3.alloc (.cells #[.bool (decide (bY.num < 0)), .slice E3 (qn bY).length (qn bY).length, .slice F3 (qd bY).length (qd bY).length] 45)) _ _ := (HM.out.call hf hb).alloc (qo E3 F3 bY)
  clear HK HM hb hf c1_0 c1_1 c1_2 c1_3
  go_upto_region 7 with (fail)
  generalize (World.alloc w3 _) = v3 at *
  have HM := Lib.hid hm
  clear hm
  obtain ⟨c7_0, c7_1, c7_2, c7_3, c7_4, c7_5⟩ := HM.out.qrow 7 rfl
  obtain ⟨c5_0, c5_1, c5_2, c5_3, c5_4, c5_5⟩ := HM.out.qrow 5 rfl
  have HK := Lib.hid (O1.out _ _ _ _ _ _ v3 (HM.out.ins 2 rfl) (HM.out.ins 0 rfl) (Nat.le_refl _))
  (try unfold qv at HK)
  (try unfold pt at HK)
  (try unfold mv at HK)
  ((try dsimp only); repeat (first | go_values | go_skip | go_guarded | go_step | go_upon))
  refine HK.out.mono ?_
  rintro e w4 ⟨E4, F4, rfl, hf, hb⟩
  have hm : Mem w.heap.size w (w4.alloc (.cells #[.bool (decide (ux.num < 0)), .slice E4 (qn ux).length (qn ux).length, .slice F4 (qd ux).length (qd ux).length] 45)) _ _ := (HM.out.call hf hb).alloc (qo E4 F4 ux)
  clear HK HM hb hf c7_0 c7_1 c7_2 c7_3 c7_4 c7_5 c5_0 c5_1 c5_2 c5_3 c5_4 c5_5
  go_upto_region 8 with (fail)
  generalize (World.alloc w4 _) = v4 at *
  have HM := Lib.hid hm
  clear hm
  obtain ⟨c8_0, c8_1, c8_2, c8_3, c8_4, c8_5⟩ := HM.out.qrow 8 rfl
  obtain ⟨c6_0, c6_1, c6_2, c6_3, c6_4, c6_5⟩ := HM.out.qrow 6 rfl
  have HK := Lib.hid (O2.out _ _ _ _ _ _ v4 (HM.out.ins 3 rfl) (HM.out.ins 1 rfl) (Nat.le_refl _))
  (try unfold qv at HK)
  (try unfold pt at HK)
  (try unfold mv at HK)
  ((try dsimp only); repeat (first | go_values | go_skip | go_guarded | go_step | go_upon))
  refine HK.out.mono ?_
  rintro e w5 ⟨E5, F5, rfl, hf, hb⟩
  have hm : Mem w.heap.size w (w5.alloc (.cells #[.bool (decide (uy.num < 0)), .slice E5 (qn uy).length (qn uy).length, .slice F5 (qd uy).length (qd uy).length] 45)) _ _ := (HM.out.call hf hb).alloc (qo E5 F5 uy)
  clear HK HM hb hf c8_0 c8_1 c8_2 c8_3 c8_4 c8_5 c6_0 c6_1 c6_2 c6_3 c6_4 c6_5
  go_upto_region 9 with (fail)
  generalize (World.alloc w5 _) = v5 at *
  have HM := Lib.hid hm
  clear hm
  obtain ⟨c2_0, c2_1, c2_2, c2_3, c2_4, c2_5⟩ := HM.out.qrow 2 rfl
  obtain ⟨c5_0, c5_1, c5_2, c5_3, c5_4, c5_5⟩ := HM.out.qrow 5 rfl
  have HK := Lib.hid (O3.out _ _ _ _ 0 _ v5 ((HM.out.arg HX.out.1 HX.out.2.2).wide (Nat.zero_le _) (Nat.le_refl _)) ((HM.out.ins 0 rfl).wide (Nat.zero_le _) (Nat.le_refl _)) (Nat.le_refl _))
  (try unfold qv at HK)
  (try unfold pt at HK)
  (try unfold mv at HK)
  ((try dsimp only); repeat (first | go_values | go_skip | go_guarded | go_step | go_upon))
  refine HK.out.mono ?_
  rintro e w6 ⟨E6, F6, rfl, hf, hb⟩
  have hm : Mem w.heap.size w (w6.alloc (.cells #[.bool (decide (vx.num < 0)), .slice E6 (qn vx).length (qn vx).length, .slice F6 (qd vx).length (qd vx).length] 45)) _ _ := (HM.out.call hf hb).alloc (qo E6 F6 vx)
  clear HK HM hb hf c2_0 c2_1 c2_2 c2_3 c2_4 c2_5 c5_0 c5_1 c5_2 c5_3 c5_4 c5_5
  go_upto_region 10 with (fail)
  generalize (World.alloc w6 _) = v6 at *
  have HM := Lib.hid hm
  clear hm
  obtain ⟨c3_0, c3_1, c3_2, c3_3, c3_4, c3_5⟩ := HM.out.qrow 3 rfl
  obtain ⟨c6_0, c6_1, c6_2, c6_3, c6_4, c6_5⟩ := HM.out.qrow 6 rfl
  have HK := Lib.hid (O4.out _ _ _ _ 0 _ v6 ((HM.out.arg HX.out.2.1 HX.out.2.2).wide (Nat.zero_le _) (Nat.le_refl _)) ((HM.out.ins 1 rfl).wide (Nat.zero_le _) (Nat.le_refl _)) (Nat.le_refl _))
  (try unfold qv at HK)
  (try unfold pt at HK)
  (try unfold mv at HK)
  ((try dsimp only); repeat (first | go_values | go_skip | go_guarded | go_step | go_upon))
  refine HK.out.mono ?_
  rintro e w7 ⟨E7, F7, rfl, hf, hb⟩
  have hm : Mem w.heap.size w (w7.alloc (.cells #[.bool (decide (vy.num < 0)), .slice E7 (qn vy).length (qn vy).length, .slice F7 (qd vy).length (qd vy).length] 45)) _ _ := (HM.out.call hf hb).alloc (qo E7 F7 vy)
  clear HK HM hb hf c3_0 c3_1 c3_2 c3_3 c3_4 c3_5 c6_0 c6_1 c6_2 c6_3 c6_4 c6_5
  go_upto_region 13 with (fail)
  generalize (World.alloc w7 _) = v7 at *
  have HM := Lib.hid hm
  clear hm
  obtain ⟨c9_0, c9_1, c9_2, c9_3, c9_4, c9_5⟩ := HM.out.qrow 9 rfl
  obtain ⟨c12_0, c12_1, c12_2, c12_3, c12_4, c12_5⟩ := HM.out.qrow 12 rfl
  have HK := Lib.hid (O5.out _ _ _ _ _ _ v7 (HM.out.ins 4 rfl) (HM.out.ins 7 rfl) (Nat.le_refl _))
  (try unfold qv at HK)
  (try unfold pt at HK)
  (try unfold mv at HK)
  ((try dsimp only); repeat (first | go_values | go_skip | go_guarded | go_step | go_upon))
  refine HK.out.mono ?_
  rintro e w8 ⟨E8, F8, rfl, hf, hb⟩
  have hm : Mem w.heap.size w (w8.alloc (.cells #[.bool (decide (p.num < 0)), .slice E8 (qn p).length (qn p).length, .slice F8 (qd p).length (qd p).length] 45)) _ _ := (HM.out.call hf hb).alloc (qo E8 F8 p)
  clear HK HM hb hf c9_0 c9_1 c9_2 c9_3 c9_4 c9_5 c12_0 c12_1 c12_2 c12_3 c12_4 c12_5
  go_upto_region 14 with (fail)
  generalize (World.alloc w8 _) = v8 at *
  have HM := Lib.hid hm
  clear hm
  obtain ⟨c10_0, c10_1, c10_2, c10_3, c10_4, c10_5⟩ := HM.out.qrow 10 rfl
  obtain ⟨c11_0, c11_1, c11_2, c11_3, c11_4, c11_5⟩ := HM.out.qrow 11 rfl
  have HK := Lib.hid (O6.out _ _ _ _ _ _ v8 (HM.out.ins 5 rfl) (HM.out.ins 6 rfl) (Nat.le_refl _))
  (try unfold qv at HK)
  (try unfold pt at HK)
  (try unfold mv at HK)
  ((try dsimp only); repeat (first | go_values | go_skip | go_guarded | go_step | go_upon))
  refine HK.out.mono ?_
  rintro e w9 ⟨E9, F9, rfl, hf, hb⟩
  have hm : Mem w.heap.size w (w9.alloc (.cells #[.bool (decide (q.num < 0)), .slice E9 (qn q).length (qn q).length, .slice F9 (qd q).length (qd q).length] 45)) _ _ := (HM.out.call hf hb).alloc (qo E9 F9 q)
  clear HK HM hb hf c10_0 c10_1 c10_2 c10_3 c10_4 c10_5 c11_0 c11_1 c11_2 c11_3 c11_4 c11_5
  go_upto_region 17 with (fail)
  generalize (World.alloc w9 _) = v9 at *
  have HM := Lib.hid hm
  clear hm
  obtain ⟨c13_0, c13_1, c13_2, c13_3, c13_4, c13_5⟩ := HM.out.qrow 13 rfl
  obtain ⟨c14_0, c14_1, c14_2, c14_3, c14_4, c14_5⟩ := HM.out.qrow 14 rfl
  have HK := Lib.hid (O7.out _ _ _ _ _ _ v9 (HM.out.ins 8 rfl) (HM.out.ins 9 rfl) (Nat.le_refl _))
  (try unfold qv at HK)
  (try unfold pt at HK)
  (try unfold mv at HK)
  ((try dsimp only); repeat (first | go_values | go_skip | go_guarded | go_step | go_upon))
  refine HK.out.mono ?_
  rintro e w10 ⟨E10, F10, rfl, hf, hb⟩
  have hm : Mem w.heap.size w (w10.alloc (.cells #[.bool (decide (r.num < 0)), .slice E10 (qn r).length (qn r).length, .slice F10 (qd r).length (qd r).length] 45)) _ _ := (HM.out.call hf hb).alloc (qo E10 F10 r)
  clear HK HM hb hf c13_0 c13_1 c13_2 c13_3 c13_4 c13_5 c14_0 c14_1 c14_2 c14_3 c14_4 c14_5
  go_upto_region 18 with (fail)
  generalize (World.alloc w10 _) = v10 at *
  have HM := Lib.hid hm
  clear hm
  obtain ⟨c15_0, c15_1, c15_2, c15_3, c15_4, c15_5⟩ := HM.out.qrow 15 rfl
  obtain ⟨c4_0, c4_1, c4_2, c4_3, c4_4, c4_5⟩ := row3 (HM.out.l 4 _ _ rfl)
  ((try dsimp only); repeat (first | go_values | go_skip | go_guarded | go_step | go_upon))
  have hg := heap_set_three (HM.out.l 4 _ _ rfl) (.bool (decide (r.num < 0))) (.slice E10 (qn r).length (qn r).length) (.slice F10 (qd r).length (qd r).length)
  refine bodyPost_ret (results_row_tmp rfl _ _ (w.heap.size + 1 + 1 + 1 + 1) _ _ _ _ rfl hg rfl rfl rfl) rfl ?_
  have hl := HM.out
  have g0 : ∀ k, w.heap.size + k ≠ w.heap.size + k + 1 := by intro k; omega
  refine ⟨E10, F10, rfl, ?_, (((hl.b.setCell (by show _ ≤ w.heap.size + 1 + 1 + 1 + 1; omega) _).setCell (by show _ ≤ w.heap.size + 1 + 1 + 1 + 1; omega) _).setCell (by show _ ≤ w.heap.size + 1 + 1 + 1 + 1; omega) _)⟩
  exact (hl.r 10 _ _ _ rfl).off3 (hl.l 4 _ _ rfl) (by decide) _ _ _
end Go.Proofs.YtggfppgjabembaaGreatDoor

namespace Go.Proofs.YtggfppgjabembaaGreatDoor
open Go.RowKit Go.Proofs.YtggfppgjabembaaGreatDoorW.PrintLast
set_option linter.unusedVariables false
set_option linter.unusedSimpArgs false
def negB (b : Int) : Int := if 9223372036854775808 ≤ b then b - 9223372036854775808 else b + 9223372036854775808
def negP (p : Pt) : Pt := (negB p.1, negB p.2)
theorem negB_fin {b : Int} (h : Fin64 b) : Fin64 (negB b) := by
  obtain ⟨h1, h2, h3⟩ := h
  unfold Fin64 negB fe at *
  split <;> refine ⟨?_, ?_, ?_⟩ <;> omega
theorem negP_fin {p : Pt} (h : FinP p) : FinP (negP p) := ⟨negB_fin h.1, negB_fin h.2⟩
theorem fval_negB {b : Int} (h : Fin64 b) : fval (negB b) = -fval b := by
  obtain ⟨h1, h2, h3⟩ := h
  have e1 : fe (negB b) = fe b := by unfold negB fe; split <;> omega
  have e2 : ff (negB b) = ff b := by unfold negB ff; split <;> omega
  have e3 : fneg (negB b) = !fneg b := by
    unfold negB fneg
    split
    · rename_i h; rw [decide_eq_true h]; exact decide_eq_false (by omega)
    · rename_i h; rw [decide_eq_false h]; exact decide_eq_true (by omega)
  unfold fval fnum fden fx fm
  rw [e1, e2, e3]
  unfold quo
  cases fneg b
  · simp
    exact Rat.neg_mkRat _ _ |>.symm
  · simp
    rw [Rat.neg_mkRat, Int.neg_neg]
theorem pl_negP {p : Pt} (h : FinP p) : pl (negP p) = (-(pl p).1, -(pl p).2) := by
  unfold pl negP
  rw [fval_negB h.1, fval_negB h.2]
theorem xor63 (a : Nat) (h : a < 2 ^ 64) : a ^^^ 2 ^ 63 = if 2 ^ 63 ≤ a then a - 2 ^ 63 else a + 2 ^ 63 := by
  split
  · rename_i h1
    obtain ⟨r, hr⟩ : ∃ r, a = 2 ^ 63 + r := ⟨a - 2 ^ 63, by omega⟩
    have hr1 : r < 2 ^ 63 := by omega
    subst hr
    rw [Nat.add_sub_cancel_left]
    apply Nat.eq_of_testBit_eq
    intro i
    have := Nat.two_pow_add_eq_or_of_lt hr1 1
    rw [Nat.mul_one] at this
    rw [this, Nat.testBit_xor, Nat.testBit_or, Nat.testBit_two_pow]
    by_cases h63 : 63 = i
    · subst h63; rw [Nat.testBit_lt_two_pow hr1]; simp
    · simp [h63]
  · rename_i h1
    have hr1 : a < 2 ^ 63 := by omega
    rw [Nat.add_comm]
    have := Nat.two_pow_add_eq_or_of_lt hr1 1
    rw [Nat.mul_one] at this
    rw [this]
    apply Nat.eq_of_testBit_eq
    intro i
    rw [Nat.testBit_xor, Nat.testBit_or, Nat.testBit_two_pow]
    by_cases h63 : 63 = i
    · subst h63; rw [Nat.testBit_lt_two_pow hr1]; simp
    · simp [h63]
theorem negB_xor {b : Int} (h : U64 b) : bits .xor .u64 b 9223372036854775808 = negB b := by
  obtain ⟨a, rfl⟩ := Int.eq_ofNat_of_zero_le h.1
  have h2 := h.2
  have e := bits_xor_u64_nat a 9223372036854775808 (by omega) (by decide)
  rw [show ((9223372036854775808 : Nat) : Int) = 9223372036854775808 from rfl] at e
  rw [e, show (9223372036854775808 : Nat) = 2 ^ 63 from rfl, xor63 a (by omega)]
  unfold negB
  split <;> split <;> omega
set_option maxRecDepth 100000 in
theorem lNeg (b : Int) (w : World) (h : U64 b) : Calls Tryz.prog 58 #[.int .u64 b] w fun e w' => e = .returned (.int .u64 (negB b)) ∧ w = w' := by
  have HB := Lib.hid (negB_xor h)
  go_enter Tryz.func58, Tryz.ntmps58
  ((try dsimp only); repeat (first | go_values | go_skip | go_guarded | go_step | go_upon))
  go_ret
  exact ⟨R1 HB.out, rfl⟩
set_option maxRecDepth 100000 in
theorem lTurned (p : Pt) (w : World) (hp : PtU p) : Calls Tryz.prog 23 #[pt p] w fun e w' => e = .returned (pt (negP p)) ∧ Below w.heap.size w w' := by
  have HF1 := Lib.hid (fun wz => lNeg p.1 wz hp.1)
  have HF2 := Lib.hid (fun wz => lNeg p.2 wz hp.2)
  have HS : Hid (negP p = (negB p.1, negB p.2)) := Lib.hid rfl
  generalize negB p.1 = f1 at *
  generalize negB p.2 = f2 at *
  have hS : SpS w w.heap.size p ((w.alloc (.cells #[.int .u64 p.1, .int .u64 p.2] 24)).alloc (.cells #[.int .u64 0, .int .u64 0] 24)) :=
    ⟨(by repeat (first | exact Below.refl _ _ | refine belowN ?_ _ | refine Below.drew ?_ | refine Below.alloc ?_ (by first | exact Nat.le_refl _ | (simp; done) | (simp; omega) | omega) _)), alloc_old (alloc_new _ _), alloc_at _ (by simp)⟩
  unfold pt at *
  go_enter Tryz.func23, Tryz.ntmps23
  ((try dsimp only); repeat (first | go_values | go_skip | go_guarded | go_step | go_upon))
  generalize (World.alloc (World.alloc w _) _) = w2 at *
  have hSd : SpS w w.heap.size p w2.drew := ⟨hS.b.drew, hS.p, hS.r⟩
  clear hS
  refine start_ (n := 8) (S := fun w' => SpS w w.heap.size p w') (ds := [7]) (bt 8 0) (by kernel_rfl) rfl rfl (hSd) (fun hHeld => ?_)
  refine pv_ 0 3 ?_
  refine ld_ 1 4 ?_ hHeld ?_ ?_; rotate_left
  · rintro w' hs
    obtain ⟨q0, q1⟩ := row2 hs.p
    clear hs
    go_simp; with_reducible rfl
  refine pv_ 3 6 ?_
  refine ld_ 4 7 ?_ hHeld ?_ ?_; rotate_left
  · rintro w' hs
    obtain ⟨q0, q1⟩ := row2 hs.p
    clear hs
    go_simp; with_reducible rfl
  refine ca_ 2 5 Tryz.func58 #[.int .u64 p.1] ?_
  with_reducible refine (HF1.out _).mono ?_
  rintro e w' ⟨rfl, rfl⟩
  refine ⟨_, rfl, (by exact hHeld), fun hHeld => ?_⟩
  refine nn ?_
  refine ca_ 5 8 Tryz.func58 #[.int .u64 p.2] ?_
  with_reducible refine (HF2.out _).mono ?_
  rintro e w' ⟨rfl, rfl⟩
  refine ⟨_, rfl, (by exact hHeld), fun hHeld => ?_⟩
  refine nn ?_
  refine pv_ 6 9 ?_
  refine last_ (i := 7) (N := none) (bt 8 255) rfl rfl (by kernel_rfl) (by decide) (fun K hK => ?_)
  have HZ := Lib.hid hHeld
  obtain ⟨z0, z1, z2, z3⟩ := row2f (w := w2) hHeld.r
  clear hHeld
  refine skip_ (w1 := ?_) (by rfl) rfl ?_ ?_
  rotate_left
  · go_simp
    rfl
  refine hK.out _ _ ?_
  clear hK K
  refine done_ (by kernel_rfl) ?_
  ((try dsimp only); repeat (first | go_values | go_skip | go_guarded | go_step | go_upon))
  refine bodyPost_ret (results_cell_row rfl _ _ (w.heap.size + 1) _ _ _ _ rfl (heap_set_two HZ.out.r _ _) rfl rfl rfl) rfl ?_
  exact ⟨by rw [HS.out], (HZ.out.b.setCell (by show _ ≤ w.heap.size + 1; omega) _).setCell (by show _ ≤ w.heap.size + 1; omega) _⟩
theorem lSame (A B : Option Addr) (c d : Nat) (xs : List Int) (w : World) (lo up lo2 up2 : Nat) (hA : WordsIn lo up w A xs) (hB : WordsIn lo2 up2 w B xs) (hl : xs.length ≤ 9223372036854775807) :
    Calls Tryz.prog 59 #[.slice A xs.length c, .slice B xs.length d] w fun e w' => e = .returned (.bool true) ∧ Below w.heap.size w w' := by
  go_enter Tryz.func59, Tryz.ntmps59
  go_wp2
  go_loopw [5] (fun i wr => ∃ k q : Nat, i = .int .i64 k ∧ wr = w.drewN q ∧ k ≤ xs.length) (fun i _ => xs.length - (intOf i).toNat)
  case atStart => exact ⟨0, 0, rfl, rfl, Nat.zero_le _⟩
  case round =>
    obtain ⟨k, q, rfl, hq, hk⟩ := hrel
    replace hA : WordsIn lo up wr A xs := hA.keep (by rw [hq]; exact Keep.refl _ _ _)
    replace hB : WordsIn lo2 up2 wr B xs := hB.keep (by rw [hq]; exact Keep.refl _ _ _)
    have HQ := Lib.hid hq
    clear hq
    by_cases h : k < xs.length
    · obtain ⟨b, o, rfl, hb1, hb2, hc⟩ := hA.at h
      obtain ⟨b', o', rfl, hb1', hb2', hc'⟩ := hB.at h
      clear hA hB
      generalize xs.getD k 0 = v at *
      go_wp2_with (fail)
      go_quiet (fail)
      go_wp2
      exact ⟨⟨k + 1, q + nq, vint (by omega), by rw [HQ.out, World.drewN_drewN], by omega⟩, by simp [intOf]; omega⟩
    · obtain rfl : k = xs.length := by omega
      go_wp2
      go_ret
      exact ⟨rfl, by rw [HQ.out]; exact belowN (Below.refl _ _) q⟩
end Go.Proofs.YtggfppgjabembaaGreatDoor

namespace Go.Proofs.YtggfppgjabembaaGreatDoor
open Go.RowKit
set_option linter.unusedVariables false
def fo (a b c d : Pt) : Obj := .cells #[.int .u64 a.1, .int .u64 a.2, .int .u64 b.1, .int .u64 b.2, .int .u64 c.1, .int .u64 c.2, .int .u64 d.1, .int .u64 d.2] 26 (0, 0)
def mo (m : Mt) : Obj := .cells #[.int .i64 m.kind, .bool m.proper, .int .u64 m.P.1, .int .u64 m.P.2, .int .u64 m.Q.1, .int .u64 m.Q.2] 29 (0, 0)
def zo : Obj := .cells #[.bool false, .slice none 0 0, .slice none 0 0] 45 (0, 0)
theorem Mem.four8 {n : Nat} {w0 w : World} {a b c d : Pt} (h : Mem n w0 w [(n, fo a b c d)] []) (A B C D : Pt) :
    Mem n w0 (((((((((w.setCell ⟨n, 0, none⟩ (.int .u64 A.1)).setCell ⟨n, 1, none⟩ (.int .u64 A.2)).setCell ⟨n, 2, none⟩ (.int .u64 B.1)).setCell ⟨n, 3, none⟩ (.int .u64 B.2)).setCell ⟨n, 4, none⟩ (.int .u64 C.1)).setCell ⟨n, 5, none⟩ (.int .u64 C.2)).setCell ⟨n, 6, none⟩ (.int .u64 D.1)).setCell ⟨n, 7, none⟩ (.int .u64 D.2))) [(n, fo A B C D)] [] := by
  refine ⟨eight_below h.b (Nat.le_refl _), ?_, fun i g o e => ?_, fun i X Y q e => by simp at e⟩
  · simp only [setCell_size]; exact h.z
  · match i, e with
    | 0, e => cases e; exact eight_at (h.l 0 _ _ rfl) _ _ _ _ _ _ _ _
theorem Mem.add {n : Nat} {w0 w : World} {L : List (Nat × Obj)} {R : List (Option Addr × Option Addr × Rat)} (h : Mem n w0 w L R) {g : Nat} {o : Obj} (e : w.heap[g]? = some o) : Mem n w0 w (L ++ [(g, o)]) R := by
  refine ⟨h.b, h.z, fun i g' o' e' => ?_, h.r⟩
  rcases getElem?_snoc e' with e' | ⟨_, e'⟩
  · exact h.l i g' o' e'
  · cases e'; exact e
end Go.Proofs.YtggfppgjabembaaGreatDoor

namespace Go.Proofs.YtggfppgjabembaaGreatDoor
open Go.RowKit Go.Proofs.YtggfppgjabembaaGreatDoorW.PrintLast
set_option linter.unusedVariables false
set_option linter.unusedSimpArgs false
set_option maxRecDepth 100000 in
theorem lOne (s : Bool) (A B C D : Option Addr) (xs ys : List Int) (lo up : Nat) (w : World) (hA : WordsIn lo up w A xs) (hB : WordsIn lo up w B ys) (hC : WordsIn lo up w C xs) (hD : WordsIn lo up w D ys) (hu : up ≤ w.heap.size) (hx : xs.length ≤ 9223372036854775807) (hy : ys.length ≤ 9223372036854775807) :
    Calls Tryz.prog 25 #[.agg #[.bool s, .slice A xs.length xs.length, .slice B ys.length ys.length], .agg #[.bool s, .slice C xs.length xs.length, .slice D ys.length ys.length]] w fun e w' => e = .returned (.bool true) ∧ Below w.heap.size w w' := by
  have H1 := Lib.hid (fun wz (k : Below w.heap.size w wz) => lSame A C xs.length xs.length xs wz lo up lo up (hA.keep (Keep.of k hu)) (hC.keep (Keep.of k hu)) hx)
  have H2 := Lib.hid (fun wz (k : Below w.heap.size w wz) => lSame B D ys.length ys.length ys wz lo up lo up (hB.keep (Keep.of k hu)) (hD.keep (Keep.of k hu)) hy)
  clear hA hB hC hD
  have hm0 : Mem w.heap.size w ((w.alloc (.cells #[.bool s, .slice A xs.length xs.length, .slice B ys.length ys.length] 45)).alloc (.cells #[.bool s, .slice C xs.length xs.length, .slice D ys.length ys.length] 45)) _ _ := ((Mem.start w).alloc (.cells #[.bool s, .slice A xs.length xs.length, .slice B ys.length ys.length] 45 (0, 0))).alloc (.cells #[.bool s, .slice C xs.length xs.length, .slice D ys.length ys.length] 45 (0, 0))
  rw [World.size_alloc] at hm0
  have HM := Lib.hid hm0
  clear hm0
  go_enter Tryz.func25, Tryz.ntmps25
  go_upto_region 1 with (fail)
  generalize (World.alloc (World.alloc w _) _) = v0 at *
  obtain ⟨c0_0, c0_1, c0_2, c0_3, c0_4, c0_5⟩ := row3 (HM.out.l 0 _ _ rfl)
  obtain ⟨c1_0, c1_1, c1_2, c1_3, c1_4, c1_5⟩ := row3 (HM.out.l 1 _ _ rfl)
  have HK := Lib.hid (H1.out v0 HM.out.b)
  (try unfold qv at HK)
  (try unfold pt at HK)
  (try unfold mv at HK)
  ((try dsimp only); repeat (first | go_values | go_skip | go_guarded | go_step | go_upon))
  refine HK.out.mono ?_
  rintro e w1 ⟨rfl, hb⟩
  have hm := (HM.out.keep hb)
  clear HK HM hb  c0_0 c0_1 c0_2 c0_3 c0_4 c0_5 c1_0 c1_1 c1_2 c1_3 c1_4 c1_5
  have HM := Lib.hid hm
  clear hm
  obtain ⟨c0_0, c0_1, c0_2, c0_3, c0_4, c0_5⟩ := row3 (HM.out.l 0 _ _ rfl)
  obtain ⟨c1_0, c1_1, c1_2, c1_3, c1_4, c1_5⟩ := row3 (HM.out.l 1 _ _ rfl)
  have HK := Lib.hid (H2.out w1 HM.out.b)
  (try unfold qv at HK)
  (try unfold pt at HK)
  (try unfold mv at HK)
  ((try dsimp only); repeat (first | go_values | go_skip | go_guarded | go_step | go_upon))
  refine HK.out.mono ?_
  rintro e w2 ⟨rfl, hb⟩
  have hm := (HM.out.keep hb)
  clear HK HM hb  c0_0 c0_1 c0_2 c0_3 c0_4 c0_5 c1_0 c1_1 c1_2 c1_3 c1_4 c1_5
  ((try dsimp only); repeat (first | go_values | go_skip | go_guarded | go_step | go_upon))
  go_ret
  exact ⟨rfl, hm.b⟩
structure LkS (w0 : World) (n : Nat) (K : Int) (Pr : Bool) (P Q P2 Q2 : Pt) (w : World) : Prop where
  b : Below n w0 w
  m : w.heap[n]? = some (.cells #[.int .i64 K, .bool Pr, .int .u64 P.1, .int .u64 P.2, .int .u64 Q.1, .int .u64 Q.2] 29 (0, 0))
  n : w.heap[n + 1]? = some (.cells #[.int .i64 K, .bool Pr, .int .u64 P2.1, .int .u64 P2.2, .int .u64 Q2.1, .int .u64 Q2.2] 29 (0, 0))
section
variable {w0 w w' : World} {n : Nat} {K : Int} {Pr : Bool} {P Q P2 Q2 : Pt}
theorem LkS.keep (h : LkS w0 n K Pr P Q P2 Q2 w) (k : Below w.heap.size w w') : LkS w0 n K Pr P Q P2 Q2 w' :=
  ⟨h.b.trans (k.mono (Nat.le_of_lt (heap_lt h.m))), (k.block _ (heap_lt h.m)).trans h.m, (k.block _ (heap_lt h.n)).trans h.n⟩
theorem LkS.setP (h : LkS w0 n K Pr P Q P2 Q2 w) (X : Pt) : LkS w0 n K Pr P Q X Q2 ((w.setCell ⟨n + 1, 2, none⟩ (.int .u64 X.1)).setCell ⟨n + 1, 3, none⟩ (.int .u64 X.2)) :=
  ⟨(h.b.setCell (Nat.le_succ _) _).setCell (Nat.le_succ _) _, by rw [Below.heap_setCell _ _ _ _ (show n ≠ n + 1 by omega), Below.heap_setCell _ _ _ _ (show n ≠ n + 1 by omega)]; exact h.m, heap_set_cell (heap_set_cell h.n 2 (.int .u64 X.1)) 3 (.int .u64 X.2)⟩
theorem LkS.setQ (h : LkS w0 n K Pr P Q P2 Q2 w) (X : Pt) : LkS w0 n K Pr P Q P2 X ((w.setCell ⟨n + 1, 4, none⟩ (.int .u64 X.1)).setCell ⟨n + 1, 5, none⟩ (.int .u64 X.2)) :=
  ⟨(h.b.setCell (Nat.le_succ _) _).setCell (Nat.le_succ _) _, by rw [Below.heap_setCell _ _ _ _ (show n ≠ n + 1 by omega), Below.heap_setCell _ _ _ _ (show n ≠ n + 1 by omega)]; exact h.m, heap_set_cell (heap_set_cell h.n 4 (.int .u64 X.1)) 5 (.int .u64 X.2)⟩
end
set_option maxRecDepth 100000 in
set_option maxHeartbeats 1600000 in
theorem lLike0 (K : Int) (Pr : Bool) (P Q P2 Q2 : Pt) (w : World) (hP : ∀ wz, Calls Tryz.prog 15 #[pt P, pt P2] wz fun e w' => e = .returned (.bool true) ∧ Below wz.heap.size wz w')
    (hQ : ∀ wz, Calls Tryz.prog 15 #[pt Q, pt Q2] wz fun e w' => e = .returned (.bool true) ∧ Below wz.heap.size wz w') :
    Calls Tryz.prog 24 #[mv ⟨K, Pr, P, Q⟩, mv ⟨K, Pr, P2, Q2⟩, .bool false] w fun e w' => e = .returned (.bool true) ∧ Below w.heap.size w w' := by
  have H1 := Lib.hid hP
  have H2 := Lib.hid hQ
  clear hP hQ
  have hm0 : Mem w.heap.size w ((w.alloc (.cells #[.int .i64 K, .bool Pr, .int .u64 P.1, .int .u64 P.2, .int .u64 Q.1, .int .u64 Q.2] 29)).alloc (.cells #[.int .i64 K, .bool Pr, .int .u64 P2.1, .int .u64 P2.2, .int .u64 Q2.1, .int .u64 Q2.2] 29)) _ _ := ((Mem.start w).alloc (mo ⟨K, Pr, P, Q⟩)).alloc (mo ⟨K, Pr, P2, Q2⟩)
  rw [World.size_alloc] at hm0
  have HM := Lib.hid hm0
  clear hm0
  unfold mv
  go_enter Tryz.func24, Tryz.ntmps24
  go_upto_region 6 with (fail)
  generalize (World.alloc (World.alloc w _) _) = v0 at *
  obtain ⟨c0_0, c0_1, c0_2, c0_3, c0_4, c0_5, c0_6, c0_7, c0_8, c0_9, c0_10, c0_11⟩ := row6 (HM.out.l 0 _ _ rfl)
  obtain ⟨c1_0, c1_1, c1_2, c1_3, c1_4, c1_5, c1_6, c1_7, c1_8, c1_9, c1_10, c1_11⟩ := row6 (HM.out.l 1 _ _ rfl)
  have HK := Lib.hid (H1.out v0)
  (try unfold qv at HK)
  (try unfold pt at HK)
  (try unfold mv at HK)
  ((try dsimp only); repeat (first | go_values | go_skip | go_guarded | go_step | go_upon))
  refine HK.out.mono ?_
  rintro e w1 ⟨rfl, hb⟩
  have hm := (HM.out.keep hb)
  clear HK HM hb  c0_0 c0_1 c0_2 c0_3 c0_4 c0_5 c0_6 c0_7 c0_8 c0_9 c0_10 c0_11 c1_0 c1_1 c1_2 c1_3 c1_4 c1_5 c1_6 c1_7 c1_8 c1_9 c1_10 c1_11
  have HM := Lib.hid hm
  clear hm
  obtain ⟨c0_0, c0_1, c0_2, c0_3, c0_4, c0_5, c0_6, c0_7, c0_8, c0_9, c0_10, c0_11⟩ := row6 (HM.out.l 0 _ _ rfl)
  obtain ⟨c1_0, c1_1, c1_2, c1_3, c1_4, c1_5, c1_6, c1_7, c1_8, c1_9, c1_10, c1_11⟩ := row6 (HM.out.l 1 _ _ rfl)
  have HK := Lib.hid (H2.out w1)
  (try unfold qv at HK)
  (try unfold pt at HK)
  (try unfold mv at HK)
  ((try dsimp only); repeat (first | go_values | go_skip | go_guarded | go_step | go_upon))
  refine HK.out.mono ?_
  rintro e w2 ⟨rfl, hb⟩
  have hm := (HM.out.keep hb)
  clear HK HM hb  c0_0 c0_1 c0_2 c0_3 c0_4 c0_5 c0_6 c0_7 c0_8 c0_9 c0_10 c0_11 c1_0 c1_1 c1_2 c1_3 c1_4 c1_5 c1_6 c1_7 c1_8 c1_9 c1_10 c1_11
  ((try dsimp only); repeat (first | go_values | go_skip | go_guarded | go_step | go_upon))
  go_ret
  exact ⟨rfl, hm.b⟩
set_option maxRecDepth 100000 in
set_option maxHeartbeats 1600000 in
theorem lLike1 (K : Int) (Pr : Bool) (P Q P2 Q2 : Pt) (w : World) (u2 : PtU P2) (v2 : PtU Q2)
    (hP : ∀ wz, Calls Tryz.prog 15 #[pt P, pt (if K = 2 then negP Q2 else negP P2)] wz fun e w' => e = .returned (.bool true) ∧ Below wz.heap.size wz w')
    (hQ : ∀ wz, Calls Tryz.prog 15 #[pt Q, pt (if K = 2 then negP P2 else negP Q2)] wz fun e w' => e = .returned (.bool true) ∧ Below wz.heap.size wz w') :
    Calls Tryz.prog 24 #[mv ⟨K, Pr, P, Q⟩, mv ⟨K, Pr, P2, Q2⟩, .bool true] w fun e w' => e = .returned (.bool true) ∧ Below w.heap.size w w' := by
  have H1 := Lib.hid hP
  have H2 := Lib.hid hQ
  have T1 := Lib.hid (fun wz => lTurned P2 wz u2)
  have T2 := Lib.hid (fun wz => lTurned Q2 wz v2)
  clear hP hQ
  have hs0 : LkS w w.heap.size K Pr P Q P2 Q2 ((w.alloc (.cells #[.int .i64 K, .bool Pr, .int .u64 P.1, .int .u64 P.2, .int .u64 Q.1, .int .u64 Q.2] 29)).alloc (.cells #[.int .i64 K, .bool Pr, .int .u64 P2.1, .int .u64 P2.2, .int .u64 Q2.1, .int .u64 Q2.2] 29)) :=
    ⟨(by repeat (first | exact Below.refl _ _ | refine belowN ?_ _ | refine Below.drew ?_ | refine Below.alloc ?_ (by first | exact Nat.le_refl _ | (simp; done) | (simp; omega) | omega) _)), alloc_old (alloc_new _ _), alloc_at _ (by simp)⟩
  have HS := Lib.hid hs0
  clear hs0
  generalize negP P2 = P3 at *
  generalize negP Q2 = Q3 at *
  unfold mv
  unfold pt at T1 T2
  go_enter Tryz.func24, Tryz.ntmps24
  go_upto_region 2 with (fail)
  generalize (World.alloc (World.alloc w _) _) = v0 at *
  obtain ⟨y0, y1, y2, y3, y4, y5, y6, y7, y8, y9, y10, y11⟩ := row6 HS.out.n
  ((try dsimp only); repeat (first | go_values | go_skip | go_guarded | go_step | go_upon))
  refine (T1.out _).mono ?_
  rintro e w1 ⟨rfl, hb⟩
  have hs := HS.out.keep hb
  obtain ⟨y0, y1, y2, y3, y4, y5, y6, y7, y8, y9, y10, y11⟩ := row6 hs.n
  have hs := hs.setP P3
  clear HS hb
  have HS := Lib.hid hs
  clear hs
  go_upto_region 3 with (fail)
  generalize (World.setCell (World.setCell w1 _ _) _ _) = v1 at *
  clear y0 y1 y2 y3 y4 y5 y6 y7 y8 y9 y10 y11
  obtain ⟨y0, y1, y2, y3, y4, y5, y6, y7, y8, y9, y10, y11⟩ := row6 HS.out.n
  ((try dsimp only); repeat (first | go_values | go_skip | go_guarded | go_step | go_upon))
  refine (T2.out _).mono ?_
  rintro e w2 ⟨rfl, hb⟩
  have hs := HS.out.keep hb
  obtain ⟨y0, y1, y2, y3, y4, y5, y6, y7, y8, y9, y10, y11⟩ := row6 hs.n
  have hs := hs.setQ Q3
  clear HS hb
  have HS := Lib.hid hs
  clear hs
  go_upto_region 4 with (fail)
  generalize (World.setCell (World.setCell w2 _ _) _ _) = v2 at *
  clear y0 y1 y2 y3 y4 y5 y6 y7 y8 y9 y10 y11
  by_cases hk : K = 2
  · rw [if_pos hk] at H1 H2
    have hkb : (K == 2) = true := beq_iff_eq.2 hk
    clear hk
    obtain ⟨y0, y1, y2, y3, y4, y5, y6, y7, y8, y9, y10, y11⟩ := row6 HS.out.n
    have hs := (HS.out.setP Q3).setQ P3
    clear HS
    have HS := Lib.hid hs
    clear hs
    go_upto_region 6 with (fail)
    generalize (World.setCell (World.setCell (World.setCell (World.setCell v2 _ _) _ _) _ _) _ _) = v3 at *
    clear y0 y1 y2 y3 y4 y5 y6 y7 y8 y9 y10 y11
    obtain ⟨y0, y1, y2, y3, y4, y5, y6, y7, y8, y9, y10, y11⟩ := row6 HS.out.n
    obtain ⟨x0, x1, x2, x3, x4, x5, x6, x7, x8, x9, x10, x11⟩ := row6 HS.out.m
    unfold pt at H1 H2
    ((try dsimp only); repeat (first | go_values | go_skip | go_guarded | go_step | go_upon))
    refine (H1.out _).mono ?_
    rintro e w4 ⟨rfl, hb⟩
    have hs := HS.out.keep hb
    clear HS hb y0 y1 y2 y3 y4 y5 y6 y7 y8 y9 y10 y11 x0 x1 x2 x3 x4 x5 x6 x7 x8 x9 x10 x11
    obtain ⟨y0, y1, y2, y3, y4, y5, y6, y7, y8, y9, y10, y11⟩ := row6 hs.n
    obtain ⟨x0, x1, x2, x3, x4, x5, x6, x7, x8, x9, x10, x11⟩ := row6 hs.m
    ((try dsimp only); repeat (first | go_values | go_skip | go_guarded | go_step | go_upon))
    refine (H2.out _).mono ?_
    rintro e w5 ⟨rfl, hb⟩
    have hs := hs.keep hb
    ((try dsimp only); repeat (first | go_values | go_skip | go_guarded | go_step | go_upon))
    go_ret
    exact ⟨rfl, hs.b⟩
  · rw [if_neg hk] at H1 H2
    have hkb : (K == 2) = false := beq_eq_false_iff_ne.2 hk
    clear hk
    obtain ⟨y0, y1, y2, y3, y4, y5, y6, y7, y8, y9, y10, y11⟩ := row6 HS.out.n
    obtain ⟨x0, x1, x2, x3, x4, x5, x6, x7, x8, x9, x10, x11⟩ := row6 HS.out.m
    unfold pt at H1 H2
    ((try dsimp only); repeat (first | go_values | go_skip | go_guarded | go_step | go_upon))
    refine (H1.out _).mono ?_
    rintro e w4 ⟨rfl, hb⟩
    have hs := HS.out.keep hb
    clear HS hb y0 y1 y2 y3 y4 y5 y6 y7 y8 y9 y10 y11 x0 x1 x2 x3 x4 x5 x6 x7 x8 x9 x10 x11
    obtain ⟨y0, y1, y2, y3, y4, y5, y6, y7, y8, y9, y10, y11⟩ := row6 hs.n
    obtain ⟨x0, x1, x2, x3, x4, x5, x6, x7, x8, x9, x10, x11⟩ := row6 hs.m
    ((try dsimp only); repeat (first | go_values | go_skip | go_guarded | go_step | go_upon))
    refine (H2.out _).mono ?_
    rintro e w5 ⟨rfl, hb⟩
    have hs := hs.keep hb
    ((try dsimp only); repeat (first | go_values | go_skip | go_guarded | go_step | go_upon))
    go_ret
    exact ⟨rfl, hs.b⟩
end Go.Proofs.YtggfppgjabembaaGreatDoor
