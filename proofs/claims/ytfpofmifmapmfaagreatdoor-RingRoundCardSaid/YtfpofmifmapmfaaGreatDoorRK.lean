/- Package ring: Centre of every ring that is one (printed by gen_ring52.py). -/
import Derived.Test.YtfpofmifmapmfaaGreatDoorRN
import Derived.Test.YtfpofmifmapmfaaGreatDoorRM
import Derived.Test.YtfpofmifmapmfaaGreatDoorRC
namespace Go.Proofs.YtfpofmifmapmfaaGreatDoor
open Go.RowKit Go.Proofs.YtfpofmifmapmfaaGreatDoorW.PrintLast
set_option linter.unusedVariables false
set_option linter.unusedSimpArgs false
theorem mox_rev (x y : Pt) : mox (x, y) + mox (y, x) = 0 := by have := crs_rev x y; unfold mox; grind
theorem moy_rev (x y : Pt) : moy (x, y) + moy (y, x) = 0 := by have := crs_rev x y; unfold moy; grind
theorem neg_div_neg3 (a b : Rat) : -a / (-b * 3) = a / (b * 3) := by
  by_cases h : b = 0
  · subst h; simp [Rat.div_def]
  · have h3 : b * 3 ≠ 0 := by intro e; rcases Rat.mul_eq_zero.1 e with e | e; exact h e; exact absurd e (by decide)
    have h4 : -b * 3 ≠ 0 := by intro e; exact h3 (by grind)
    grind
theorem cenX_bgn (l : List Pt) (j : Nat) (back : Bool) : cenX (closedL (bgnL l j back)) = cenX (closedL l) := by
  unfold cenX
  rw [edgesR_pth, edgesR_pth, bgn_sumE mox_rev, bgn_sumE crs_rev]
  cases back
  · rfl
  · exact neg_div_neg3 _ _
theorem cenY_bgn (l : List Pt) (j : Nat) (back : Bool) : cenY (closedL (bgnL l j back)) = cenY (closedL l) := by
  unfold cenY
  rw [edgesR_pth, edgesR_pth, bgn_sumE moy_rev, bgn_sumE crs_rev]
  cases back
  · rfl
  · exact neg_div_neg3 _ _
theorem mem_getD {l : List Pt} {q : Pt} (h : q ∈ l) : ∃ i, i < l.length ∧ l.getD i (0, 0) = q := by
  obtain ⟨i, hi, e⟩ := List.getElem_of_mem h
  exact ⟨i, hi, by rw [List.getD_eq_getElem?_getD, List.getElem?_eq_getElem hi, e]; rfl⟩
theorem low_le (f : Pt → Int) {l m : List Pt} (h : ∀ q, q ∈ m → q ∈ l) (h1 : 0 < m.length) : fval (cornK (-1) f l l.length) ≤ fval (cornK (-1) f m m.length) := by
  obtain ⟨j, hj, e⟩ := cornK_is (-1) f m m.length (Nat.le_refl _) h1
  obtain ⟨i, hi, e2⟩ := mem_getD (h _ (getD_mem hj))
  rw [e, ← e2]
  exact cornK_low f l l.length i hi
theorem high_le (f : Pt → Int) {l m : List Pt} (h : ∀ q, q ∈ m → q ∈ l) (h1 : 0 < m.length) : fval (cornK 1 f m m.length) ≤ fval (cornK 1 f l l.length) := by
  obtain ⟨j, hj, e⟩ := cornK_is 1 f m m.length (Nat.le_refl _) h1
  obtain ⟨i, hi, e2⟩ := mem_getD (h _ (getD_mem hj))
  rw [e, ← e2]
  exact cornK_high f l l.length i hi
theorem low_same (f : Pt → Int) {l m : List Pt} (h : ∀ q, q ∈ m ↔ q ∈ l) (h0 : 0 < l.length) (h1 : 0 < m.length) : fval (cornK (-1) f l l.length) = fval (cornK (-1) f m m.length) :=
  Rat.le_antisymm (low_le f (fun q => (h q).1) h1) (low_le f (fun q => (h q).2) h0)
theorem high_same (f : Pt → Int) {l m : List Pt} (h : ∀ q, q ∈ m ↔ q ∈ l) (h0 : 0 < l.length) (h1 : 0 < m.length) : fval (cornK 1 f l l.length) = fval (cornK 1 f m m.length) :=
  Rat.le_antisymm (high_le f (fun q => (h q).2) h0) (high_le f (fun q => (h q).1) h1)
def midX (ps : List Pt) : Rat := (fval (lowP ps).1 + fval (highP ps).1) / 2
def midY (ps : List Pt) : Rat := (fval (lowP ps).2 + fval (highP ps).2) / 2
def cX (ps : List Pt) : Rat := if sumE crs (edgesR ps) = 0 then midX ps else cenX ps
def cY (ps : List Pt) : Rat := if sumE crs (edgesR ps) = 0 then midY ps else cenY ps
def centV (ps : List Pt) : Pt × Int := if (nearR (cX ps)).2 = 0 ∧ (nearR (cY ps)).2 = 0 then (((nearR (cX ps)).1, (nearR (cY ps)).1), 0) else ((0, 0), 70)
theorem bgn_memI {l : List Pt} {j : Nat} {back : Bool} {q : Pt} : q ∈ bgnL l j back ↔ q ∈ l := by
  unfold bgnL
  rw [rot_mem]
  cases back
  · exact Iff.rfl
  · exact List.mem_reverse
theorem finB_same {l m : List Pt} (h : ∀ q, q ∈ m ↔ q ∈ l) : finB m = finB l := by
  unfold finB
  rw [Bool.eq_iff_iff, List.all_eq_true, List.all_eq_true]
  exact ⟨fun g q hq => g q ((h q).2 hq), fun g q hq => g q ((h q).1 hq)⟩
theorem mid_same {l m : List Pt} (h : ∀ q, q ∈ m ↔ q ∈ l) (h0 : 0 < l.length) (h1 : 0 < m.length) (hf : finB l = true) : midX m = midX l ∧ midY m = midY l := by
  have e0 : boxE l = 0 := by unfold boxE; rw [if_neg (by omega), if_pos hf]
  have e1 : boxE m = 0 := by unfold boxE; rw [if_neg (by omega), finB_same h, if_pos hf]
  unfold midX midY lowP highP
  rw [if_pos e0, if_pos e0, if_pos e1, if_pos e1]
  show (fval (cornK (-1) fX m m.length) + fval (cornK 1 fX m m.length)) / 2 = _ ∧ (fval (cornK (-1) fY m m.length) + fval (cornK 1 fY m m.length)) / 2 = _
  rw [← low_same fX h h0 h1, ← high_same fX h h0 h1, ← low_same fY h h0 h1, ← high_same fY h h0 h1]
  exact ⟨rfl, rfl⟩
theorem cent_bgn {l : List Pt} (j : Nat) (back : Bool) (h0 : 0 < l.length) (hf : finB (closedL l) = true) : centV (closedL (bgnL l j back)) = centV (closedL l) := by
  have hm : ∀ q, q ∈ closedL (bgnL l j back) ↔ q ∈ closedL l := fun q => by rw [closedL_mem, closedL_mem, bgn_memI]
  have hl := bgn_len l j back
  obtain ⟨m1, m2⟩ := mid_same hm (by rw [closedL_len h0]; omega) (by rw [closedL_len (by omega)]; omega) hf
  have ha : sumE crs (edgesR (closedL (bgnL l j back))) = 0 ↔ sumE crs (edgesR (closedL l)) = 0 := by
    rw [edgesR_pth, edgesR_pth, bgn_sumE crs_rev]
    cases back
    · exact Iff.rfl
    · rw [if_pos rfl]; constructor <;> intro h <;> grind
  have c1 : cX (closedL (bgnL l j back)) = cX (closedL l) := by
    unfold cX; rw [m1, cenX_bgn]
    by_cases h : sumE crs (edgesR (closedL l)) = 0
    · rw [if_pos h, if_pos (ha.2 h)]
    · rw [if_neg h, if_neg (fun g => h (ha.1 g))]
  have c2 : cY (closedL (bgnL l j back)) = cY (closedL l) := by
    unfold cY; rw [m2, cenY_bgn]
    by_cases h : sumE crs (edgesR (closedL l)) = 0
    · rw [if_pos h, if_pos (ha.2 h)]
    · rw [if_neg h, if_neg (fun g => h (ha.1 g))]
  unfold centV
  rw [c1, c2]
theorem onE_rev (p x y : Pt) : onE p (y, x) = onE p (x, y) := btw_swap _ _ _
theorem wind_any {ps : List Pt} (h : 2 ≤ ps.length) (p : Pt) : windR ps p = if (edgesR ps).any (onE p) = true then (0, true) else (sumI (crossE p) (edgesR ps), false) := by
  unfold windR
  by_cases h0 : pcmpP (ps.getD 0 (0, 0)) p = 0
  · rw [if_pos h0]
    have : (edgesR ps).any (onE p) = true := by
      rw [edgesR_pth]
      match ps, h with
      | x :: y :: t, _ =>
        have e : pl x = pl p := pcmp_eq.1 h0
        show (onE p (x, y) || (pthE (y :: t)).any (onE p)) = true
        have e2 : onE p (x, y) = true := by
          show btw (pl x) (pl y) (pl p) = true
          rw [← e]; exact btw_self _ _
        rw [e2, Bool.true_or]
    rw [if_pos this]
  · rw [if_neg h0]
theorem wind_bgn {l : List Pt} (j : Nat) (back : Bool) (p : Pt) (h0 : 0 < l.length) (hl : l.length ≤ 511) :
    windV (closedL (bgnL l j back)) p = (if back then -(windV (closedL l) p).1 else (windV (closedL l) p).1, (windV (closedL l) p).2.1, (windV (closedL l) p).2.2) := by
  have hb := bgn_len l j back
  have c1 := closed_chk (more := [p]) h0 hl
  have c2 := closed_chk (l := bgnL l j back) (more := [p]) (by omega) (by omega)
  rw [finB_same (fun q => bgn_memI)] at c2
  have w1 := wind_any (ps := closedL l) (by rw [closedL_len h0]; omega) p
  have w2 := wind_any (ps := closedL (bgnL l j back)) (by rw [closedL_len (by omega)]; omega) p
  rw [edgesR_pth, bgn_any (onE_rev p), bgn_sumI (crossE_rev p)] at w2
  rw [edgesR_pth] at w1
  unfold windV
  rw [c2, ← c1]
  by_cases hc : chkE (closedL l) [p] = 0
  · have hc2 : ¬ chkE (closedL l) [p] ≠ 0 := fun h => h hc
    simp only [if_neg hc2]
    rw [w1, w2]
    split
    · cases back <;> rfl
    · cases back <;> rfl
  · simp only [if_pos hc]
    cases back <;> rfl
theorem side_bgn {l : List Pt} (j : Nat) (back : Bool) (p : Pt) (h0 : 0 < l.length) (hl : l.length ≤ 511) : sideV (closedL (bgnL l j back)) p = sideV (closedL l) p := by
  unfold sideV
  rw [wind_bgn j back p h0 hl]
  generalize windV (closedL l) p = W
  obtain ⟨n, on, er⟩ := W
  dsimp only
  cases back
  · rfl
  · rw [if_pos rfl, Int.neg_tmod]
    have : -(n.tmod 2) ≠ 0 ↔ n.tmod 2 ≠ 0 := by omega
    by_cases hn : n.tmod 2 = 0
    · rw [hn]; rfl
    · rw [if_pos (this.2 hn), if_pos hn]
end Go.Proofs.YtfpofmifmapmfaaGreatDoor

namespace Go.Proofs.YtfpofmifmapmfaaGreatDoor
open Go.RowKit Go.Proofs.YtfpofmifmapmfaaGreatDoorW.PrintLast
set_option linter.unusedVariables false
set_option linter.unusedSimpArgs false
set_option maxRecDepth 100000 in
set_option maxHeartbeats 6400000 in
theorem gCentreA (A : Option Addr) (c : Nat) (ps : List Pt) (w : World) (hp : PtsIn w A ps) (hl : ps.length ≤ 1000000) (hu : ∀ q ∈ ps, PtU q) (h0 : chkE ps [] = 0) (ha : sumE crs (edgesR ps) ≠ 0) (hst : Stays w) :
    Calls Tryz.prog 20 #[.slice A ps.length c] w fun e w' => e = .returned (.tuple #[.agg #[.int .u64 (centV ps).1.1, .int .u64 (centV ps).1.2], .int .i64 (centV ps).2]) ∧ Below w.heap.size w w' := by
  have hmm := (Bx.start w).alloc (.cells #[.int .u64 0, .int .u64 0] 38 (0, 0))
  simp only [List.nil_append] at hmm
  have HC := Lib.hid (gCheck A none c 0 ps [] _ (hp.keep hmm.m.b) (Or.inl rfl) hl (by simp) hu no_more)
  obtain ⟨k0, k1, k2, _, _⟩ := chk_ok hu no_more h0
  have hle : ∀ e ∈ edgesR ps, FinE e := edges_fin k2
  have hln : (edgesR ps).length < 1024 := by rw [show (edgesR ps).length = ps.length - 1 from edgesU_len _ _]; omega
  have z1 := area_szE hle hln
  obtain ⟨z2, z3⟩ := mox_szE hle hln
  have HP := Lib.hid hp
  have HM := Lib.hid hmm
  rw [show ([] : List Pt).length = 0 from rfl, h0] at HC
  have ex : cX ps = sumE mox (edgesR ps) / (sumE crs (edgesR ps) * 3) := if_neg ha
  have ey : cY ps = sumE moy (edgesR ps) / (sumE crs (edgesR ps) * 3) := if_neg ha
  have HQ : Hid (centV ps = if (nearR (cX ps)).2 = 0 ∧ (nearR (cY ps)).2 = 0 then (((nearR (cX ps)).1, (nearR (cY ps)).1), 0) else ((0, 0), 70)) := Lib.hid rfl
  generalize centV ps = V at *
  generalize cX ps = cx at *
  generalize cY ps = cy at *
  obtain ⟨tr, htr⟩ : ∃ q : Rat, q = 3 := ⟨3, rfl⟩
  rw [← htr] at ex ey
  have z0 : Sz 2 tr := by rw [htr]; exact ⟨by decide, by decide⟩
  have hd : (sumE crs (edgesR ps) * tr).num ≠ 0 := by
    intro q
    have q2 := Rat.num_eq_zero.1 q
    rcases Rat.mul_eq_zero.1 q2 with q3 | q3
    · exact ha q3
    · rw [htr] at q3; exact absurd q3 (by decide)
  have hsg : (qsgn (sumE crs (edgesR ps)) == 0) = false := by
    rw [beq_false_of_ne]
    intro q
    exact ha (qsgn_zero.1 q)
  have HI3 : Hid (∀ wz, Calls Tryz.prog 35 #[.int .i64 3] wz fun e w' => ∃ A B, e = .returned (qv A B tr) ∧ RatFresh wz.heap.size w' A B tr ∧ Below wz.heap.size wz w') := Lib.hid (fun wz => rInt3 tr htr wz)
  have HAR : Hid (∀ s wz, SumOk wz s → Below w.heap.size w wz → Calls Tryz.prog 59 #[.pointer (some ⟨s, 0, none⟩), .slice A ps.length c, .bool true] wz fun e w' => ∃ A1 B1 A2 B2 A3 B3, e = .returned (.tuple #[qv A1 B1 (sumE crs (edgesR ps)), qv A2 B2 (sumE mox (edgesR ps)), qv A3 B3 (sumE moy (edgesR ps))]) ∧
      Bx wz.heap.size wz w' [] [(A1, B1, sumE crs (edgesR ps)), (A2, B2, sumE mox (edgesR ps)), (A3, B3, sumE moy (edgesR ps))]) :=
    Lib.hid (fun s wz h hb => gArea s A c ps true wz h (HP.out.keep hb) k0 k1 k2)
  have z4 : Sz 4212 (sumE crs (edgesR ps) * tr) := (z1.mul z0).mono (by omega)
  have z5 : Sz 30000 cx := by rw [ex]; exact (z2.div z4 hd).mono (by omega)
  have z6 : Sz 30000 cy := by rw [ey]; exact (z3.div z4 hd).mono (by omega)
  have HF := Lib.hid (And.intro hst (And.intro z5 z6))
  clear hp hl hu hmm h0 ha k0 k1 k2 hle hln htr
  generalize sumE crs (edgesR ps) = qa at *
  generalize sumE mox (edgesR ps) = qx at *
  generalize sumE moy (edgesR ps) = qy at *
  have HZ := Lib.hid (And.intro z1 (And.intro z0 (And.intro z2 (And.intro z3 (And.intro z4 hd)))))
  have hq := z1.lens (by omega)
  have HEX := Lib.hid (And.intro ex ey)
  clear z0 z1 z2 z3 z4 ex ey hst hd z5 z6
  generalize ps.length = m at *
  go_enter Tryz.func20, Tryz.ntmps20
  ((try dsimp only); repeat (first | go_values | go_skip | go_guarded | go_step | go_upon))
  generalize World.alloc w _ = v at *
  refine HC.out.mono ?_
  rintro e w1 ⟨rfl, hb1⟩
  have h2 := (HM.out.keep hb1).alloc (.cells #[.int .i64 0] 106 (0, 0))
  simp only [List.nil_append, List.cons_append] at h2
  have HA := Lib.hid (HAR.out w1.heap.size _ (h2.at 1 rfl) h2.m.b)
  have H2 := Lib.hid h2
  clear HC HM hb1 h2 HAR
  unfold qv at HA
  ((try dsimp only); repeat (first | go_values | go_skip | go_guarded | go_step | go_upon))
  generalize World.alloc w1 _ = w2 at *
  refine HA.out.mono ?_
  rintro e w3 ⟨A1, B1, A2, B2, A3, B3, rfl, hx⟩
  have h3 := (((H2.out.join hx).alloc (qo A1 B1 qa)).alloc (qo A2 B2 qx)).alloc (qo A3 B3 qy)
  simp only [List.nil_append, List.cons_append, World.size_alloc] at h3
  unfold qo at h3
  have HM := Lib.hid h3
  clear h3 hx H2 HA
  ((try dsimp only); repeat (first | go_values | go_skip | go_guarded | go_step | go_upon))
  generalize World.alloc (World.alloc (World.alloc w3 _) _) _ = w4 at *
  refine start_ (n := 6) (S := fun w' => w'.heap[w3.heap.size]? = w4.heap[w3.heap.size]?) (ds := [5]) (bt 6 0) (by kernel_rfl) rfl rfl (rfl) (fun hHeld => ?_)
  refine pv_ 0 32 ?_
  refine ld_ 1 33 ?_ hHeld ?_ ?_; rotate_left
  · rintro w' hs
    obtain ⟨q0, q1, q2, q3, q4, q5⟩ := rw3 ((hs).trans (HM.out.at 2 rfl))
    clear hs
    go_simp; with_reducible rfl
  refine join_ (σ := Option Addr × Option Addr × Option Addr × Option Addr × Nat) 1 (bt 6 31) (fun s => [(34, (qv (s.1) (s.2.1) tr)), (35, (qv (s.2.2.1) (s.2.2.2.1) (qa * tr))), (9, .pointer (some ⟨(s.2.2.2.2), 0, none⟩))]) (fun s w' => Bx w4.heap.size w4 w' [((s.2.2.2.2), zR)] [((s.1), (s.2.1), tr), ((s.2.2.1), (s.2.2.2.1), (qa * tr))]) ?_ ?_
  rotate_left
  · intro J0
    refine join_ (σ := Option Addr × Option Addr × Option Addr × Option Addr × Nat) 2 (bt 6 15) (fun s => [(34, (qv (s.1) (s.2.1) tr)), (35, (qv (s.2.2.1) (s.2.2.2.1) (qa * tr)))]) (fun s w' => Bx w4.heap.size w4 w' [] [((s.1), (s.2.1), tr), ((s.2.2.1), (s.2.2.2.1), (qa * tr))]) ?_ ?_
    · rintro ⟨P20_2, Q20_2, P20_3, Q20_3, g20_4⟩ wj hF
      try dsimp only at hF ⊢
      refine nx ?_
      refine o1 4 9 (bt 6 31) ?_
      · intro K hK
        refine al_ (.cells #[.bool false, .slice none 0 0, .slice none 0 0] 26) ?_
        have hN := hF.alloc zR
        refine hK.out _ _ (by exact (hN.m.b.block _ (HM.out.lt 2 rfl))) (fun hHeld => ?_)
        exact nj (J0 (P20_2, Q20_2, P20_3, Q20_3, wj.heap.size) _ hN)
    intro J1
    refine join_ (σ := Option Addr × Option Addr × Option Addr × Option Addr × Nat) 2 (bt 6 23) (fun s => [(34, (qv (s.1) (s.2.1) tr)), (9, .pointer (some ⟨(s.2.2.2.2), 0, none⟩))]) (fun s w' => Bx w4.heap.size w4 w' [((s.2.2.2.2), zR)] [((s.1), (s.2.1), tr)]) ?_ ?_
    · rintro ⟨P20_2, Q20_2, P20_3, Q20_3, g20_4⟩ wj hF
      try dsimp only at hF ⊢
      refine nx ?_
      refine o1 3 35 (bt 6 31) ?_
      · intro K hK
        refine go_ Tryz.func62 #[.pointer (some ⟨w1.heap.size, 0, none⟩), .agg #[.bool (decide (qa.num < 0)), .slice A1 (qn qa).length (qn qa).length, .slice B1 (qd qa).length (qd qa).length], .agg #[.bool (decide (tr.num < 0)), .slice P20_2 (qn tr).length (qn tr).length, .slice Q20_2 (qd tr).length (qd tr).length]] ?_
        refine (gMul w1.heap.size _ _ _ _ 0 wj.heap.size 4210 2 qa tr wj ((HM.out.keep hF.m.b).at 1 rfl) ((HM.out.keep hF.m.b).ins 0 rfl) (hF.ins 0 rfl) (Nat.le_refl _) HZ.out.1 HZ.out.2.1 (by omega)).mono ?_
        rintro e w' ⟨P20_3, Q20_3, rfl, hf, hb⟩
        refine ⟨_, rfl, ?_⟩
        have hN := hF.call hf hb
        refine hK.out _ _ (by exact (hN.m.b.block _ (HM.out.lt 2 rfl))) (fun hHeld => ?_)
        exact nj (J0 (P20_2, Q20_2, P20_3, Q20_3, g20_4) _ hN)
    intro J2
    refine join_ (σ := Option Addr × Option Addr × Option Addr × Option Addr × Nat) 3 (bt 6 7) (fun s => [(34, (qv (s.1) (s.2.1) tr))]) (fun s w' => Bx w4.heap.size w4 w' [] [((s.1), (s.2.1), tr)]) ?_ ?_
    · rintro ⟨P20_2, Q20_2, P20_3, Q20_3, g20_4⟩ wj hF
      try dsimp only at hF ⊢
      refine nx ?_
      refine o2 3 35 4 9 (bt 6 15) (bt 6 23) ?_ ?_
      · intro K hK
        refine go_ Tryz.func62 #[.pointer (some ⟨w1.heap.size, 0, none⟩), .agg #[.bool (decide (qa.num < 0)), .slice A1 (qn qa).length (qn qa).length, .slice B1 (qd qa).length (qd qa).length], .agg #[.bool (decide (tr.num < 0)), .slice P20_2 (qn tr).length (qn tr).length, .slice Q20_2 (qd tr).length (qd tr).length]] ?_
        refine (gMul w1.heap.size _ _ _ _ 0 wj.heap.size 4210 2 qa tr wj ((HM.out.keep hF.m.b).at 1 rfl) ((HM.out.keep hF.m.b).ins 0 rfl) (hF.ins 0 rfl) (Nat.le_refl _) HZ.out.1 HZ.out.2.1 (by omega)).mono ?_
        rintro e w' ⟨P20_3, Q20_3, rfl, hf, hb⟩
        refine ⟨_, rfl, ?_⟩
        have hN := hF.call hf hb
        refine hK.out _ _ (by exact (hN.m.b.block _ (HM.out.lt 2 rfl))) (fun hHeld => ?_)
        exact nj (J1 (P20_2, Q20_2, P20_3, Q20_3, g20_4) _ hN)
      · intro K hK
        refine al_ (.cells #[.bool false, .slice none 0 0, .slice none 0 0] 26) ?_
        have hN := hF.alloc zR
        refine hK.out _ _ (by exact (hN.m.b.block _ (HM.out.lt 2 rfl))) (fun hHeld => ?_)
        exact nj (J2 (P20_2, Q20_2, P20_3, Q20_3, wj.heap.size) _ hN)
    intro J3
    refine join_ (σ := Option Addr × Option Addr × Option Addr × Option Addr × Nat) 3 (bt 6 19) (fun s => [(9, .pointer (some ⟨(s.2.2.2.2), 0, none⟩))]) (fun s w' => Bx w4.heap.size w4 w' [((s.2.2.2.2), zR)] []) ?_ ?_
    · rintro ⟨P20_2, Q20_2, P20_3, Q20_3, g20_4⟩ wj hF
      try dsimp only at hF ⊢
      refine nx ?_
      refine o1 2 34 (bt 6 23) ?_
      · intro K hK
        refine go_ Tryz.func35 #[.int .i64 3] ?_
        refine (HI3.out wj).mono ?_
        rintro e w' ⟨P20_2, Q20_2, rfl, hf, hb⟩
        refine ⟨_, rfl, ?_⟩
        have hN := hF.call hf hb
        refine hK.out _ _ (by exact (hN.m.b.block _ (HM.out.lt 2 rfl))) (fun hHeld => ?_)
        exact nj (J2 (P20_2, Q20_2, P20_3, Q20_3, g20_4) _ hN)
    intro J4
    refine join_ (σ := Option Addr × Option Addr × Option Addr × Option Addr × Nat) 4 (bt 6 3) (fun s => []) (fun s w' => Bx w4.heap.size w4 w' [] []) ?_ ?_
    · rintro ⟨P20_2, Q20_2, P20_3, Q20_3, g20_4⟩ wj hF
      try dsimp only at hF ⊢
      refine nx ?_
      refine o2 2 34 4 9 (bt 6 7) (bt 6 19) ?_ ?_
      · intro K hK
        refine go_ Tryz.func35 #[.int .i64 3] ?_
        refine (HI3.out wj).mono ?_
        rintro e w' ⟨P20_2, Q20_2, rfl, hf, hb⟩
        refine ⟨_, rfl, ?_⟩
        have hN := hF.call hf hb
        refine hK.out _ _ (by exact (hN.m.b.block _ (HM.out.lt 2 rfl))) (fun hHeld => ?_)
        exact nj (J3 (P20_2, Q20_2, P20_3, Q20_3, g20_4) _ hN)
      · intro K hK
        refine al_ (.cells #[.bool false, .slice none 0 0, .slice none 0 0] 26) ?_
        have hN := hF.alloc zR
        refine hK.out _ _ (by exact (hN.m.b.block _ (HM.out.lt 2 rfl))) (fun hHeld => ?_)
        exact nj (J4 (P20_2, Q20_2, P20_3, Q20_3, wj.heap.size) _ hN)
    intro J5
    exact nj (J5 (none, none, none, none, 0) _ ((Bx.start _).drew))
  rintro ⟨P20_2, Q20_2, P20_3, Q20_3, g20_4⟩ wj hF
  try dsimp only at hF ⊢
  refine nx ?_
  have hG := HM.out.join hF
  (try simp only [List.nil_append, List.cons_append, World.size_alloc, List.set_cons_zero, List.set_cons_succ, putsC, pB, pC, pD] at hG)
  have hHeld := And.intro True.intro (hF.m.b.block _ (HM.out.lt 2 rfl))
  clear HM hF
  refine last_ (i := 5) (N := none) (bt 6 63) rfl rfl (by kernel_rfl) (by decide) (fun K hK => ?_)
  obtain ⟨y0, y1, y2, y3, y4, y5⟩ := rw3 (hG.at 5 rfl)
  refine skip_ (w1 := puts (g20_4) [(0, .bool (decide ((qa * tr).num < 0))), (1, .slice P20_3 (qn (qa * tr)).length (qn (qa * tr)).length), (2, .slice Q20_3 (qd (qa * tr)).length (qd (qa * tr)).length)] wj) (by rfl) rfl ?_ ?_
  · go_simp
    rfl
  refine hK.out _ _ ?_
  clear hK K y0 y1 y2 y3 y4 y5
  replace hG := hG.puts 5 rfl (by decide) [(0, .bool (decide ((qa * tr).num < 0))), (1, .slice P20_3 (qn (qa * tr)).length (qn (qa * tr)).length), (2, .slice Q20_3 (qd (qa * tr)).length (qd (qa * tr)).length)]
  (try simp only [List.nil_append, List.cons_append, World.size_alloc, List.set_cons_zero, List.set_cons_succ, putsC, pB, pC, pD] at hG)
  generalize puts (g20_4) _ wj = wk21 at *
  refine done_ (by kernel_rfl) ?_
  (try simp only [List.nil_append, List.cons_append, World.size_alloc, List.set_cons_zero, List.set_cons_succ, putsC, pB, pC, pD] at hG)
  have HM := Lib.hid hG
  clear hG hHeld
  generalize hdr : qa * tr = dr at *
  obtain ⟨c0, c1⟩ := rw1 (HM.out.at 1 rfl)
  obtain ⟨d0, d1, d2, _, _, _⟩ := rw3 (HM.out.at 2 rfl)
  have HSG := Lib.hid (rSignQ A1 B1 0 wk21.heap.size qa wk21 (HM.out.ins 0 rfl) (Nat.le_refl _) hq.1)
  unfold qv at HSG
  ((try dsimp only); repeat (first | go_values | go_skip | go_guarded | go_step | go_upon))
  refine HSG.out.mono ?_
  rintro e w5 ⟨rfl, hb5⟩
  have hm := HM.out.keep hb5
  clear HM HSG hb5 c0 c1 d0 d1 d2
  have HM := Lib.hid hm
  clear hm
  ((try dsimp only); repeat (first | go_values | go_skip | go_guarded | go_step | go_upon))
  refine start_ (n := 10) (S := fun w' => w'.heap[w3.heap.size + 1]? = w5.heap[w3.heap.size + 1]? ∧ w'.heap[w3.heap.size + 1 + 1]? = w5.heap[w3.heap.size + 1 + 1]? ∧ w'.heap[g20_4]? = w5.heap[g20_4]?) (ds := [8, 9]) (bt 10 0) (by kernel_rfl) rfl rfl ((And.intro rfl (And.intro rfl rfl))) (fun hHeld => ?_)
  refine pv_ 0 73 ?_
  refine ld_ 1 74 ?_ hHeld ?_ ?_; rotate_left
  · rintro w' hs
    obtain ⟨q0, q1, q2, q3, q4, q5⟩ := rw3 ((hs.1).trans (HM.out.at 3 rfl))
    clear hs
    go_simp; with_reducible rfl
  refine ld_ 2 75 ?_ hHeld ?_ ?_; rotate_left
  · rintro w' hs
    obtain ⟨q0, q1, q2, q3, q4, q5⟩ := rw3 ((hs.2.2).trans (HM.out.at 5 rfl))
    clear hs
    go_simp; with_reducible rfl
  refine pv_ 4 77 ?_
  refine ld_ 5 78 ?_ hHeld ?_ ?_; rotate_left
  · rintro w' hs
    obtain ⟨q0, q1, q2, q3, q4, q5⟩ := rw3 ((hs.2.1).trans (HM.out.at 4 rfl))
    clear hs
    go_simp; with_reducible rfl
  refine ld_ 6 79 ?_ hHeld ?_ ?_; rotate_left
  · rintro w' hs
    obtain ⟨q0, q1, q2, q3, q4, q5⟩ := rw3 ((hs.2.2).trans (HM.out.at 5 rfl))
    clear hs
    go_simp; with_reducible rfl
  refine join_ (σ := Option Addr × Option Addr × Option Addr × Option Addr) 2 (bt 10 255) (fun s => [(76, (qv (s.1) (s.2.1) (qx / dr))), (80, (qv (s.2.2.1) (s.2.2.2) (qy / dr)))]) (fun s w' => Bx w5.heap.size w5 w' [] [((s.1), (s.2.1), (qx / dr)), ((s.2.2.1), (s.2.2.2), (qy / dr))]) ?_ ?_
  rotate_left
  · intro J0
    refine join_ (σ := Option Addr × Option Addr × Option Addr × Option Addr) 3 (bt 10 127) (fun s => [(76, (qv (s.1) (s.2.1) (qx / dr)))]) (fun s w' => Bx w5.heap.size w5 w' [] [((s.1), (s.2.1), (qx / dr))]) ?_ ?_
    · rintro ⟨P22_3, Q22_3, P22_7, Q22_7⟩ wj hF
      try dsimp only at hF ⊢
      refine nx ?_
      refine o1 7 80 (bt 10 255) ?_
      · intro K hK
        refine go_ Tryz.func65 #[.pointer (some ⟨w1.heap.size, 0, none⟩), .agg #[.bool (decide (qy.num < 0)), .slice A3 (qn qy).length (qn qy).length, .slice B3 (qd qy).length (qd qy).length], .agg #[.bool (decide (dr.num < 0)), .slice P20_3 (qn dr).length (qn dr).length, .slice Q20_3 (qd dr).length (qd dr).length]] ?_
        refine (gDiv w1.heap.size _ _ _ _ 0 wj.heap.size 6310 4212 qy dr wj ((HM.out.keep hF.m.b).at 1 rfl) ((HM.out.keep hF.m.b).ins 2 rfl) ((HM.out.keep hF.m.b).ins 4 rfl) (Nat.le_refl _) HZ.out.2.2.2.1 HZ.out.2.2.2.2.1 (by omega) HZ.out.2.2.2.2.2).mono ?_
        rintro e w' ⟨P22_7, Q22_7, rfl, hf, hb⟩
        refine ⟨_, rfl, ?_⟩
        have hN := hF.call hf hb
        refine hK.out _ _ (by exact (And.intro (hN.m.b.block _ (HM.out.lt 3 rfl)) (And.intro (hN.m.b.block _ (HM.out.lt 4 rfl)) (hN.m.b.block _ (HM.out.lt 5 rfl))))) (fun hHeld => ?_)
        exact nj (J0 (P22_3, Q22_3, P22_7, Q22_7) _ hN)
    intro J1
    refine join_ (σ := Option Addr × Option Addr × Option Addr × Option Addr) 4 (bt 10 119) (fun s => []) (fun s w' => Bx w5.heap.size w5 w' [] []) ?_ ?_
    · rintro ⟨P22_3, Q22_3, P22_7, Q22_7⟩ wj hF
      try dsimp only at hF ⊢
      refine nx ?_
      refine o1 3 76 (bt 10 127) ?_
      · intro K hK
        refine go_ Tryz.func65 #[.pointer (some ⟨w1.heap.size, 0, none⟩), .agg #[.bool (decide (qx.num < 0)), .slice A2 (qn qx).length (qn qx).length, .slice B2 (qd qx).length (qd qx).length], .agg #[.bool (decide (dr.num < 0)), .slice P20_3 (qn dr).length (qn dr).length, .slice Q20_3 (qd dr).length (qd dr).length]] ?_
        refine (gDiv w1.heap.size _ _ _ _ 0 wj.heap.size 6310 4212 qx dr wj ((HM.out.keep hF.m.b).at 1 rfl) ((HM.out.keep hF.m.b).ins 1 rfl) ((HM.out.keep hF.m.b).ins 4 rfl) (Nat.le_refl _) HZ.out.2.2.1 HZ.out.2.2.2.2.1 (by omega) HZ.out.2.2.2.2.2).mono ?_
        rintro e w' ⟨P22_3, Q22_3, rfl, hf, hb⟩
        refine ⟨_, rfl, ?_⟩
        have hN := hF.call hf hb
        refine hK.out _ _ (by exact (And.intro (hN.m.b.block _ (HM.out.lt 3 rfl)) (And.intro (hN.m.b.block _ (HM.out.lt 4 rfl)) (hN.m.b.block _ (HM.out.lt 5 rfl))))) (fun hHeld => ?_)
        exact nj (J1 (P22_3, Q22_3, P22_7, Q22_7) _ hN)
    intro J2
    exact nj (J2 (none, none, none, none) _ ((Bx.start _).drew))
  rintro ⟨P22_3, Q22_3, P22_7, Q22_7⟩ wj hF
  try dsimp only at hF ⊢
  refine nx ?_
  have hG := HM.out.join hF
  (try simp only [List.nil_append, List.cons_append, World.size_alloc, List.set_cons_zero, List.set_cons_succ, putsC, pB, pC, pD] at hG)
  have hHeld := And.intro True.intro (And.intro (hF.m.b.block _ (HM.out.lt 3 rfl)) (And.intro (hF.m.b.block _ (HM.out.lt 4 rfl)) (hF.m.b.block _ (HM.out.lt 5 rfl))))
  clear HM hF
  refine last_ (i := 8) (N := none) (bt 10 511) rfl rfl (by kernel_rfl) (by decide) (fun K hK => ?_)
  obtain ⟨y0, y1, y2, y3, y4, y5⟩ := rw3 (hG.at 3 rfl)
  refine skip_ (w1 := puts (w3.heap.size + 1) [(0, .bool (decide ((qx / dr).num < 0))), (1, .slice P22_3 (qn (qx / dr)).length (qn (qx / dr)).length), (2, .slice Q22_3 (qd (qx / dr)).length (qd (qx / dr)).length)] wj) (by rfl) rfl ?_ ?_
  · go_simp
    rfl
  refine hK.out _ _ ?_
  clear hK K y0 y1 y2 y3 y4 y5
  replace hG := hG.puts 3 rfl (by decide) [(0, .bool (decide ((qx / dr).num < 0))), (1, .slice P22_3 (qn (qx / dr)).length (qn (qx / dr)).length), (2, .slice Q22_3 (qd (qx / dr)).length (qd (qx / dr)).length)]
  (try simp only [List.nil_append, List.cons_append, World.size_alloc, List.set_cons_zero, List.set_cons_succ, putsC, pB, pC, pD] at hG)
  generalize puts (w3.heap.size + 1) _ wj = wk23 at *
  refine last_ (i := 9) (N := none) (bt 10 1023) rfl rfl (by kernel_rfl) (by decide) (fun K hK => ?_)
  obtain ⟨y0, y1, y2, y3, y4, y5⟩ := rw3 (hG.at 4 rfl)
  refine skip_ (w1 := puts (w3.heap.size + 1 + 1) [(0, .bool (decide ((qy / dr).num < 0))), (1, .slice P22_7 (qn (qy / dr)).length (qn (qy / dr)).length), (2, .slice Q22_7 (qd (qy / dr)).length (qd (qy / dr)).length)] wk23) (by rfl) rfl ?_ ?_
  · go_simp
    rfl
  refine hK.out _ _ ?_
  clear hK K y0 y1 y2 y3 y4 y5
  replace hG := hG.puts 4 rfl (by decide) [(0, .bool (decide ((qy / dr).num < 0))), (1, .slice P22_7 (qn (qy / dr)).length (qn (qy / dr)).length), (2, .slice Q22_7 (qd (qy / dr)).length (qd (qy / dr)).length)]
  (try simp only [List.nil_append, List.cons_append, World.size_alloc, List.set_cons_zero, List.set_cons_succ, putsC, pB, pC, pD] at hG)
  generalize puts (w3.heap.size + 1 + 1) _ wk23 = wk24 at *
  refine done_ (by kernel_rfl) ?_
  (try simp only [List.nil_append, List.cons_append, World.size_alloc, List.set_cons_zero, List.set_cons_succ, putsC, pB, pC, pD] at hG)
  have HM := Lib.hid hG
  clear hG hHeld
  rw [← HEX.out.1, ← HEX.out.2] at HM
  clear hsg hq
  have HN1 : Hid (∀ wz A B, Below w.heap.size w wz → RatIn 0 wz.heap.size wz A B cx → Calls Tryz.prog 66 #[.agg #[.bool (decide (cx.num < 0)), .slice A (qn cx).length (qn cx).length, .slice B (qd cx).length (qd cx).length], .int .i64 0] wz fun e w' => e = .returned (.tuple #[.int .u64 (nearR cx).1, .int .i64 (nearR cx).2]) ∧ Below wz.heap.size wz w') :=
    Lib.hid (fun wz A B hb h => vRatS cx A B 0 _ wz h (Nat.le_refl _) HF.out.2.1 (Or.inr (HF.out.1.keep hb)))
  have HN2 : Hid (∀ wz A B, Below w.heap.size w wz → RatIn 0 wz.heap.size wz A B cy → Calls Tryz.prog 66 #[.agg #[.bool (decide (cy.num < 0)), .slice A (qn cy).length (qn cy).length, .slice B (qd cy).length (qd cy).length], .int .i64 0] wz fun e w' => e = .returned (.tuple #[.int .u64 (nearR cy).1, .int .i64 (nearR cy).2]) ∧ Below wz.heap.size wz w') :=
    Lib.hid (fun wz A B hb h => vRatS cy A B 0 _ wz h (Nat.le_refl _) HF.out.2.2 (Or.inr (HF.out.1.keep hb)))
  obtain ⟨c0, c1⟩ := rw1 (HM.out.at 1 rfl)
  obtain ⟨d0, d1, d2, _, _, _⟩ := rw3 (HM.out.at 3 rfl)
  have HV := Lib.hid (HN1.out _ _ _ HM.out.m.b (HM.out.ins 5 rfl))
  ((try dsimp only); repeat (first | go_values | go_skip | go_guarded | go_step | go_upon))
  refine HV.out.mono ?_
  rintro e w7 ⟨rfl, hb7⟩
  have hm := HM.out.keep hb7
  clear HM HV hb7 c0 c1 d0 d1 d2
  have HM := Lib.hid hm
  clear hm
  obtain ⟨d0, d1, d2, _, _, _⟩ := rw3 (HM.out.at 4 rfl)
  have HV := Lib.hid (HN2.out _ _ _ HM.out.m.b (HM.out.ins 6 rfl))
  ((try dsimp only); repeat (first | go_values | go_skip | go_guarded | go_step | go_upon))
  refine HV.out.mono ?_
  rintro e w8 ⟨rfl, hb8⟩
  have hm := HM.out.keep hb8
  clear HM HV hb8 d0 d1 d2 HN1 HN2
  have HM := Lib.hid hm
  clear hm
  obtain ⟨e0, e1, f0, f1⟩ := rw2 (HM.out.at 0 rfl)
  generalize (nearR cx).1 = rx at *
  generalize (nearR cy).1 = ry at *
  generalize (nearR cx).2 = ex at *
  generalize (nearR cy).2 = ey at *
  by_cases hx0 : ex = 0
  · have xb : (ex != 0) = false := by rw [hx0]; rfl
    by_cases hy0 : ey = 0
    · have yb : (ey != 0) = false := by rw [hy0]; rfl
      have HQ2 : Hid (V = ((rx, ry), 0)) := Lib.hid (by rw [HQ.out, if_pos ⟨hx0, hy0⟩])
      clear hx0 hy0
      ((try dsimp only); repeat (first | go_values | go_skip | go_guarded | go_step | go_upon))
      have hN := HM.out.puts 0 rfl (by decide) [(0, .int .u64 rx), (1, .int .u64 ry)]
      simp only [putsC, puts, pB, pC, pD, List.set_cons_zero, List.set_cons_succ] at hN
      refine bodyPost_ret (results_row_tmp rfl _ _ w.heap.size _ _ _ _ rfl (hN.at 0 rfl) rfl rfl rfl) rfl ⟨by rw [HQ2.out]; rfl, hN.m.b⟩
    · have yb : (ey != 0) = true := bne_iff_ne.2 hy0
      have HQ2 : Hid (V = ((0, 0), 70)) := Lib.hid (by rw [HQ.out, if_neg (fun h => hy0 h.2)])
      clear hx0 hy0
      ((try dsimp only); repeat (first | go_values | go_skip | go_guarded | go_step | go_upon))
      have hN := HM.out.puts 0 rfl (by decide) [(0, .int .u64 0), (1, .int .u64 0)]
      simp only [putsC, puts, pB, pC, pD, List.set_cons_zero, List.set_cons_succ] at hN
      refine bodyPost_ret (results_row_tmp rfl _ _ w.heap.size _ _ _ _ rfl (hN.at 0 rfl) rfl rfl rfl) rfl ⟨by rw [HQ2.out]; rfl, hN.m.b⟩
  · have xb : (ex != 0) = true := bne_iff_ne.2 hx0
    have HQ2 : Hid (V = ((0, 0), 70)) := Lib.hid (by rw [HQ.out, if_neg (fun h => hx0 h.1)])
    clear hx0
    ((try dsimp only); repeat (first | go_values | go_skip | go_guarded | go_step | go_upon))
    have hN := HM.out.puts 0 rfl (by decide) [(0, .int .u64 0), (1, .int .u64 0)]
    simp only [putsC, puts, pB, pC, pD, List.set_cons_zero, List.set_cons_succ] at hN
    refine bodyPost_ret (results_row_tmp rfl _ _ w.heap.size _ _ _ _ rfl (hN.at 0 rfl) rfl rfl rfl) rfl ⟨by rw [HQ2.out]; rfl, hN.m.b⟩
set_option maxRecDepth 100000 in
set_option maxHeartbeats 6400000 in
theorem gCentreZ (A : Option Addr) (c : Nat) (ps : List Pt) (w : World) (hp : PtsIn w A ps) (hl : ps.length ≤ 1000000) (hu : ∀ q ∈ ps, PtU q) (h0 : chkE ps [] = 0) (ha : sumE crs (edgesR ps) = 0) (hst : Stays w) :
    Calls Tryz.prog 20 #[.slice A ps.length c] w fun e w' => e = .returned (.tuple #[.agg #[.int .u64 (centV ps).1.1, .int .u64 (centV ps).1.2], .int .i64 (centV ps).2]) ∧ Below w.heap.size w w' := by
  have hmm := (Bx.start w).alloc (.cells #[.int .u64 0, .int .u64 0] 38 (0, 0))
  simp only [List.nil_append] at hmm
  have HC := Lib.hid (gCheck A none c 0 ps [] _ (hp.keep hmm.m.b) (Or.inl rfl) hl (by simp) hu no_more)
  obtain ⟨k0, k1, k2, _, _⟩ := chk_ok hu no_more h0
  have hle : ∀ e ∈ edgesR ps, FinE e := edges_fin k2
  have hln : (edgesR ps).length < 1024 := by rw [show (edgesR ps).length = ps.length - 1 from edgesU_len _ _]; omega
  have z1 := area_szE hle hln
  obtain ⟨z2, z3⟩ := mox_szE hle hln
  have HP := Lib.hid hp
  have HM := Lib.hid hmm
  rw [show ([] : List Pt).length = 0 from rfl, h0] at HC
  have ex : cX ps = (fval (lowP ps).1 + fval (highP ps).1) / 2 := if_pos ha
  have ey : cY ps = (fval (lowP ps).2 + fval (highP ps).2) / 2 := if_pos ha
  obtain ⟨tw, htw⟩ : ∃ q : Rat, q = 2 := ⟨2, rfl⟩
  rw [← htw] at ex ey
  have hbx : boxE ps = 0 := by unfold boxE; rw [if_neg (by omega), if_pos ((finB_iff hu).2 k2)]
  have hlo : FinP (lowP ps) := by unfold lowP; rw [if_pos hbx]; exact corn_fin k2 k0 (Nat.le_refl _)
  have hhi : FinP (highP ps) := by unfold highP; rw [if_pos hbx]; exact corn_fin k2 k0 (Nat.le_refl _)
  have HBX := Lib.hid (fun wz (hz : Below w.heap.size w wz) => gBox A c ps wz (hp.keep hz) hl hu)
  rw [hbx] at HBX
  have HLH := Lib.hid (And.intro hlo hhi)
  have zt : Sz 2 tw := by rw [htw]; exact ⟨by decide, by decide⟩
  have htn : tw.num ≠ 0 := by rw [htw]; decide
  have HTW := Lib.hid (And.intro zt htn)
  have s1 : Sz 2151 (fval (lowP ps).1 + fval (highP ps).1) := ((fval_sz hlo.1).add (fval_sz hhi.1)).mono (by omega)
  have s2 : Sz 2151 (fval (lowP ps).2 + fval (highP ps).2) := ((fval_sz hlo.2).add (fval_sz hhi.2)).mono (by omega)
  have hs2 : (∀ {lx ly : Rat}, (fval (lowP ps).1 + fval (highP ps).1 = lx ∧ fval (lowP ps).2 + fval (highP ps).2 = ly) → Sz 2151 lx) ∧ (∀ {lx ly : Rat}, (fval (lowP ps).1 + fval (highP ps).1 = lx ∧ fval (lowP ps).2 + fval (highP ps).2 = ly) → Sz 2151 ly) := ⟨fun h => h.1 ▸ s1, fun h => h.2 ▸ s2⟩
  have HS2 := Lib.hid hs2
  have HI2 : Hid (∀ wz, Calls Tryz.prog 35 #[.int .i64 2] wz fun e w' => ∃ A B, e = .returned (qv A B tw) ∧ RatFresh wz.heap.size w' A B tw ∧ Below wz.heap.size wz w') := Lib.hid (fun wz => by
    have := rIntQ 2 wz (by omega) (by omega)
    rwa [show ((2 : Int) : Rat) = tw by rw [htw]; rfl] at this)
  have z5 : Sz 30000 (cX ps) := by rw [ex]; exact (s1.div zt htn).mono (by omega)
  have z6 : Sz 30000 (cY ps) := by rw [ey]; exact (s2.div zt htn).mono (by omega)
  have HF := Lib.hid (And.intro hst (And.intro z5 z6))
  clear hbx hlo hhi s1 s2 hs2 z5 z6 zt htn htw hst
  generalize lowP ps = lo at *
  generalize highP ps = hi at *
  have HQ : Hid (centV ps = if (nearR (cX ps)).2 = 0 ∧ (nearR (cY ps)).2 = 0 then (((nearR (cX ps)).1, (nearR (cY ps)).1), 0) else ((0, 0), 70)) := Lib.hid rfl
  generalize centV ps = V at *
  generalize cX ps = cx at *
  generalize cY ps = cy at *
  obtain ⟨tr, htr⟩ : ∃ q : Rat, q = 3 := ⟨3, rfl⟩
  have z0 : Sz 2 tr := by rw [htr]; exact ⟨by decide, by decide⟩
  have hsg : (qsgn (sumE crs (edgesR ps)) == 0) = true := by rw [ha]; rfl
  have HI3 : Hid (∀ wz, Calls Tryz.prog 35 #[.int .i64 3] wz fun e w' => ∃ A B, e = .returned (qv A B tr) ∧ RatFresh wz.heap.size w' A B tr ∧ Below wz.heap.size wz w') := Lib.hid (fun wz => rInt3 tr htr wz)
  have HAR : Hid (∀ s wz, SumOk wz s → Below w.heap.size w wz → Calls Tryz.prog 59 #[.pointer (some ⟨s, 0, none⟩), .slice A ps.length c, .bool true] wz fun e w' => ∃ A1 B1 A2 B2 A3 B3, e = .returned (.tuple #[qv A1 B1 (sumE crs (edgesR ps)), qv A2 B2 (sumE mox (edgesR ps)), qv A3 B3 (sumE moy (edgesR ps))]) ∧
      Bx wz.heap.size wz w' [] [(A1, B1, sumE crs (edgesR ps)), (A2, B2, sumE mox (edgesR ps)), (A3, B3, sumE moy (edgesR ps))]) :=
    Lib.hid (fun s wz h hb => gArea s A c ps true wz h (HP.out.keep hb) k0 k1 k2)
  have z4 : Sz 4212 (sumE crs (edgesR ps) * tr) := (z1.mul z0).mono (by omega)
  clear hp hl hu hmm h0 ha k0 k1 k2 hle hln htr
  generalize sumE crs (edgesR ps) = qa at *
  generalize sumE mox (edgesR ps) = qx at *
  generalize sumE moy (edgesR ps) = qy at *
  have HZ := Lib.hid (And.intro z1 (And.intro z0 (And.intro z2 (And.intro z3 (And.intro z4 True.intro)))))
  have hq := z1.lens (by omega)
  have HEX := Lib.hid (And.intro ex ey)
  clear z0 z1 z2 z3 z4 ex ey 
  generalize ps.length = m at *
  go_enter Tryz.func20, Tryz.ntmps20
  ((try dsimp only); repeat (first | go_values | go_skip | go_guarded | go_step | go_upon))
  generalize World.alloc w _ = v at *
  refine HC.out.mono ?_
  rintro e w1 ⟨rfl, hb1⟩
  have h2 := (HM.out.keep hb1).alloc (.cells #[.int .i64 0] 106 (0, 0))
  simp only [List.nil_append, List.cons_append] at h2
  have HA := Lib.hid (HAR.out w1.heap.size _ (h2.at 1 rfl) h2.m.b)
  have H2 := Lib.hid h2
  clear HC HM hb1 h2 HAR
  unfold qv at HA
  ((try dsimp only); repeat (first | go_values | go_skip | go_guarded | go_step | go_upon))
  generalize World.alloc w1 _ = w2 at *
  refine HA.out.mono ?_
  rintro e w3 ⟨A1, B1, A2, B2, A3, B3, rfl, hx⟩
  have h3 := (((H2.out.join hx).alloc (qo A1 B1 qa)).alloc (qo A2 B2 qx)).alloc (qo A3 B3 qy)
  simp only [List.nil_append, List.cons_append, World.size_alloc] at h3
  unfold qo at h3
  have HM := Lib.hid h3
  clear h3 hx H2 HA
  ((try dsimp only); repeat (first | go_values | go_skip | go_guarded | go_step | go_upon))
  generalize World.alloc (World.alloc (World.alloc w3 _) _) _ = w4 at *
  refine start_ (n := 6) (S := fun w' => w'.heap[w3.heap.size]? = w4.heap[w3.heap.size]?) (ds := [5]) (bt 6 0) (by kernel_rfl) rfl rfl (rfl) (fun hHeld => ?_)
  refine pv_ 0 32 ?_
  refine ld_ 1 33 ?_ hHeld ?_ ?_; rotate_left
  · rintro w' hs
    obtain ⟨q0, q1, q2, q3, q4, q5⟩ := rw3 ((hs).trans (HM.out.at 2 rfl))
    clear hs
    go_simp; with_reducible rfl
  refine join_ (σ := Option Addr × Option Addr × Option Addr × Option Addr × Nat) 1 (bt 6 31) (fun s => [(34, (qv (s.1) (s.2.1) tr)), (35, (qv (s.2.2.1) (s.2.2.2.1) (qa * tr))), (9, .pointer (some ⟨(s.2.2.2.2), 0, none⟩))]) (fun s w' => Bx w4.heap.size w4 w' [((s.2.2.2.2), zR)] [((s.1), (s.2.1), tr), ((s.2.2.1), (s.2.2.2.1), (qa * tr))]) ?_ ?_
  rotate_left
  · intro J0
    refine join_ (σ := Option Addr × Option Addr × Option Addr × Option Addr × Nat) 2 (bt 6 15) (fun s => [(34, (qv (s.1) (s.2.1) tr)), (35, (qv (s.2.2.1) (s.2.2.2.1) (qa * tr)))]) (fun s w' => Bx w4.heap.size w4 w' [] [((s.1), (s.2.1), tr), ((s.2.2.1), (s.2.2.2.1), (qa * tr))]) ?_ ?_
    · rintro ⟨P20_2, Q20_2, P20_3, Q20_3, g20_4⟩ wj hF
      try dsimp only at hF ⊢
      refine nx ?_
      refine o1 4 9 (bt 6 31) ?_
      · intro K hK
        refine al_ (.cells #[.bool false, .slice none 0 0, .slice none 0 0] 26) ?_
        have hN := hF.alloc zR
        refine hK.out _ _ (by exact (hN.m.b.block _ (HM.out.lt 2 rfl))) (fun hHeld => ?_)
        exact nj (J0 (P20_2, Q20_2, P20_3, Q20_3, wj.heap.size) _ hN)
    intro J1
    refine join_ (σ := Option Addr × Option Addr × Option Addr × Option Addr × Nat) 2 (bt 6 23) (fun s => [(34, (qv (s.1) (s.2.1) tr)), (9, .pointer (some ⟨(s.2.2.2.2), 0, none⟩))]) (fun s w' => Bx w4.heap.size w4 w' [((s.2.2.2.2), zR)] [((s.1), (s.2.1), tr)]) ?_ ?_
    · rintro ⟨P20_2, Q20_2, P20_3, Q20_3, g20_4⟩ wj hF
      try dsimp only at hF ⊢
      refine nx ?_
      refine o1 3 35 (bt 6 31) ?_
      · intro K hK
        refine go_ Tryz.func62 #[.pointer (some ⟨w1.heap.size, 0, none⟩), .agg #[.bool (decide (qa.num < 0)), .slice A1 (qn qa).length (qn qa).length, .slice B1 (qd qa).length (qd qa).length], .agg #[.bool (decide (tr.num < 0)), .slice P20_2 (qn tr).length (qn tr).length, .slice Q20_2 (qd tr).length (qd tr).length]] ?_
        refine (gMul w1.heap.size _ _ _ _ 0 wj.heap.size 4210 2 qa tr wj ((HM.out.keep hF.m.b).at 1 rfl) ((HM.out.keep hF.m.b).ins 0 rfl) (hF.ins 0 rfl) (Nat.le_refl _) HZ.out.1 HZ.out.2.1 (by omega)).mono ?_
        rintro e w' ⟨P20_3, Q20_3, rfl, hf, hb⟩
        refine ⟨_, rfl, ?_⟩
        have hN := hF.call hf hb
        refine hK.out _ _ (by exact (hN.m.b.block _ (HM.out.lt 2 rfl))) (fun hHeld => ?_)
        exact nj (J0 (P20_2, Q20_2, P20_3, Q20_3, g20_4) _ hN)
    intro J2
    refine join_ (σ := Option Addr × Option Addr × Option Addr × Option Addr × Nat) 3 (bt 6 7) (fun s => [(34, (qv (s.1) (s.2.1) tr))]) (fun s w' => Bx w4.heap.size w4 w' [] [((s.1), (s.2.1), tr)]) ?_ ?_
    · rintro ⟨P20_2, Q20_2, P20_3, Q20_3, g20_4⟩ wj hF
      try dsimp only at hF ⊢
      refine nx ?_
      refine o2 3 35 4 9 (bt 6 15) (bt 6 23) ?_ ?_
      · intro K hK
        refine go_ Tryz.func62 #[.pointer (some ⟨w1.heap.size, 0, none⟩), .agg #[.bool (decide (qa.num < 0)), .slice A1 (qn qa).length (qn qa).length, .slice B1 (qd qa).length (qd qa).length], .agg #[.bool (decide (tr.num < 0)), .slice P20_2 (qn tr).length (qn tr).length, .slice Q20_2 (qd tr).length (qd tr).length]] ?_
        refine (gMul w1.heap.size _ _ _ _ 0 wj.heap.size 4210 2 qa tr wj ((HM.out.keep hF.m.b).at 1 rfl) ((HM.out.keep hF.m.b).ins 0 rfl) (hF.ins 0 rfl) (Nat.le_refl _) HZ.out.1 HZ.out.2.1 (by omega)).mono ?_
        rintro e w' ⟨P20_3, Q20_3, rfl, hf, hb⟩
        refine ⟨_, rfl, ?_⟩
        have hN := hF.call hf hb
        refine hK.out _ _ (by exact (hN.m.b.block _ (HM.out.lt 2 rfl))) (fun hHeld => ?_)
        exact nj (J1 (P20_2, Q20_2, P20_3, Q20_3, g20_4) _ hN)
      · intro K hK
        refine al_ (.cells #[.bool false, .slice none 0 0, .slice none 0 0] 26) ?_
        have hN := hF.alloc zR
        refine hK.out _ _ (by exact (hN.m.b.block _ (HM.out.lt 2 rfl))) (fun hHeld => ?_)
        exact nj (J2 (P20_2, Q20_2, P20_3, Q20_3, wj.heap.size) _ hN)
    intro J3
    refine join_ (σ := Option Addr × Option Addr × Option Addr × Option Addr × Nat) 3 (bt 6 19) (fun s => [(9, .pointer (some ⟨(s.2.2.2.2), 0, none⟩))]) (fun s w' => Bx w4.heap.size w4 w' [((s.2.2.2.2), zR)] []) ?_ ?_
    · rintro ⟨P20_2, Q20_2, P20_3, Q20_3, g20_4⟩ wj hF
      try dsimp only at hF ⊢
      refine nx ?_
      refine o1 2 34 (bt 6 23) ?_
      · intro K hK
        refine go_ Tryz.func35 #[.int .i64 3] ?_
        refine (HI3.out wj).mono ?_
        rintro e w' ⟨P20_2, Q20_2, rfl, hf, hb⟩
        refine ⟨_, rfl, ?_⟩
        have hN := hF.call hf hb
        refine hK.out _ _ (by exact (hN.m.b.block _ (HM.out.lt 2 rfl))) (fun hHeld => ?_)
        exact nj (J2 (P20_2, Q20_2, P20_3, Q20_3, g20_4) _ hN)
    intro J4
    refine join_ (σ := Option Addr × Option Addr × Option Addr × Option Addr × Nat) 4 (bt 6 3) (fun s => []) (fun s w' => Bx w4.heap.size w4 w' [] []) ?_ ?_
    · rintro ⟨P20_2, Q20_2, P20_3, Q20_3, g20_4⟩ wj hF
      try dsimp only at hF ⊢
      refine nx ?_
      refine o2 2 34 4 9 (bt 6 7) (bt 6 19) ?_ ?_
      · intro K hK
        refine go_ Tryz.func35 #[.int .i64 3] ?_
        refine (HI3.out wj).mono ?_
        rintro e w' ⟨P20_2, Q20_2, rfl, hf, hb⟩
        refine ⟨_, rfl, ?_⟩
        have hN := hF.call hf hb
        refine hK.out _ _ (by exact (hN.m.b.block _ (HM.out.lt 2 rfl))) (fun hHeld => ?_)
        exact nj (J3 (P20_2, Q20_2, P20_3, Q20_3, g20_4) _ hN)
      · intro K hK
        refine al_ (.cells #[.bool false, .slice none 0 0, .slice none 0 0] 26) ?_
        have hN := hF.alloc zR
        refine hK.out _ _ (by exact (hN.m.b.block _ (HM.out.lt 2 rfl))) (fun hHeld => ?_)
        exact nj (J4 (P20_2, Q20_2, P20_3, Q20_3, wj.heap.size) _ hN)
    intro J5
    exact nj (J5 (none, none, none, none, 0) _ ((Bx.start _).drew))
  rintro ⟨P20_2, Q20_2, P20_3, Q20_3, g20_4⟩ wj hF
  try dsimp only at hF ⊢
  refine nx ?_
  have hG := HM.out.join hF
  (try simp only [List.nil_append, List.cons_append, World.size_alloc, List.set_cons_zero, List.set_cons_succ, putsC, pB, pC, pD] at hG)
  have hHeld := And.intro True.intro (hF.m.b.block _ (HM.out.lt 2 rfl))
  clear HM hF
  refine last_ (i := 5) (N := none) (bt 6 63) rfl rfl (by kernel_rfl) (by decide) (fun K hK => ?_)
  obtain ⟨y0, y1, y2, y3, y4, y5⟩ := rw3 (hG.at 5 rfl)
  refine skip_ (w1 := puts (g20_4) [(0, .bool (decide ((qa * tr).num < 0))), (1, .slice P20_3 (qn (qa * tr)).length (qn (qa * tr)).length), (2, .slice Q20_3 (qd (qa * tr)).length (qd (qa * tr)).length)] wj) (by rfl) rfl ?_ ?_
  · go_simp
    rfl
  refine hK.out _ _ ?_
  clear hK K y0 y1 y2 y3 y4 y5
  replace hG := hG.puts 5 rfl (by decide) [(0, .bool (decide ((qa * tr).num < 0))), (1, .slice P20_3 (qn (qa * tr)).length (qn (qa * tr)).length), (2, .slice Q20_3 (qd (qa * tr)).length (qd (qa * tr)).length)]
  (try simp only [List.nil_append, List.cons_append, World.size_alloc, List.set_cons_zero, List.set_cons_succ, putsC, pB, pC, pD] at hG)
  generalize puts (g20_4) _ wj = wk21 at *
  refine done_ (by kernel_rfl) ?_
  (try simp only [List.nil_append, List.cons_append, World.size_alloc, List.set_cons_zero, List.set_cons_succ, putsC, pB, pC, pD] at hG)
  have HM := Lib.hid hG
  clear hG hHeld
  generalize hdr : qa * tr = dr at *
  obtain ⟨c0, c1⟩ := rw1 (HM.out.at 1 rfl)
  obtain ⟨d0, d1, d2, _, _, _⟩ := rw3 (HM.out.at 2 rfl)
  have HSG := Lib.hid (rSignQ A1 B1 0 wk21.heap.size qa wk21 (HM.out.ins 0 rfl) (Nat.le_refl _) hq.1)
  unfold qv at HSG
  ((try dsimp only); repeat (first | go_values | go_skip | go_guarded | go_step | go_upon))
  refine HSG.out.mono ?_
  rintro e w5 ⟨rfl, hb5⟩
  have hm := HM.out.keep hb5
  clear HM HSG hb5 c0 c1 d0 d1 d2
  have HM := Lib.hid hm
  clear hm
  ((try dsimp only); repeat (first | go_values | go_skip | go_guarded | go_step | go_upon))
  have HK := Lib.hid (HBX.out w5 HM.out.m.b)
  ((try dsimp only); repeat (first | go_values | go_skip | go_guarded | go_step | go_upon))
  refine HK.out.mono ?_
  rintro e w22 ⟨rfl, hb⟩
  have hm : Bx w.heap.size w (World.alloc (World.alloc w22 (.cells #[.int .u64 lo.1, .int .u64 lo.2] 38)) (.cells #[.int .u64 hi.1, .int .u64 hi.2] 38)) _ _ := (((HM.out.keep hb).alloc (.cells #[.int .u64 lo.1, .int .u64 lo.2] 38 (0, 0))).alloc (.cells #[.int .u64 hi.1, .int .u64 hi.2] 38 (0, 0)))
  clear HK HM hb 
  go_upto_region 9 with (fail)
  generalize (World.alloc (World.alloc w22 _) _) = v23 at *
  (try simp only [List.nil_append, List.cons_append, World.size_alloc, List.set_cons_zero, List.set_cons_succ, putsC, pB, pC, pD] at hm)
  have HM := Lib.hid hm
  clear hm
  refine start_ (n := 24) (S := fun w' => w'.heap[w22.heap.size]? = v23.heap[w22.heap.size]? ∧ w'.heap[w22.heap.size + 1]? = v23.heap[w22.heap.size + 1]?) (ds := [21, 22, 23]) (bt 24 0) (by kernel_rfl) rfl rfl ((And.intro rfl rfl)) (fun hHeld => ?_)
  refine pv_ 0 52 ?_
  refine pv_ 1 53 ?_
  refine pv_ 2 54 ?_
  refine ld_ 3 55 ?_ hHeld ?_ ?_; rotate_left
  · rintro w' hs
    obtain ⟨q0, q1, q2, q3⟩ := rw2 ((hs.1).trans (HM.out.at 6 rfl))
    clear hs
    go_simp; with_reducible rfl
  refine pv_ 5 57 ?_
  refine pv_ 6 58 ?_
  refine ld_ 7 59 ?_ hHeld ?_ ?_; rotate_left
  · rintro w' hs
    obtain ⟨q0, q1, q2, q3⟩ := rw2 ((hs.2).trans (HM.out.at 7 rfl))
    clear hs
    go_simp; with_reducible rfl
  refine pv_ 10 62 ?_
  refine pv_ 11 63 ?_
  refine pv_ 12 64 ?_
  refine ld_ 13 65 ?_ hHeld ?_ ?_; rotate_left
  · rintro w' hs
    obtain ⟨q0, q1, q2, q3⟩ := rw2 ((hs.1).trans (HM.out.at 6 rfl))
    clear hs
    go_simp; with_reducible rfl
  refine pv_ 15 67 ?_
  refine pv_ 16 68 ?_
  refine ld_ 17 69 ?_ hHeld ?_ ?_; rotate_left
  · rintro w' hs
    obtain ⟨q0, q1, q2, q3⟩ := rw2 ((hs.2).trans (HM.out.at 7 rfl))
    clear hs
    go_simp; with_reducible rfl
  refine join_ (σ := Option Addr × Option Addr × Option Addr × Option Addr × Option Addr × Option Addr × Option Addr × Option Addr × Option Addr × Option Addr × Option Addr × Option Addr × Option Addr × Option Addr) 3 (bt 24 2097151) (fun s => [(56, (qv (s.1) (s.2.1) (fval lo.1))), (60, (qv (s.2.2.1) (s.2.2.2.1) (fval hi.1))), (61, (qv (s.2.2.2.2.1) (s.2.2.2.2.2.1) (fval lo.1 + fval hi.1))), (66, (qv (s.2.2.2.2.2.2.1) (s.2.2.2.2.2.2.2.1) (fval lo.2))), (70, (qv (s.2.2.2.2.2.2.2.2.1) (s.2.2.2.2.2.2.2.2.2.1) (fval hi.2))), (71, (qv (s.2.2.2.2.2.2.2.2.2.2.1) (s.2.2.2.2.2.2.2.2.2.2.2.1) (fval lo.2 + fval hi.2))), (72, (qv (s.2.2.2.2.2.2.2.2.2.2.2.2.1) (s.2.2.2.2.2.2.2.2.2.2.2.2.2) tw))]) (fun s w' => Bx v23.heap.size v23 w' [] [((s.1), (s.2.1), (fval lo.1)), ((s.2.2.1), (s.2.2.2.1), (fval hi.1)), ((s.2.2.2.2.1), (s.2.2.2.2.2.1), (fval lo.1 + fval hi.1)), ((s.2.2.2.2.2.2.1), (s.2.2.2.2.2.2.2.1), (fval lo.2)), ((s.2.2.2.2.2.2.2.2.1), (s.2.2.2.2.2.2.2.2.2.1), (fval hi.2)), ((s.2.2.2.2.2.2.2.2.2.2.1), (s.2.2.2.2.2.2.2.2.2.2.2.1), (fval lo.2 + fval hi.2)), ((s.2.2.2.2.2.2.2.2.2.2.2.2.1), (s.2.2.2.2.2.2.2.2.2.2.2.2.2), tw)]) ?_ ?_
  rotate_left
  · intro J0
    refine join_ (σ := Option Addr × Option Addr × Option Addr × Option Addr × Option Addr × Option Addr × Option Addr × Option Addr × Option Addr × Option Addr × Option Addr × Option Addr × Option Addr × Option Addr) 4 (bt 24 1048575) (fun s => [(56, (qv (s.1) (s.2.1) (fval lo.1))), (60, (qv (s.2.2.1) (s.2.2.2.1) (fval hi.1))), (61, (qv (s.2.2.2.2.1) (s.2.2.2.2.2.1) (fval lo.1 + fval hi.1))), (66, (qv (s.2.2.2.2.2.2.1) (s.2.2.2.2.2.2.2.1) (fval lo.2))), (70, (qv (s.2.2.2.2.2.2.2.2.1) (s.2.2.2.2.2.2.2.2.2.1) (fval hi.2))), (71, (qv (s.2.2.2.2.2.2.2.2.2.2.1) (s.2.2.2.2.2.2.2.2.2.2.2.1) (fval lo.2 + fval hi.2)))]) (fun s w' => Bx v23.heap.size v23 w' [] [((s.1), (s.2.1), (fval lo.1)), ((s.2.2.1), (s.2.2.2.1), (fval hi.1)), ((s.2.2.2.2.1), (s.2.2.2.2.2.1), (fval lo.1 + fval hi.1)), ((s.2.2.2.2.2.2.1), (s.2.2.2.2.2.2.2.1), (fval lo.2)), ((s.2.2.2.2.2.2.2.2.1), (s.2.2.2.2.2.2.2.2.2.1), (fval hi.2)), ((s.2.2.2.2.2.2.2.2.2.2.1), (s.2.2.2.2.2.2.2.2.2.2.2.1), (fval lo.2 + fval hi.2))]) ?_ ?_
    · rintro ⟨P24_4, Q24_4, P24_8, Q24_8, P24_9, Q24_9, P24_14, Q24_14, P24_18, Q24_18, P24_19, Q24_19, P24_20, Q24_20⟩ wj hF
      try dsimp only at hF ⊢
      refine nx ?_
      refine o1 20 72 (bt 24 2097151) ?_
      · intro K hK
        refine go_ Tryz.func35 #[.int .i64 2] ?_
        refine (HI2.out wj).mono ?_
        rintro e w' ⟨P24_20, Q24_20, rfl, hf, hb⟩
        refine ⟨_, rfl, ?_⟩
        have hN := hF.call hf hb
        refine hK.out _ _ (by exact (And.intro (hN.m.b.block _ (HM.out.lt 6 rfl)) (hN.m.b.block _ (HM.out.lt 7 rfl)))) (fun hHeld => ?_)
        exact nj (J0 (P24_4, Q24_4, P24_8, Q24_8, P24_9, Q24_9, P24_14, Q24_14, P24_18, Q24_18, P24_19, Q24_19, P24_20, Q24_20) _ hN)
    intro J1
    refine join_ (σ := Option Addr × Option Addr × Option Addr × Option Addr × Option Addr × Option Addr × Option Addr × Option Addr × Option Addr × Option Addr × Option Addr × Option Addr × Option Addr × Option Addr) 5 (bt 24 524287) (fun s => [(56, (qv (s.1) (s.2.1) (fval lo.1))), (60, (qv (s.2.2.1) (s.2.2.2.1) (fval hi.1))), (61, (qv (s.2.2.2.2.1) (s.2.2.2.2.2.1) (fval lo.1 + fval hi.1))), (66, (qv (s.2.2.2.2.2.2.1) (s.2.2.2.2.2.2.2.1) (fval lo.2))), (70, (qv (s.2.2.2.2.2.2.2.2.1) (s.2.2.2.2.2.2.2.2.2.1) (fval hi.2)))]) (fun s w' => Bx v23.heap.size v23 w' [] [((s.1), (s.2.1), (fval lo.1)), ((s.2.2.1), (s.2.2.2.1), (fval hi.1)), ((s.2.2.2.2.1), (s.2.2.2.2.2.1), (fval lo.1 + fval hi.1)), ((s.2.2.2.2.2.2.1), (s.2.2.2.2.2.2.2.1), (fval lo.2)), ((s.2.2.2.2.2.2.2.2.1), (s.2.2.2.2.2.2.2.2.2.1), (fval hi.2))]) ?_ ?_
    · rintro ⟨P24_4, Q24_4, P24_8, Q24_8, P24_9, Q24_9, P24_14, Q24_14, P24_18, Q24_18, P24_19, Q24_19, P24_20, Q24_20⟩ wj hF
      try dsimp only at hF ⊢
      refine nx ?_
      refine o1 19 71 (bt 24 1048575) ?_
      · intro K hK
        refine go_ Tryz.func63 #[.pointer (some ⟨w1.heap.size, 0, none⟩), .agg #[.bool (decide ((fval lo.2).num < 0)), .slice P24_14 (qn (fval lo.2)).length (qn (fval lo.2)).length, .slice Q24_14 (qd (fval lo.2)).length (qd (fval lo.2)).length], .agg #[.bool (decide ((fval hi.2).num < 0)), .slice P24_18 (qn (fval hi.2)).length (qn (fval hi.2)).length, .slice Q24_18 (qd (fval hi.2)).length (qd (fval hi.2)).length]] ?_
        refine (gAdd w1.heap.size _ _ _ _ 0 wj.heap.size 1075 1075 (fval lo.2) (fval hi.2) wj ((HM.out.keep hF.m.b).at 1 rfl) (hF.ins 3 rfl) (hF.ins 4 rfl) (Nat.le_refl _) (fval_sz HLH.out.1.2) (fval_sz HLH.out.2.2) (by omega)).mono ?_
        rintro e w' ⟨P24_19, Q24_19, rfl, hf, hb⟩
        refine ⟨_, rfl, ?_⟩
        have hN := hF.call hf hb
        refine hK.out _ _ (by exact (And.intro (hN.m.b.block _ (HM.out.lt 6 rfl)) (hN.m.b.block _ (HM.out.lt 7 rfl)))) (fun hHeld => ?_)
        exact nj (J1 (P24_4, Q24_4, P24_8, Q24_8, P24_9, Q24_9, P24_14, Q24_14, P24_18, Q24_18, P24_19, Q24_19, P24_20, Q24_20) _ hN)
    intro J2
    refine join_ (σ := Option Addr × Option Addr × Option Addr × Option Addr × Option Addr × Option Addr × Option Addr × Option Addr × Option Addr × Option Addr × Option Addr × Option Addr × Option Addr × Option Addr) 6 (bt 24 262143) (fun s => [(56, (qv (s.1) (s.2.1) (fval lo.1))), (60, (qv (s.2.2.1) (s.2.2.2.1) (fval hi.1))), (61, (qv (s.2.2.2.2.1) (s.2.2.2.2.2.1) (fval lo.1 + fval hi.1))), (66, (qv (s.2.2.2.2.2.2.1) (s.2.2.2.2.2.2.2.1) (fval lo.2)))]) (fun s w' => Bx v23.heap.size v23 w' [] [((s.1), (s.2.1), (fval lo.1)), ((s.2.2.1), (s.2.2.2.1), (fval hi.1)), ((s.2.2.2.2.1), (s.2.2.2.2.2.1), (fval lo.1 + fval hi.1)), ((s.2.2.2.2.2.2.1), (s.2.2.2.2.2.2.2.1), (fval lo.2))]) ?_ ?_
    · rintro ⟨P24_4, Q24_4, P24_8, Q24_8, P24_9, Q24_9, P24_14, Q24_14, P24_18, Q24_18, P24_19, Q24_19, P24_20, Q24_20⟩ wj hF
      try dsimp only at hF ⊢
      refine nx ?_
      refine o1 18 70 (bt 24 524287) ?_
      · intro K hK
        refine go_ Tryz.func64 #[.pointer (some ⟨w1.heap.size, 0, none⟩), .int .u64 hi.2] ?_
        refine (gNum w1.heap.size hi.2 wj ((HM.out.keep hF.m.b).at 1 rfl) HLH.out.2.2).mono ?_
        rintro e w' ⟨P24_18, Q24_18, rfl, hf, hb⟩
        refine ⟨_, rfl, ?_⟩
        have hN := hF.call hf hb
        refine hK.out _ _ (by exact (And.intro (hN.m.b.block _ (HM.out.lt 6 rfl)) (hN.m.b.block _ (HM.out.lt 7 rfl)))) (fun hHeld => ?_)
        exact nj (J2 (P24_4, Q24_4, P24_8, Q24_8, P24_9, Q24_9, P24_14, Q24_14, P24_18, Q24_18, P24_19, Q24_19, P24_20, Q24_20) _ hN)
    intro J3
    refine join_ (σ := Option Addr × Option Addr × Option Addr × Option Addr × Option Addr × Option Addr × Option Addr × Option Addr × Option Addr × Option Addr × Option Addr × Option Addr × Option Addr × Option Addr) 7 (bt 24 245759) (fun s => [(56, (qv (s.1) (s.2.1) (fval lo.1))), (60, (qv (s.2.2.1) (s.2.2.2.1) (fval hi.1))), (61, (qv (s.2.2.2.2.1) (s.2.2.2.2.2.1) (fval lo.1 + fval hi.1)))]) (fun s w' => Bx v23.heap.size v23 w' [] [((s.1), (s.2.1), (fval lo.1)), ((s.2.2.1), (s.2.2.2.1), (fval hi.1)), ((s.2.2.2.2.1), (s.2.2.2.2.2.1), (fval lo.1 + fval hi.1))]) ?_ ?_
    · rintro ⟨P24_4, Q24_4, P24_8, Q24_8, P24_9, Q24_9, P24_14, Q24_14, P24_18, Q24_18, P24_19, Q24_19, P24_20, Q24_20⟩ wj hF
      try dsimp only at hF ⊢
      refine nx ?_
      refine o1 14 66 (bt 24 262143) ?_
      · intro K hK
        refine go_ Tryz.func64 #[.pointer (some ⟨w1.heap.size, 0, none⟩), .int .u64 lo.2] ?_
        refine (gNum w1.heap.size lo.2 wj ((HM.out.keep hF.m.b).at 1 rfl) HLH.out.1.2).mono ?_
        rintro e w' ⟨P24_14, Q24_14, rfl, hf, hb⟩
        refine ⟨_, rfl, ?_⟩
        have hN := hF.call hf hb
        refine hK.out _ _ (by exact (And.intro (hN.m.b.block _ (HM.out.lt 6 rfl)) (hN.m.b.block _ (HM.out.lt 7 rfl)))) (fun hHeld => ?_)
        exact nj (J3 (P24_4, Q24_4, P24_8, Q24_8, P24_9, Q24_9, P24_14, Q24_14, P24_18, Q24_18, P24_19, Q24_19, P24_20, Q24_20) _ hN)
    intro J4
    refine join_ (σ := Option Addr × Option Addr × Option Addr × Option Addr × Option Addr × Option Addr × Option Addr × Option Addr × Option Addr × Option Addr × Option Addr × Option Addr × Option Addr × Option Addr) 8 (bt 24 245247) (fun s => [(56, (qv (s.1) (s.2.1) (fval lo.1))), (60, (qv (s.2.2.1) (s.2.2.2.1) (fval hi.1)))]) (fun s w' => Bx v23.heap.size v23 w' [] [((s.1), (s.2.1), (fval lo.1)), ((s.2.2.1), (s.2.2.2.1), (fval hi.1))]) ?_ ?_
    · rintro ⟨P24_4, Q24_4, P24_8, Q24_8, P24_9, Q24_9, P24_14, Q24_14, P24_18, Q24_18, P24_19, Q24_19, P24_20, Q24_20⟩ wj hF
      try dsimp only at hF ⊢
      refine nx ?_
      refine o1 9 61 (bt 24 245759) ?_
      · intro K hK
        refine go_ Tryz.func63 #[.pointer (some ⟨w1.heap.size, 0, none⟩), .agg #[.bool (decide ((fval lo.1).num < 0)), .slice P24_4 (qn (fval lo.1)).length (qn (fval lo.1)).length, .slice Q24_4 (qd (fval lo.1)).length (qd (fval lo.1)).length], .agg #[.bool (decide ((fval hi.1).num < 0)), .slice P24_8 (qn (fval hi.1)).length (qn (fval hi.1)).length, .slice Q24_8 (qd (fval hi.1)).length (qd (fval hi.1)).length]] ?_
        refine (gAdd w1.heap.size _ _ _ _ 0 wj.heap.size 1075 1075 (fval lo.1) (fval hi.1) wj ((HM.out.keep hF.m.b).at 1 rfl) (hF.ins 0 rfl) (hF.ins 1 rfl) (Nat.le_refl _) (fval_sz HLH.out.1.1) (fval_sz HLH.out.2.1) (by omega)).mono ?_
        rintro e w' ⟨P24_9, Q24_9, rfl, hf, hb⟩
        refine ⟨_, rfl, ?_⟩
        have hN := hF.call hf hb
        refine hK.out _ _ (by exact (And.intro (hN.m.b.block _ (HM.out.lt 6 rfl)) (hN.m.b.block _ (HM.out.lt 7 rfl)))) (fun hHeld => ?_)
        exact nj (J4 (P24_4, Q24_4, P24_8, Q24_8, P24_9, Q24_9, P24_14, Q24_14, P24_18, Q24_18, P24_19, Q24_19, P24_20, Q24_20) _ hN)
    intro J5
    refine join_ (σ := Option Addr × Option Addr × Option Addr × Option Addr × Option Addr × Option Addr × Option Addr × Option Addr × Option Addr × Option Addr × Option Addr × Option Addr × Option Addr × Option Addr) 9 (bt 24 244991) (fun s => [(56, (qv (s.1) (s.2.1) (fval lo.1)))]) (fun s w' => Bx v23.heap.size v23 w' [] [((s.1), (s.2.1), (fval lo.1))]) ?_ ?_
    · rintro ⟨P24_4, Q24_4, P24_8, Q24_8, P24_9, Q24_9, P24_14, Q24_14, P24_18, Q24_18, P24_19, Q24_19, P24_20, Q24_20⟩ wj hF
      try dsimp only at hF ⊢
      refine nx ?_
      refine o1 8 60 (bt 24 245247) ?_
      · intro K hK
        refine go_ Tryz.func64 #[.pointer (some ⟨w1.heap.size, 0, none⟩), .int .u64 hi.1] ?_
        refine (gNum w1.heap.size hi.1 wj ((HM.out.keep hF.m.b).at 1 rfl) HLH.out.2.1).mono ?_
        rintro e w' ⟨P24_8, Q24_8, rfl, hf, hb⟩
        refine ⟨_, rfl, ?_⟩
        have hN := hF.call hf hb
        refine hK.out _ _ (by exact (And.intro (hN.m.b.block _ (HM.out.lt 6 rfl)) (hN.m.b.block _ (HM.out.lt 7 rfl)))) (fun hHeld => ?_)
        exact nj (J5 (P24_4, Q24_4, P24_8, Q24_8, P24_9, Q24_9, P24_14, Q24_14, P24_18, Q24_18, P24_19, Q24_19, P24_20, Q24_20) _ hN)
    intro J6
    refine join_ (σ := Option Addr × Option Addr × Option Addr × Option Addr × Option Addr × Option Addr × Option Addr × Option Addr × Option Addr × Option Addr × Option Addr × Option Addr × Option Addr × Option Addr) 10 (bt 24 244975) (fun s => []) (fun s w' => Bx v23.heap.size v23 w' [] []) ?_ ?_
    · rintro ⟨P24_4, Q24_4, P24_8, Q24_8, P24_9, Q24_9, P24_14, Q24_14, P24_18, Q24_18, P24_19, Q24_19, P24_20, Q24_20⟩ wj hF
      try dsimp only at hF ⊢
      refine nx ?_
      refine o1 4 56 (bt 24 244991) ?_
      · intro K hK
        refine go_ Tryz.func64 #[.pointer (some ⟨w1.heap.size, 0, none⟩), .int .u64 lo.1] ?_
        refine (gNum w1.heap.size lo.1 wj ((HM.out.keep hF.m.b).at 1 rfl) HLH.out.1.1).mono ?_
        rintro e w' ⟨P24_4, Q24_4, rfl, hf, hb⟩
        refine ⟨_, rfl, ?_⟩
        have hN := hF.call hf hb
        refine hK.out _ _ (by exact (And.intro (hN.m.b.block _ (HM.out.lt 6 rfl)) (hN.m.b.block _ (HM.out.lt 7 rfl)))) (fun hHeld => ?_)
        exact nj (J6 (P24_4, Q24_4, P24_8, Q24_8, P24_9, Q24_9, P24_14, Q24_14, P24_18, Q24_18, P24_19, Q24_19, P24_20, Q24_20) _ hN)
    intro J7
    exact nj (J7 (none, none, none, none, none, none, none, none, none, none, none, none, none, none) _ ((Bx.start _).drew))
  rintro ⟨P24_4, Q24_4, P24_8, Q24_8, P24_9, Q24_9, P24_14, Q24_14, P24_18, Q24_18, P24_19, Q24_19, P24_20, Q24_20⟩ wj hF
  try dsimp only at hF ⊢
  refine nx ?_
  have hG := HM.out.join hF
  (try simp only [List.nil_append, List.cons_append, World.size_alloc, List.set_cons_zero, List.set_cons_succ, putsC, pB, pC, pD] at hG)
  have hHeld := And.intro True.intro (And.intro (hF.m.b.block _ (HM.out.lt 6 rfl)) (hF.m.b.block _ (HM.out.lt 7 rfl)))
  clear HM hF
  refine last_ (i := 21) (N := none) (bt 24 4194303) rfl rfl (by kernel_rfl) (by decide) (fun K hK => ?_)
  obtain ⟨y0, y1, y2, y3, y4, y5⟩ := rw3 (hG.at 3 rfl)
  refine skip_ (w1 := puts (w3.heap.size + 1) [(0, .bool (decide ((fval lo.1 + fval hi.1).num < 0))), (1, .slice P24_9 (qn (fval lo.1 + fval hi.1)).length (qn (fval lo.1 + fval hi.1)).length), (2, .slice Q24_9 (qd (fval lo.1 + fval hi.1)).length (qd (fval lo.1 + fval hi.1)).length)] wj) (by rfl) rfl ?_ ?_
  · go_simp
    rfl
  refine hK.out _ _ ?_
  clear hK K y0 y1 y2 y3 y4 y5
  replace hG := hG.puts 3 rfl (by decide) [(0, .bool (decide ((fval lo.1 + fval hi.1).num < 0))), (1, .slice P24_9 (qn (fval lo.1 + fval hi.1)).length (qn (fval lo.1 + fval hi.1)).length), (2, .slice Q24_9 (qd (fval lo.1 + fval hi.1)).length (qd (fval lo.1 + fval hi.1)).length)]
  (try simp only [List.nil_append, List.cons_append, World.size_alloc, List.set_cons_zero, List.set_cons_succ, putsC, pB, pC, pD] at hG)
  generalize puts (w3.heap.size + 1) _ wj = wk25 at *
  refine last_ (i := 22) (N := none) (bt 24 8388607) rfl rfl (by kernel_rfl) (by decide) (fun K hK => ?_)
  obtain ⟨y0, y1, y2, y3, y4, y5⟩ := rw3 (hG.at 4 rfl)
  refine skip_ (w1 := puts (w3.heap.size + 1 + 1) [(0, .bool (decide ((fval lo.2 + fval hi.2).num < 0))), (1, .slice P24_19 (qn (fval lo.2 + fval hi.2)).length (qn (fval lo.2 + fval hi.2)).length), (2, .slice Q24_19 (qd (fval lo.2 + fval hi.2)).length (qd (fval lo.2 + fval hi.2)).length)] wk25) (by rfl) rfl ?_ ?_
  · go_simp
    rfl
  refine hK.out _ _ ?_
  clear hK K y0 y1 y2 y3 y4 y5
  replace hG := hG.puts 4 rfl (by decide) [(0, .bool (decide ((fval lo.2 + fval hi.2).num < 0))), (1, .slice P24_19 (qn (fval lo.2 + fval hi.2)).length (qn (fval lo.2 + fval hi.2)).length), (2, .slice Q24_19 (qd (fval lo.2 + fval hi.2)).length (qd (fval lo.2 + fval hi.2)).length)]
  (try simp only [List.nil_append, List.cons_append, World.size_alloc, List.set_cons_zero, List.set_cons_succ, putsC, pB, pC, pD] at hG)
  generalize puts (w3.heap.size + 1 + 1) _ wk25 = wk26 at *
  refine last_ (i := 23) (N := none) (bt 24 16777215) rfl rfl (by kernel_rfl) (by decide) (fun K hK => ?_)
  obtain ⟨y0, y1, y2, y3, y4, y5⟩ := rw3 (hG.at 5 rfl)
  refine skip_ (w1 := puts (g20_4) [(0, .bool (decide (tw.num < 0))), (1, .slice P24_20 (qn tw).length (qn tw).length), (2, .slice Q24_20 (qd tw).length (qd tw).length)] wk26) (by rfl) rfl ?_ ?_
  · go_simp
    rfl
  refine hK.out _ _ ?_
  clear hK K y0 y1 y2 y3 y4 y5
  replace hG := hG.puts 5 rfl (by decide) [(0, .bool (decide (tw.num < 0))), (1, .slice P24_20 (qn tw).length (qn tw).length), (2, .slice Q24_20 (qd tw).length (qd tw).length)]
  (try simp only [List.nil_append, List.cons_append, World.size_alloc, List.set_cons_zero, List.set_cons_succ, putsC, pB, pC, pD] at hG)
  generalize puts (g20_4) _ wk26 = wk27 at *
  refine done_ (by kernel_rfl) ?_
  (try simp only [List.nil_append, List.cons_append, World.size_alloc, List.set_cons_zero, List.set_cons_succ, putsC, pB, pC, pD] at hG)
  have HM := Lib.hid hG
  clear hG hHeld
  go_upto_region 10 with (fail)
  generalize hlx : fval lo.1 + fval hi.1 = lx at *
  generalize hly : fval lo.2 + fval hi.2 = ly at *
  have HLX := Lib.hid (And.intro hlx hly)
  clear hlx hly
  refine start_ (n := 10) (S := fun w' => w'.heap[w3.heap.size + 1]? = wk27.heap[w3.heap.size + 1]? ∧ w'.heap[w3.heap.size + 1 + 1]? = wk27.heap[w3.heap.size + 1 + 1]? ∧ w'.heap[g20_4]? = wk27.heap[g20_4]?) (ds := [8, 9]) (bt 10 0) (by kernel_rfl) rfl rfl ((And.intro rfl (And.intro rfl rfl))) (fun hHeld => ?_)
  refine pv_ 0 73 ?_
  refine ld_ 1 74 ?_ hHeld ?_ ?_; rotate_left
  · rintro w' hs
    obtain ⟨q0, q1, q2, q3, q4, q5⟩ := rw3 ((hs.1).trans (HM.out.at 3 rfl))
    clear hs
    go_simp; with_reducible rfl
  refine ld_ 2 75 ?_ hHeld ?_ ?_; rotate_left
  · rintro w' hs
    obtain ⟨q0, q1, q2, q3, q4, q5⟩ := rw3 ((hs.2.2).trans (HM.out.at 5 rfl))
    clear hs
    go_simp; with_reducible rfl
  refine pv_ 4 77 ?_
  refine ld_ 5 78 ?_ hHeld ?_ ?_; rotate_left
  · rintro w' hs
    obtain ⟨q0, q1, q2, q3, q4, q5⟩ := rw3 ((hs.2.1).trans (HM.out.at 4 rfl))
    clear hs
    go_simp; with_reducible rfl
  refine ld_ 6 79 ?_ hHeld ?_ ?_; rotate_left
  · rintro w' hs
    obtain ⟨q0, q1, q2, q3, q4, q5⟩ := rw3 ((hs.2.2).trans (HM.out.at 5 rfl))
    clear hs
    go_simp; with_reducible rfl
  refine join_ (σ := Option Addr × Option Addr × Option Addr × Option Addr) 2 (bt 10 255) (fun s => [(76, (qv (s.1) (s.2.1) (lx / tw))), (80, (qv (s.2.2.1) (s.2.2.2) (ly / tw)))]) (fun s w' => Bx wk27.heap.size wk27 w' [] [((s.1), (s.2.1), (lx / tw)), ((s.2.2.1), (s.2.2.2), (ly / tw))]) ?_ ?_
  rotate_left
  · intro J0
    refine join_ (σ := Option Addr × Option Addr × Option Addr × Option Addr) 3 (bt 10 127) (fun s => [(76, (qv (s.1) (s.2.1) (lx / tw)))]) (fun s w' => Bx wk27.heap.size wk27 w' [] [((s.1), (s.2.1), (lx / tw))]) ?_ ?_
    · rintro ⟨P28_3, Q28_3, P28_7, Q28_7⟩ wj hF
      try dsimp only at hF ⊢
      refine nx ?_
      refine o1 7 80 (bt 10 255) ?_
      · intro K hK
        refine go_ Tryz.func65 #[.pointer (some ⟨w1.heap.size, 0, none⟩), .agg #[.bool (decide (ly.num < 0)), .slice P24_19 (qn ly).length (qn ly).length, .slice Q24_19 (qd ly).length (qd ly).length], .agg #[.bool (decide (tw.num < 0)), .slice P24_20 (qn tw).length (qn tw).length, .slice Q24_20 (qd tw).length (qd tw).length]] ?_
        refine (gDiv w1.heap.size _ _ _ _ 0 wj.heap.size 2151 2 ly tw wj ((HM.out.keep hF.m.b).at 1 rfl) ((HM.out.keep hF.m.b).ins 10 rfl) ((HM.out.keep hF.m.b).ins 11 rfl) (Nat.le_refl _) (HS2.out.2 ⟨rfl, rfl⟩) HTW.out.1 (by omega) HTW.out.2).mono ?_
        rintro e w' ⟨P28_7, Q28_7, rfl, hf, hb⟩
        refine ⟨_, rfl, ?_⟩
        have hN := hF.call hf hb
        refine hK.out _ _ (by exact (And.intro (hN.m.b.block _ (HM.out.lt 3 rfl)) (And.intro (hN.m.b.block _ (HM.out.lt 4 rfl)) (hN.m.b.block _ (HM.out.lt 5 rfl))))) (fun hHeld => ?_)
        exact nj (J0 (P28_3, Q28_3, P28_7, Q28_7) _ hN)
    intro J1
    refine join_ (σ := Option Addr × Option Addr × Option Addr × Option Addr) 4 (bt 10 119) (fun s => []) (fun s w' => Bx wk27.heap.size wk27 w' [] []) ?_ ?_
    · rintro ⟨P28_3, Q28_3, P28_7, Q28_7⟩ wj hF
      try dsimp only at hF ⊢
      refine nx ?_
      refine o1 3 76 (bt 10 127) ?_
      · intro K hK
        refine go_ Tryz.func65 #[.pointer (some ⟨w1.heap.size, 0, none⟩), .agg #[.bool (decide (lx.num < 0)), .slice P24_9 (qn lx).length (qn lx).length, .slice Q24_9 (qd lx).length (qd lx).length], .agg #[.bool (decide (tw.num < 0)), .slice P24_20 (qn tw).length (qn tw).length, .slice Q24_20 (qd tw).length (qd tw).length]] ?_
        refine (gDiv w1.heap.size _ _ _ _ 0 wj.heap.size 2151 2 lx tw wj ((HM.out.keep hF.m.b).at 1 rfl) ((HM.out.keep hF.m.b).ins 7 rfl) ((HM.out.keep hF.m.b).ins 11 rfl) (Nat.le_refl _) (HS2.out.1 ⟨rfl, rfl⟩) HTW.out.1 (by omega) HTW.out.2).mono ?_
        rintro e w' ⟨P28_3, Q28_3, rfl, hf, hb⟩
        refine ⟨_, rfl, ?_⟩
        have hN := hF.call hf hb
        refine hK.out _ _ (by exact (And.intro (hN.m.b.block _ (HM.out.lt 3 rfl)) (And.intro (hN.m.b.block _ (HM.out.lt 4 rfl)) (hN.m.b.block _ (HM.out.lt 5 rfl))))) (fun hHeld => ?_)
        exact nj (J1 (P28_3, Q28_3, P28_7, Q28_7) _ hN)
    intro J2
    exact nj (J2 (none, none, none, none) _ ((Bx.start _).drew))
  rintro ⟨P28_3, Q28_3, P28_7, Q28_7⟩ wj hF
  try dsimp only at hF ⊢
  refine nx ?_
  have hG := HM.out.join hF
  (try simp only [List.nil_append, List.cons_append, World.size_alloc, List.set_cons_zero, List.set_cons_succ, putsC, pB, pC, pD] at hG)
  have hHeld := And.intro True.intro (And.intro (hF.m.b.block _ (HM.out.lt 3 rfl)) (And.intro (hF.m.b.block _ (HM.out.lt 4 rfl)) (hF.m.b.block _ (HM.out.lt 5 rfl))))
  clear HM hF
  refine last_ (i := 8) (N := none) (bt 10 511) rfl rfl (by kernel_rfl) (by decide) (fun K hK => ?_)
  obtain ⟨y0, y1, y2, y3, y4, y5⟩ := rw3 (hG.at 3 rfl)
  refine skip_ (w1 := puts (w3.heap.size + 1) [(0, .bool (decide ((lx / tw).num < 0))), (1, .slice P28_3 (qn (lx / tw)).length (qn (lx / tw)).length), (2, .slice Q28_3 (qd (lx / tw)).length (qd (lx / tw)).length)] wj) (by rfl) rfl ?_ ?_
  · go_simp
    rfl
  refine hK.out _ _ ?_
  clear hK K y0 y1 y2 y3 y4 y5
  replace hG := hG.puts 3 rfl (by decide) [(0, .bool (decide ((lx / tw).num < 0))), (1, .slice P28_3 (qn (lx / tw)).length (qn (lx / tw)).length), (2, .slice Q28_3 (qd (lx / tw)).length (qd (lx / tw)).length)]
  (try simp only [List.nil_append, List.cons_append, World.size_alloc, List.set_cons_zero, List.set_cons_succ, putsC, pB, pC, pD] at hG)
  generalize puts (w3.heap.size + 1) _ wj = wk29 at *
  refine last_ (i := 9) (N := none) (bt 10 1023) rfl rfl (by kernel_rfl) (by decide) (fun K hK => ?_)
  obtain ⟨y0, y1, y2, y3, y4, y5⟩ := rw3 (hG.at 4 rfl)
  refine skip_ (w1 := puts (w3.heap.size + 1 + 1) [(0, .bool (decide ((ly / tw).num < 0))), (1, .slice P28_7 (qn (ly / tw)).length (qn (ly / tw)).length), (2, .slice Q28_7 (qd (ly / tw)).length (qd (ly / tw)).length)] wk29) (by rfl) rfl ?_ ?_
  · go_simp
    rfl
  refine hK.out _ _ ?_
  clear hK K y0 y1 y2 y3 y4 y5
  replace hG := hG.puts 4 rfl (by decide) [(0, .bool (decide ((ly / tw).num < 0))), (1, .slice P28_7 (qn (ly / tw)).length (qn (ly / tw)).length), (2, .slice Q28_7 (qd (ly / tw)).length (qd (ly / tw)).length)]
  (try simp only [List.nil_append, List.cons_append, World.size_alloc, List.set_cons_zero, List.set_cons_succ, putsC, pB, pC, pD] at hG)
  generalize puts (w3.heap.size + 1 + 1) _ wk29 = wk30 at *
  refine done_ (by kernel_rfl) ?_
  (try simp only [List.nil_append, List.cons_append, World.size_alloc, List.set_cons_zero, List.set_cons_succ, putsC, pB, pC, pD] at hG)
  have HM := Lib.hid hG
  clear hG hHeld
  rw [← HEX.out.1, ← HEX.out.2] at HM
  clear hsg hq
  have HN1 : Hid (∀ wz A B, Below w.heap.size w wz → RatIn 0 wz.heap.size wz A B cx → Calls Tryz.prog 66 #[.agg #[.bool (decide (cx.num < 0)), .slice A (qn cx).length (qn cx).length, .slice B (qd cx).length (qd cx).length], .int .i64 0] wz fun e w' => e = .returned (.tuple #[.int .u64 (nearR cx).1, .int .i64 (nearR cx).2]) ∧ Below wz.heap.size wz w') :=
    Lib.hid (fun wz A B hb h => vRatS cx A B 0 _ wz h (Nat.le_refl _) HF.out.2.1 (Or.inr (HF.out.1.keep hb)))
  have HN2 : Hid (∀ wz A B, Below w.heap.size w wz → RatIn 0 wz.heap.size wz A B cy → Calls Tryz.prog 66 #[.agg #[.bool (decide (cy.num < 0)), .slice A (qn cy).length (qn cy).length, .slice B (qd cy).length (qd cy).length], .int .i64 0] wz fun e w' => e = .returned (.tuple #[.int .u64 (nearR cy).1, .int .i64 (nearR cy).2]) ∧ Below wz.heap.size wz w') :=
    Lib.hid (fun wz A B hb h => vRatS cy A B 0 _ wz h (Nat.le_refl _) HF.out.2.2 (Or.inr (HF.out.1.keep hb)))
  obtain ⟨c0, c1⟩ := rw1 (HM.out.at 1 rfl)
  obtain ⟨d0, d1, d2, _, _, _⟩ := rw3 (HM.out.at 3 rfl)
  have HV := Lib.hid (HN1.out _ _ _ HM.out.m.b (HM.out.ins 12 rfl))
  ((try dsimp only); repeat (first | go_values | go_skip | go_guarded | go_step | go_upon))
  refine HV.out.mono ?_
  rintro e w7 ⟨rfl, hb7⟩
  have hm := HM.out.keep hb7
  clear HM HV hb7 c0 c1 d0 d1 d2
  have HM := Lib.hid hm
  clear hm
  obtain ⟨d0, d1, d2, _, _, _⟩ := rw3 (HM.out.at 4 rfl)
  have HV := Lib.hid (HN2.out _ _ _ HM.out.m.b (HM.out.ins 13 rfl))
  ((try dsimp only); repeat (first | go_values | go_skip | go_guarded | go_step | go_upon))
  refine HV.out.mono ?_
  rintro e w8 ⟨rfl, hb8⟩
  have hm := HM.out.keep hb8
  clear HM HV hb8 d0 d1 d2 HN1 HN2
  have HM := Lib.hid hm
  clear hm
  obtain ⟨e0, e1, f0, f1⟩ := rw2 (HM.out.at 0 rfl)
  generalize (nearR cx).1 = rx at *
  generalize (nearR cy).1 = ry at *
  generalize (nearR cx).2 = ex at *
  generalize (nearR cy).2 = ey at *
  by_cases hx0 : ex = 0
  · have xb : (ex != 0) = false := by rw [hx0]; rfl
    by_cases hy0 : ey = 0
    · have yb : (ey != 0) = false := by rw [hy0]; rfl
      have HQ2 : Hid (V = ((rx, ry), 0)) := Lib.hid (by rw [HQ.out, if_pos ⟨hx0, hy0⟩])
      clear hx0 hy0
      ((try dsimp only); repeat (first | go_values | go_skip | go_guarded | go_step | go_upon))
      have hN := HM.out.puts 0 rfl (by decide) [(0, .int .u64 rx), (1, .int .u64 ry)]
      simp only [putsC, puts, pB, pC, pD, List.set_cons_zero, List.set_cons_succ] at hN
      refine bodyPost_ret (results_row_tmp rfl _ _ w.heap.size _ _ _ _ rfl (hN.at 0 rfl) rfl rfl rfl) rfl ⟨by rw [HQ2.out]; rfl, hN.m.b⟩
    · have yb : (ey != 0) = true := bne_iff_ne.2 hy0
      have HQ2 : Hid (V = ((0, 0), 70)) := Lib.hid (by rw [HQ.out, if_neg (fun h => hy0 h.2)])
      clear hx0 hy0
      ((try dsimp only); repeat (first | go_values | go_skip | go_guarded | go_step | go_upon))
      have hN := HM.out.puts 0 rfl (by decide) [(0, .int .u64 0), (1, .int .u64 0)]
      simp only [putsC, puts, pB, pC, pD, List.set_cons_zero, List.set_cons_succ] at hN
      refine bodyPost_ret (results_row_tmp rfl _ _ w.heap.size _ _ _ _ rfl (hN.at 0 rfl) rfl rfl rfl) rfl ⟨by rw [HQ2.out]; rfl, hN.m.b⟩
  · have xb : (ex != 0) = true := bne_iff_ne.2 hx0
    have HQ2 : Hid (V = ((0, 0), 70)) := Lib.hid (by rw [HQ.out, if_neg (fun h => hx0 h.1)])
    clear hx0
    ((try dsimp only); repeat (first | go_values | go_skip | go_guarded | go_step | go_upon))
    have hN := HM.out.puts 0 rfl (by decide) [(0, .int .u64 0), (1, .int .u64 0)]
    simp only [putsC, puts, pB, pC, pD, List.set_cons_zero, List.set_cons_succ] at hN
    refine bodyPost_ret (results_row_tmp rfl _ _ w.heap.size _ _ _ _ rfl (hN.at 0 rfl) rfl rfl rfl) rfl ⟨by rw [HQ2.out]; rfl, hN.m.b⟩
theorem gCentreS (A : Option Addr) (c : Nat) (ps : List Pt) (w : World) (hp : PtsIn w A ps) (hl : ps.length ≤ 1000000) (hu : ∀ q ∈ ps, PtU q) (h0 : chkE ps [] = 0) (hst : Stays w) :
    Calls Tryz.prog 20 #[.slice A ps.length c] w fun e w' => e = .returned (.tuple #[.agg #[.int .u64 (centV ps).1.1, .int .u64 (centV ps).1.2], .int .i64 (centV ps).2]) ∧ Below w.heap.size w w' := by
  by_cases ha : sumE crs (edgesR ps) = 0
  · exact gCentreZ A c ps w hp hl hu h0 ha hst
  · exact gCentreA A c ps w hp hl hu h0 ha hst
end Go.Proofs.YtfpofmifmapmfaaGreatDoor
