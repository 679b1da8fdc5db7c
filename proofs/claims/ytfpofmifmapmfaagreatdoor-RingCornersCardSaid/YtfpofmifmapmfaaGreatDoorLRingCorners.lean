/- The law RingCorners of package plumblaw24 answers true at every four points, and changes nothing that it was handed: the tied card, for every input, no condition. -/
import Derived.Test.YtfpofmifmapmfaaGreatDoorRE
import Derived.Test.YtfpofmifmapmfaaGreatDoorRD
import Derived.Test.YtfpofmifmapmfaaGreatDoorRC
import Derived.Test.YtfpofmifmapmfaaGreatDoorRA
import Derived.Test.YtfpofmifmapmfaaGreatDoorRows
import Derived.Test.YtfpofmifmapmfaaGreatDoorCards
import Derived.Test.YtfpofmifmapmfaaGreatDoorTie
import Derived.ProofKit
import Derived.LaidMore
import Derived.OpenShut
import Derived.Stop.Joined
import Derived.Below
import Derived.ChangeSame
import Derived.SevenTiedAt
import Derived.Deep.Slices
import Derived.SizedLaws
namespace Go.Proofs.YtfpofmifmapmfaaGreatDoor
open Go.RowKit Go.Proofs.YtfpofmifmapmfaaGreatDoorW.PrintLast
set_option linter.unusedVariables false
set_option linter.unusedSimpArgs false
abbrev triR (a b c : Pt) : List Pt := [a, b, c, a]
theorem tri_chk (a b c : Pt) (more : List Pt) : chkE (triR a b c) more = if (finB [a, b, c] && finB more) = true then 0 else 220 := one_chk (a := [a, b, c]) (by simp) (by simp)
theorem tri_fin {a b c : Pt} (ua : PtU a) (ub : PtU b) (uc : PtU c) : finB [a, b, c] = true ↔ FinP a ∧ FinP b ∧ FinP c := by
  rw [finB_iff (by intro q h; simp at h; rcases h with rfl | rfl | rfl <;> assumption)]
  constructor
  · intro h; exact ⟨h _ (by simp), h _ (by simp), h _ (by simp)⟩
  · rintro ⟨x, y, z⟩ q h; simp at h; rcases h with rfl | rfl | rfl <;> assumption
theorem fin_one {p : Pt} (up : PtU p) : finB [p] = true ↔ FinP p := by
  rw [finB_iff (by intro q h; simp at h; subst h; exact up)]
  exact ⟨fun h => h _ (by simp), fun h q hq => by simp at hq; subst hq; exact h⟩
theorem tri_box (a b c : Pt) : boxE (triR a b c) = if finB [a, b, c] = true then 0 else 220 := by
  have e : finB (triR a b c) = finB [a, b, c] := by
    unfold finB triR
    simp only [List.all_cons, List.all_nil, Bool.and_true]
    generalize (decide (fe a.1 ≠ 2047) && decide (fe a.2 ≠ 2047)) = x
    generalize (decide (fe b.1 ≠ 2047) && decide (fe b.2 ≠ 2047)) = y
    generalize (decide (fe c.1 ≠ 2047) && decide (fe c.2 ≠ 2047)) = z
    cases x <;> cases y <;> cases z <;> rfl
  unfold boxE
  rw [if_neg (by simp), e]
theorem tri_sum (a b c : Pt) : sumE crs (edgesR (triR a b c)) = area2 (pl a) (pl b) (pl c) := by
  have e : edgesR (triR a b c) = [(a, b), (b, c), (c, a)] := rfl
  rw [e]
  simp only [sumE, List.foldl_cons, List.foldl_nil]
  unfold crs area2 pl
  dsimp only
  grind
theorem tri_u {a b c : Pt} (ua : PtU a) (ub : PtU b) (uc : PtU c) : ∀ q ∈ triR a b c, PtU q := by
  intro q h; simp at h; rcases h with rfl | rfl | rfl | rfl <;> assumption
theorem pts4 {w : World} {g : Nat} {a b c d : Pt} {t : TypeId} {f : Nat × Nat} (h : w.heap[g]? = some (.cells #[.int .u64 a.1, .int .u64 a.2, .int .u64 b.1, .int .u64 b.2, .int .u64 c.1, .int .u64 c.2, .int .u64 d.1, .int .u64 d.2] t f)) : PtsAt w g 0 [a, b, c, d] := by
  intro i hi
  match i, hi with
  | 0, _ | 1, _ | 2, _ | 3, _ => exact ⟨by rw [cell_of_cells h]; rfl, by rw [cell_of_cells h]; rfl⟩
theorem tri_in4 {w : World} {g : Nat} {a b c : Pt} (h : PtsAt w g 0 (triR a b c)) (hg : g < w.heap.size) : PtsIn w (some ⟨g, 0, none⟩) (triR a b c) := Or.inr ⟨g, 0, rfl, hg, h⟩
def endB (inn u v w o : Int) : Bool := (inn == 1) == (u == o && v == o && w == o) && ((inn == -1) == (u == -o || v == -o || w == -o))
theorem tri_windR (a b c p : Pt) : windR (triR a b c) p = if onT (pl a) (pl b) (pl c) (pl p) = true then (0, true) else (nTri (pl a) (pl b) (pl c) (pl p), false) := by
  have e : edgesR (triR a b c) = [(a, b), (b, c), (c, a)] := rfl
  have g0 : (triR a b c).getD 0 (0, 0) = a := rfl
  unfold windR
  rw [e, g0]
  have ha : ([(a, b), (b, c), (c, a)] : List Ed).any (onE p) = onT (pl a) (pl b) (pl c) (pl p) := by
    simp only [List.any_cons, List.any_nil, Bool.or_false]
    unfold onT onE btwP
    dsimp only
    rw [Bool.or_assoc]
  rw [ha]
  have hs : sumI (crossE p) [(a, b), (b, c), (c, a)] = nTri (pl a) (pl b) (pl c) (pl p) := by
    simp only [sumI, List.foldl_cons, List.foldl_nil]
    rw [crossE_pl, crossE_pl, crossE_pl]
    unfold nTri
    dsimp only
    omega
  rw [hs]
  split
  · rename_i h
    have h' := pcmp_eq.1 h
    have : onT (pl a) (pl b) (pl c) (pl p) = true := by
      unfold onT btw
      rw [← h', side3_aba, pcmp_self]
      simp
      left; left
      omega
    rw [if_pos this]
  · rfl
theorem tri_end {a b c p : Pt} (h : chkE (triR a b c) [p] = 0) (ho : sideP a b c ≠ 0) : endB (sideV (triR a b c) p).1 (sideP a b p) (sideP b c p) (sideP c a p) (sideP a b c) = true := by
  have hw : windV (triR a b c) p = ((windR (triR a b c) p).1, (windR (triR a b c) p).2, 0) := by unfold windV; rw [h]; rfl
  have t := tri_all (a := pl a) (b := pl b) (c := pl c) (p := pl p) ho
  have r := tri_windR a b c p
  unfold sideP at ho ⊢
  have co : side3 (pl a) (pl b) (pl c) = -1 ∨ side3 (pl a) (pl b) (pl c) = 0 ∨ side3 (pl a) (pl b) (pl c) = 1 := qsgn_cases _
  have cu : side3 (pl a) (pl b) (pl p) = -1 ∨ side3 (pl a) (pl b) (pl p) = 0 ∨ side3 (pl a) (pl b) (pl p) = 1 := qsgn_cases _
  have cv : side3 (pl b) (pl c) (pl p) = -1 ∨ side3 (pl b) (pl c) (pl p) = 0 ∨ side3 (pl b) (pl c) (pl p) = 1 := qsgn_cases _
  have cw : side3 (pl c) (pl a) (pl p) = -1 ∨ side3 (pl c) (pl a) (pl p) = 0 ∨ side3 (pl c) (pl a) (pl p) = 1 := qsgn_cases _
  have hs : (sideV (triR a b c) p).1 = if (windR (triR a b c) p).2 = true then 0 else if (windR (triR a b c) p).1.tmod 2 ≠ 0 then 1 else -1 := by
    unfold sideV
    rw [hw]
    dsimp only
    rw [if_neg (by decide)]
    split
    · rfl
    · split <;> rfl
  rw [hs, r]
  generalize onT (pl a) (pl b) (pl c) (pl p) = T at *
  generalize nTri (pl a) (pl b) (pl c) (pl p) = n at *
  generalize side3 (pl a) (pl b) (pl c) = ov at *
  generalize side3 (pl a) (pl b) (pl p) = u at *
  generalize side3 (pl b) (pl c) (pl p) = v at *
  generalize side3 (pl c) (pl a) (pl p) = x at *
  clear hs r hw h
  obtain ⟨t1, t2, t3⟩ := t
  by_cases k1 : u = ov ∧ v = ov ∧ x = ov
  · obtain ⟨e1, e2⟩ := t1 k1
    obtain ⟨rfl, rfl, rfl⟩ := k1
    subst e1 e2
    rcases co with rfl | rfl | rfl
    · decide
    · exact absurd rfl ho
    · decide
  · by_cases k2 : u = -ov ∨ v = -ov ∨ x = -ov
    · obtain ⟨e1, e2⟩ := t2 k2
      subst e1 e2
      clear t1 t2 t3
      rcases co with rfl | rfl | rfl
      · rcases cu with rfl | rfl | rfl <;> rcases cv with rfl | rfl | rfl <;> rcases cw with rfl | rfl | rfl <;> first | decide | exact absurd (by decide) k1 | exact absurd (by decide) k2 | exact absurd k2 (by decide)
      · exact absurd rfl ho
      · rcases cu with rfl | rfl | rfl <;> rcases cv with rfl | rfl | rfl <;> rcases cw with rfl | rfl | rfl <;> first | decide | exact absurd (by decide) k1 | exact absurd (by decide) k2 | exact absurd k2 (by decide)
    · have e1 := t3 k1 k2
      subst e1
      clear t1 t2 t3
      show endB 0 u v x ov = true
      rcases co with rfl | rfl | rfl
      · rcases cu with rfl | rfl | rfl <;> rcases cv with rfl | rfl | rfl <;> rcases cw with rfl | rfl | rfl <;> first | decide | exact absurd (by decide) k1 | exact absurd (by decide) k2 | exact absurd k2 (by decide)
      · exact absurd rfl ho
      · rcases cu with rfl | rfl | rfl <;> rcases cv with rfl | rfl | rfl <;> rcases cw with rfl | rfl | rfl <;> first | decide | exact absurd (by decide) k1 | exact absurd (by decide) k2 | exact absurd k2 (by decide)
theorem side_err (ps : List Pt) (p : Pt) : (sideV ps p).2 = chkE ps [p] := by
  have e : (windV ps p).2.2 = chkE ps [p] := by
    unfold windV
    split
    · rfl
    · rename_i h; show (0 : Int) = _; omega
  unfold sideV
  split
  · exact e
  · rename_i h
    split
    · show (0 : Int) = _; omega
    · split <;> (show (0 : Int) = _; omega)
theorem side_zero {ps : List Pt} {p : Pt} (h : (sideV ps p).2 ≠ 0) : (sideV ps p).1 = 0 := by
  unfold sideV at h ⊢
  split
  · rfl
  · rename_i h1
    rw [if_neg h1] at h
    exfalso
    split at h
    · exact h rfl
    · split at h <;> exact h rfl
set_option maxRecDepth 100000 in
set_option maxHeartbeats 6400000 in
theorem lCornersNo (a b c p : Pt) (w : World) (ua : PtU a) (ub : PtU b) (uc : PtU c) (up : PtU p) (hn : ¬ (FinP a ∧ FinP b ∧ FinP c)) :
    Calls Tryz.prog 8 #[.agg #[.int .u64 a.1, .int .u64 a.2], .agg #[.int .u64 b.1, .int .u64 b.2], .agg #[.int .u64 c.1, .int .u64 c.2], .agg #[.int .u64 p.1, .int .u64 p.2]] w fun e w' => e = .returned (.bool true) ∧ Below w.heap.size w w' := by
  have hf : ¬ finB [a, b, c] = true := fun h => hn ((tri_fin ua ub uc).1 h)
  have hu := tri_u ua ub uc
  have eb : boxE (triR a b c) = 220 := by rw [tri_box, if_neg hf]
  have ec : chkE (triR a b c) [] = 220 := by rw [tri_chk, if_neg (by rw [Bool.and_eq_true]; exact fun h => hf h.1)]
  have el : lowP (triR a b c) = (0, 0) := by unfold lowP; rw [eb]; rfl
  have eh : highP (triR a b c) = (0, 0) := by unfold highP; rw [eb]; rfl
  have HBox : Hid (∀ (wz : World) (g : Nat), PtsAt wz g 0 (triR a b c) → g < wz.heap.size → Calls Tryz.prog 29 #[.slice (some ⟨g, 0, none⟩) 4 4] wz fun e w' => e = .returned (.tuple #[.agg #[.int .u64 0, .int .u64 0], .agg #[.int .u64 0, .int .u64 0], .int .i64 220]) ∧ Below wz.heap.size wz w') := Lib.hid (fun wz g h1 h2 => by have := gBox (some ⟨g, 0, none⟩) 4 (triR a b c) wz (tri_in4 h1 h2) (show 4 ≤ 1000000 by decide) hu; rwa [el, eh, eb] at this)
  have HAr : Hid (∀ (wz : World) (g : Nat), PtsAt wz g 0 (triR a b c) → g < wz.heap.size → Calls Tryz.prog 16 #[.slice (some ⟨g, 0, none⟩) 4 4] wz fun e w' => ∃ z E n1 n2 F n3 n4, e = .returned (.tuple #[.agg #[.bool z, .slice E n1 n2, .slice F n3 n4], .int .i64 220]) ∧ Below wz.heap.size wz w') := Lib.hid (fun wz g h1 h2 => by
    refine (area_any (some ⟨g, 0, none⟩) 4 (triR a b c) wz (tri_in4 h1 h2) (show 4 ≤ 1000000 by decide) hu).mono ?_
    rintro e w' ⟨z, E, n1, n2, F, n3, n4, he, _, hb⟩
    rw [ec] at he
    exact ⟨z, E, n1, n2, F, n3, n4, he, hb⟩)
  have HPA := Lib.hid (fun wz => pArea2No a b c wz ua ub uc hn)
  have HAl := Lib.hid (fun wz => lAlive24 wz)
  clear hf hu eb ec el eh hn ua ub uc up
  have hmm : Bx w.heap.size w ((((w.alloc (.cells #[.int .u64 a.1, .int .u64 a.2] 38)).alloc (.cells #[.int .u64 b.1, .int .u64 b.2] 38)).alloc (.cells #[.int .u64 c.1, .int .u64 c.2] 38)).alloc (.cells #[.int .u64 p.1, .int .u64 p.2] 38)) _ _ := ((((Bx.start w).alloc (.cells #[.int .u64 a.1, .int .u64 a.2] 38 (0, 0))).alloc (.cells #[.int .u64 b.1, .int .u64 b.2] 38 (0, 0))).alloc (.cells #[.int .u64 c.1, .int .u64 c.2] 38 (0, 0))).alloc (.cells #[.int .u64 p.1, .int .u64 p.2] 38 (0, 0))
  go_enter Tryz.func8, Tryz.ntmps8
  go_upto_region 1 with (fail)
  generalize (World.alloc (World.alloc (World.alloc (World.alloc w _) _) _) _) = v at *
  (try simp only [List.nil_append, List.cons_append, World.size_alloc, List.set_cons_zero, List.set_cons_succ, putsC, pB, pC, pD] at hmm)
  have HM := Lib.hid hmm
  clear hmm
  obtain ⟨c0_0, c0_1, c0_2, c0_3⟩ := rw2 (HM.out.at 0 rfl)
  obtain ⟨c1_0, c1_1, c1_2, c1_3⟩ := rw2 (HM.out.at 1 rfl)
  obtain ⟨c2_0, c2_1, c2_2, c2_3⟩ := rw2 (HM.out.at 2 rfl)
  have hm : Bx w.heap.size w (World.alloc v (.cells #[.int .u64 a.1, .int .u64 a.2, .int .u64 b.1, .int .u64 b.2, .int .u64 c.1, .int .u64 c.2, .int .u64 a.1, .int .u64 a.2] 38)) _ _ := (HM.out.alloc (.cells #[.int .u64 a.1, .int .u64 a.2, .int .u64 b.1, .int .u64 b.2, .int .u64 c.1, .int .u64 c.2, .int .u64 a.1, .int .u64 a.2] 38 (0, 0)))
  go_upto_region 2 with (fail)
  generalize (World.alloc v _) = v0 at *
  clear HM c0_0 c0_1 c0_2 c0_3 c1_0 c1_1 c1_2 c1_3 c2_0 c2_1 c2_2 c2_3
  (try simp only [List.nil_append, List.cons_append, World.size_alloc, List.set_cons_zero, List.set_cons_succ, putsC, pB, pC, pD] at hm)
  have HM := Lib.hid hm
  clear hm
  have HK := Lib.hid (HBox.out v0 _ (pts4 (HM.out.at 4 rfl)) (HM.out.lt 4 rfl))
  ((try dsimp only); repeat (first | go_values | go_skip | go_guarded | go_step | go_upon))
  refine HK.out.mono ?_
  rintro e w1 ⟨rfl, hb⟩
  have hm : Bx w.heap.size w (World.alloc (World.alloc w1 (.cells #[.int .u64 0, .int .u64 0] 38)) (.cells #[.int .u64 0, .int .u64 0] 38)) _ _ := (((HM.out.keep hb).alloc (.cells #[.int .u64 0, .int .u64 0] 38 (0, 0))).alloc (.cells #[.int .u64 0, .int .u64 0] 38 (0, 0)))
  clear HK HM hb 
  go_upto_region 3 with (fail)
  generalize (World.alloc (World.alloc w1 _) _) = v2 at *
  (try simp only [List.nil_append, List.cons_append, World.size_alloc, List.set_cons_zero, List.set_cons_succ, putsC, pB, pC, pD] at hm)
  have HM := Lib.hid hm
  clear hm
  have HK := Lib.hid (HAr.out v2 _ (pts4 (HM.out.at 4 rfl)) (HM.out.lt 4 rfl))
  ((try dsimp only); repeat (first | go_values | go_skip | go_guarded | go_step | go_upon))
  refine HK.out.mono ?_
  rintro e w3 ⟨z, E1, n1, n2, F1, n3, n4, rfl, hb⟩
  have hm : Bx w.heap.size w (World.alloc w3 (.cells #[.bool z, .slice E1 n1 n2, .slice F1 n3 n4] 26)) _ _ := ((HM.out.keep hb).alloc (.cells #[.bool z, .slice E1 n1 n2, .slice F1 n3 n4] 26 (0, 0)))
  clear HK HM hb 
  go_upto_region 4 with (fail)
  generalize (World.alloc w3 _) = v4 at *
  (try simp only [List.nil_append, List.cons_append, World.size_alloc, List.set_cons_zero, List.set_cons_succ, putsC, pB, pC, pD] at hm)
  have HM := Lib.hid hm
  clear hm
  obtain ⟨c0_0, c0_1, c0_2, c0_3⟩ := rw2 (HM.out.at 0 rfl)
  obtain ⟨c1_0, c1_1, c1_2, c1_3⟩ := rw2 (HM.out.at 1 rfl)
  obtain ⟨c2_0, c2_1, c2_2, c2_3⟩ := rw2 (HM.out.at 2 rfl)
  have HK := Lib.hid (HPA.out v4)
  ((try dsimp only); repeat (first | go_values | go_skip | go_guarded | go_step | go_upon))
  refine HK.out.mono ?_
  rintro e w5 ⟨rfl, hb⟩
  have hm : Bx w.heap.size w (World.alloc w5 (.cells #[.bool false, .slice none 0 0, .slice none 0 0] 26)) _ _ := ((HM.out.keep hb).alloc (.cells #[.bool false, .slice none 0 0, .slice none 0 0] 26 (0, 0)))
  clear HK HM hb c0_0 c0_1 c0_2 c0_3 c1_0 c1_1 c1_2 c1_3 c2_0 c2_1 c2_2 c2_3
  go_upto_region 5 with (fail)
  generalize (World.alloc w5 _) = v6 at *
  (try simp only [List.nil_append, List.cons_append, World.size_alloc, List.set_cons_zero, List.set_cons_succ, putsC, pB, pC, pD] at hm)
  have HM := Lib.hid hm
  clear hm
  have HK := Lib.hid (HAl.out v6)
  ((try dsimp only); repeat (first | go_values | go_skip | go_guarded | go_step | go_upon))
  refine HK.out.mono ?_
  rintro e w7 ⟨rfl, hb⟩
  have hm := (HM.out.keep hb)
  clear HK HM hb 
  (try simp only [List.nil_append, List.cons_append, World.size_alloc, List.set_cons_zero, List.set_cons_succ, putsC, pB, pC, pD] at hm)
  have HM := Lib.hid hm
  clear hm
  obtain ⟨c5_0, c5_1, c5_2, c5_3⟩ := rw2 (HM.out.at 5 rfl)
  obtain ⟨c6_0, c6_1, c6_2, c6_3⟩ := rw2 (HM.out.at 6 rfl)
  ((try dsimp only); repeat (first | go_values | go_skip | go_guarded | go_step | go_upon))
  go_ret
  exact ⟨rfl, HM.out.m.b⟩
set_option maxRecDepth 100000 in
set_option maxHeartbeats 6400000 in
theorem lCornersFin (a b c p : Pt) (w : World) (ua : PtU a) (ub : PtU b) (uc : PtU c) (up : PtU p) (fa : FinP a) (fb : FinP b) (fc : FinP c) :
    Calls Tryz.prog 8 #[.agg #[.int .u64 a.1, .int .u64 a.2], .agg #[.int .u64 b.1, .int .u64 b.2], .agg #[.int .u64 c.1, .int .u64 c.2], .agg #[.int .u64 p.1, .int .u64 p.2]] w fun e w' => e = .returned (.bool true) ∧ Below w.heap.size w w' := by
  have hf : finB [a, b, c] = true := (tri_fin ua ub uc).2 ⟨fa, fb, fc⟩
  have hu := tri_u ua ub uc
  have eb : boxE (triR a b c) = 0 := by rw [tri_box, if_pos hf]
  have ec : chkE (triR a b c) [] = 0 := by rw [tri_chk, if_pos (by rw [hf]; rfl)]
  have el : lowP (triR a b c) = (cornK (-1) fX (triR a b c) 4, cornK (-1) fY (triR a b c) 4) := by unfold lowP; rw [if_pos eb]; rfl
  have eh : highP (triR a b c) = (cornK 1 fX (triR a b c) 4, cornK 1 fY (triR a b c) 4) := by unfold highP; rw [if_pos eb]; rfl
  have hfin : ∀ q ∈ triR a b c, FinP q := by intro q h; simp at h; rcases h with rfl | rfl | rfl | rfl <;> assumption
  obtain ⟨fl1, fl2⟩ := corn_fin (s := -1) (l := triR a b c) (k := 4) hfin (show 0 < 4 by decide) (show 4 ≤ 4 by decide)
  obtain ⟨fh1, fh2⟩ := corn_fin (s := 1) (l := triR a b c) (k := 4) hfin (show 0 < 4 by decide) (show 4 ≤ 4 by decide)
  have hL : ∀ k, k < 4 → ¬ qcmp (fval ((triR a b c).getD k (0, 0)).1) (fval (cornK (-1) fX (triR a b c) 4)) < 0 ∧ ¬ qcmp (fval ((triR a b c).getD k (0, 0)).2) (fval (cornK (-1) fY (triR a b c) 4)) < 0 ∧ ¬ 0 < qcmp (fval ((triR a b c).getD k (0, 0)).1) (fval (cornK 1 fX (triR a b c) 4)) ∧ ¬ 0 < qcmp (fval ((triR a b c).getD k (0, 0)).2) (fval (cornK 1 fY (triR a b c) 4)) := fun k hk => by
    have x1 := cornK_low fX (triR a b c) 4 k hk
    have x2 := cornK_low fY (triR a b c) 4 k hk
    have x3 := cornK_high fX (triR a b c) 4 k hk
    have x4 := cornK_high fY (triR a b c) 4 k hk
    unfold fX at x1 x3
    unfold fY at x2 x4
    unfold fX fY
    refine ⟨?_, ?_, ?_, ?_⟩
    · have := qcmp_lt (a := fval ((triR a b c).getD k (0, 0)).1) (b := fval (cornK (-1) (fun p => p.1) (triR a b c) 4)); have q := qcmp3 (fval ((triR a b c).getD k (0, 0)).1) (fval (cornK (-1) (fun p => p.1) (triR a b c) 4)); intro h; exact Rat.not_lt.2 x1 (this.1 (by omega))
    · have := qcmp_lt (a := fval ((triR a b c).getD k (0, 0)).2) (b := fval (cornK (-1) (fun p => p.2) (triR a b c) 4)); have q := qcmp3 (fval ((triR a b c).getD k (0, 0)).2) (fval (cornK (-1) (fun p => p.2) (triR a b c) 4)); intro h; exact Rat.not_lt.2 x2 (this.1 (by omega))
    · intro h; exact Rat.not_lt.2 x3 (qc_gt.1 h)
    · intro h; exact Rat.not_lt.2 x4 (qc_gt.1 h)
  generalize cornK (-1) fX (triR a b c) 4 = lx at *
  generalize cornK (-1) fY (triR a b c) 4 = ly at *
  generalize cornK 1 fX (triR a b c) 4 = hx at *
  generalize cornK 1 fY (triR a b c) 4 = hy at *
  have hS := tri_sum a b c
  have hsz := area_sz (pl_sz fa) (pl_sz fb) (pl_sz fc)
  have HTu : Hid (turnV (triR a b c) = (sideP a b c, 0)) := Lib.hid (by unfold turnV; rw [ec, hS]; rfl)
  have HBox : Hid (∀ (wz : World) (g : Nat), PtsAt wz g 0 (triR a b c) → g < wz.heap.size → Calls Tryz.prog 29 #[.slice (some ⟨g, 0, none⟩) 4 4] wz fun e w' => e = .returned (.tuple #[.agg #[.int .u64 lx, .int .u64 ly], .agg #[.int .u64 hx, .int .u64 hy], .int .i64 0]) ∧ Below wz.heap.size wz w') := Lib.hid (fun wz g h1 h2 => by have := gBox (some ⟨g, 0, none⟩) 4 (triR a b c) wz (tri_in4 h1 h2) (show 4 ≤ 1000000 by decide) hu; rwa [el, eh, eb] at this)
  have HAr : Hid (∀ (wz : World) (g : Nat), PtsAt wz g 0 (triR a b c) → g < wz.heap.size → Calls Tryz.prog 16 #[.slice (some ⟨g, 0, none⟩) 4 4] wz fun e w' => ∃ E F, e = .returned (.tuple #[qv E F (area2 (pl a) (pl b) (pl c)), .int .i64 0]) ∧ RatFresh wz.heap.size w' E F (area2 (pl a) (pl b) (pl c)) ∧ Below wz.heap.size wz w') := Lib.hid (fun wz g h1 h2 => by
    refine (area_any (some ⟨g, 0, none⟩) 4 (triR a b c) wz (tri_in4 h1 h2) (show 4 ≤ 1000000 by decide) hu).mono ?_
    rintro e w' ⟨z, E, n1, n2, F, n3, n4, he, hq, hb⟩
    obtain ⟨q1, q2⟩ := hq ec
    rw [ec, q1, hS] at he
    rw [hS] at q2
    exact ⟨E, F, he, q2, hb⟩)
  have HPA := Lib.hid (fun wz => pArea2 a b c wz fa fb fc)
  have HTn : Hid (∀ (wz : World) (g : Nat), PtsAt wz g 0 (triR a b c) → g < wz.heap.size → Calls Tryz.prog 18 #[.slice (some ⟨g, 0, none⟩) 4 4] wz fun e w' => e = .returned (.tuple #[.int .i64 (sideP a b c), .int .i64 0]) ∧ Below wz.heap.size wz w') := Lib.hid (fun wz g h1 h2 => by have := gTurn (some ⟨g, 0, none⟩) 4 (triR a b c) wz (tri_in4 h1 h2) (show 4 ≤ 1000000 by decide) hu; rwa [HTu.out] at this)
  have HSd : Hid (∀ (wz : World) (g : Nat), PtsAt wz g 0 (triR a b c) → g < wz.heap.size → Calls Tryz.prog 25 #[.slice (some ⟨g, 0, none⟩) 4 4, .agg #[.int .u64 p.1, .int .u64 p.2]] wz fun e w' => e = .returned (.tuple #[.int .i64 (sideV (triR a b c) p).1, .int .i64 (sideV (triR a b c) p).2]) ∧ Below wz.heap.size wz w') := Lib.hid (fun wz g h1 h2 => gSide (some ⟨g, 0, none⟩) 4 (triR a b c) p wz (tri_in4 h1 h2) (show 4 ≤ 1000000 by decide) hu up)
  have HOr := Lib.hid (fun wz => pOrient a b c wz fa fb fc)
  have HAl := Lib.hid (fun wz => lAlive24 wz)
  have hck := tri_chk a b c [p]
  rw [hf, Bool.true_and] at hck
  have HCk := Lib.hid hck
  have HCm : Hid (∀ k, k < 4 → ∀ wz, (Calls Tryz.prog 34 #[.int .u64 ((triR a b c).getD k (0, 0)).1, .int .u64 lx] wz fun e w' => e = .returned (.int .i64 (qcmp (fval ((triR a b c).getD k (0, 0)).1) (fval lx))) ∧ wz = w') ∧ (Calls Tryz.prog 34 #[.int .u64 ((triR a b c).getD k (0, 0)).2, .int .u64 ly] wz fun e w' => e = .returned (.int .i64 (qcmp (fval ((triR a b c).getD k (0, 0)).2) (fval ly))) ∧ wz = w') ∧
      (Calls Tryz.prog 34 #[.int .u64 ((triR a b c).getD k (0, 0)).1, .int .u64 hx] wz fun e w' => e = .returned (.int .i64 (qcmp (fval ((triR a b c).getD k (0, 0)).1) (fval hx))) ∧ wz = w') ∧ (Calls Tryz.prog 34 #[.int .u64 ((triR a b c).getD k (0, 0)).2, .int .u64 hy] wz fun e w' => e = .returned (.int .i64 (qcmp (fval ((triR a b c).getD k (0, 0)).2) (fval hy))) ∧ wz = w')) := Lib.hid (fun k hk wz => by
    have f := hfin _ (getD_mem (ps := triR a b c) hk)
    exact ⟨lCmp24 _ _ wz f.1 fl1, lCmp24 _ _ wz f.2 fl2, lCmp24 _ _ wz f.1 fh1, lCmp24 _ _ wz f.2 fh2⟩)
  have HL := Lib.hid hL
  have HF3 := Lib.hid (And.intro fa (And.intro fb fc))
  have HU3 := Lib.hid (And.intro ua (And.intro ub (And.intro uc up)))
  have HQl := Lib.hid (hsz.lens (by omega))
  clear hf eb ec el eh hu hL hS hsz hck fl1 fl2 fh1 fh2 hfin fa fb fc ua ub uc up HTu
  have hmm : Bx w.heap.size w ((((w.alloc (.cells #[.int .u64 a.1, .int .u64 a.2] 38)).alloc (.cells #[.int .u64 b.1, .int .u64 b.2] 38)).alloc (.cells #[.int .u64 c.1, .int .u64 c.2] 38)).alloc (.cells #[.int .u64 p.1, .int .u64 p.2] 38)) _ _ := ((((Bx.start w).alloc (.cells #[.int .u64 a.1, .int .u64 a.2] 38 (0, 0))).alloc (.cells #[.int .u64 b.1, .int .u64 b.2] 38 (0, 0))).alloc (.cells #[.int .u64 c.1, .int .u64 c.2] 38 (0, 0))).alloc (.cells #[.int .u64 p.1, .int .u64 p.2] 38 (0, 0))
  unfold qv at HAr HPA
  obtain ⟨Sa, hSa⟩ : ∃ x, area2 (pl a) (pl b) (pl c) = x := ⟨_, rfl⟩
  rw [hSa] at HAr HPA HQl
  clear hSa
  go_enter Tryz.func8, Tryz.ntmps8
  go_upto_region 1 with (fail)
  generalize (World.alloc (World.alloc (World.alloc (World.alloc w _) _) _) _) = v at *
  (try simp only [List.nil_append, List.cons_append, World.size_alloc, List.set_cons_zero, List.set_cons_succ, putsC, pB, pC, pD] at hmm)
  have HM := Lib.hid hmm
  clear hmm
  obtain ⟨c0_0, c0_1, c0_2, c0_3⟩ := rw2 (HM.out.at 0 rfl)
  obtain ⟨c1_0, c1_1, c1_2, c1_3⟩ := rw2 (HM.out.at 1 rfl)
  obtain ⟨c2_0, c2_1, c2_2, c2_3⟩ := rw2 (HM.out.at 2 rfl)
  have hm : Bx w.heap.size w (World.alloc v (.cells #[.int .u64 a.1, .int .u64 a.2, .int .u64 b.1, .int .u64 b.2, .int .u64 c.1, .int .u64 c.2, .int .u64 a.1, .int .u64 a.2] 38)) _ _ := (HM.out.alloc (.cells #[.int .u64 a.1, .int .u64 a.2, .int .u64 b.1, .int .u64 b.2, .int .u64 c.1, .int .u64 c.2, .int .u64 a.1, .int .u64 a.2] 38 (0, 0)))
  go_upto_region 2 with (fail)
  generalize (World.alloc v _) = v0 at *
  clear HM c0_0 c0_1 c0_2 c0_3 c1_0 c1_1 c1_2 c1_3 c2_0 c2_1 c2_2 c2_3
  (try simp only [List.nil_append, List.cons_append, World.size_alloc, List.set_cons_zero, List.set_cons_succ, putsC, pB, pC, pD] at hm)
  have HM := Lib.hid hm
  clear hm
  have HK := Lib.hid (HBox.out v0 _ (pts4 (HM.out.at 4 rfl)) (HM.out.lt 4 rfl))
  ((try dsimp only); repeat (first | go_values | go_skip | go_guarded | go_step | go_upon))
  refine HK.out.mono ?_
  rintro e w1 ⟨rfl, hb⟩
  have hm : Bx w.heap.size w (World.alloc (World.alloc w1 (.cells #[.int .u64 lx, .int .u64 ly] 38)) (.cells #[.int .u64 hx, .int .u64 hy] 38)) _ _ := (((HM.out.keep hb).alloc (.cells #[.int .u64 lx, .int .u64 ly] 38 (0, 0))).alloc (.cells #[.int .u64 hx, .int .u64 hy] 38 (0, 0)))
  clear HK HM hb 
  go_upto_region 3 with (fail)
  generalize (World.alloc (World.alloc w1 _) _) = v2 at *
  (try simp only [List.nil_append, List.cons_append, World.size_alloc, List.set_cons_zero, List.set_cons_succ, putsC, pB, pC, pD] at hm)
  have HM := Lib.hid hm
  clear hm
  have HK := Lib.hid (HAr.out v2 _ (pts4 (HM.out.at 4 rfl)) (HM.out.lt 4 rfl))
  ((try dsimp only); repeat (first | go_values | go_skip | go_guarded | go_step | go_upon))
  refine HK.out.mono ?_
  rintro e w3 ⟨E3, F3, rfl, hf, hb⟩
  have hm : Bx w.heap.size w (World.alloc w3 (.cells #[.bool (decide (Sa.num < 0)), .slice E3 (qn Sa).length (qn Sa).length, .slice F3 (qd Sa).length (qd Sa).length] 26)) _ _ := ((HM.out.call hf hb).alloc (.cells #[.bool (decide (Sa.num < 0)), .slice E3 (qn Sa).length (qn Sa).length, .slice F3 (qd Sa).length (qd Sa).length] 26 (0, 0)))
  clear HK HM hf hb 
  go_upto_region 4 with (fail)
  generalize (World.alloc w3 _) = v4 at *
  (try simp only [List.nil_append, List.cons_append, World.size_alloc, List.set_cons_zero, List.set_cons_succ, putsC, pB, pC, pD] at hm)
  have HM := Lib.hid hm
  clear hm
  obtain ⟨c0_0, c0_1, c0_2, c0_3⟩ := rw2 (HM.out.at 0 rfl)
  obtain ⟨c1_0, c1_1, c1_2, c1_3⟩ := rw2 (HM.out.at 1 rfl)
  obtain ⟨c2_0, c2_1, c2_2, c2_3⟩ := rw2 (HM.out.at 2 rfl)
  have HK := Lib.hid (HPA.out v4)
  ((try dsimp only); repeat (first | go_values | go_skip | go_guarded | go_step | go_upon))
  refine HK.out.mono ?_
  rintro e w5 ⟨E4, F4, rfl, hq4, hb⟩
  have hm : Bx w.heap.size w (World.alloc w5 (.cells #[.bool (decide (Sa.num < 0)), .slice E4 (qn Sa).length (qn Sa).length, .slice F4 (qd Sa).length (qd Sa).length] 26)) _ _ := ((HM.out.keep hb).alloc (.cells #[.bool (decide (Sa.num < 0)), .slice E4 (qn Sa).length (qn Sa).length, .slice F4 (qd Sa).length (qd Sa).length] 26 (0, 0)))
  clear HK HM hb c0_0 c0_1 c0_2 c0_3 c1_0 c1_1 c1_2 c1_3 c2_0 c2_1 c2_2 c2_3
  have hq6 := (hq4.keep (Keep.of ((Below.refl w5.heap.size w5).alloc (Nat.le_refl _) (.cells #[.bool (decide (Sa.num < 0)), .slice E4 (qn Sa).length (qn Sa).length, .slice F4 (qd Sa).length (qd Sa).length] 26)) (Nat.le_refl _))).wide (lo' := 0) (Nat.zero_le _) ((Below.refl w5.heap.size w5).alloc (Nat.le_refl _) (.cells #[.bool (decide (Sa.num < 0)), .slice E4 (qn Sa).length (qn Sa).length, .slice F4 (qd Sa).length (qd Sa).length] 26)).size
  clear hq4
  go_upto_region 5 with (fail)
  generalize World.alloc w5 _ = v6 at *
  (try simp only [List.nil_append, List.cons_append, World.size_alloc, List.set_cons_zero, List.set_cons_succ, putsC, pB, pC, pD] at hm)
  have HQ3 := Lib.hid (hm.ins 0 rfl)
  have HQ6 := Lib.hid hq6
  have HB6 := Lib.hid hm.m.b
  clear hq6
  have HX0 : Hid (∀ wz : World, Below v6.heap.size v6 wz → wz.heap[w.heap.size]? = some (.cells #[.int .u64 a.1, .int .u64 a.2] 38 (0, 0))) := Lib.hid (fun wz h => (h.block _ (hm.lt 0 rfl)).trans (hm.at 0 rfl))
  have HX1 : Hid (∀ wz : World, Below v6.heap.size v6 wz → wz.heap[w.heap.size + 1]? = some (.cells #[.int .u64 b.1, .int .u64 b.2] 38 (0, 0))) := Lib.hid (fun wz h => (h.block _ (hm.lt 1 rfl)).trans (hm.at 1 rfl))
  have HX2 : Hid (∀ wz : World, Below v6.heap.size v6 wz → wz.heap[w.heap.size + 1 + 1]? = some (.cells #[.int .u64 c.1, .int .u64 c.2] 38 (0, 0))) := Lib.hid (fun wz h => (h.block _ (hm.lt 2 rfl)).trans (hm.at 2 rfl))
  have HX3 : Hid (∀ wz : World, Below v6.heap.size v6 wz → wz.heap[w.heap.size + 1 + 1 + 1]? = some (.cells #[.int .u64 p.1, .int .u64 p.2] 38 (0, 0))) := Lib.hid (fun wz h => (h.block _ (hm.lt 3 rfl)).trans (hm.at 3 rfl))
  have HX5 : Hid (∀ wz : World, Below v6.heap.size v6 wz → wz.heap[w1.heap.size]? = some (.cells #[.int .u64 lx, .int .u64 ly] 38 (0, 0))) := Lib.hid (fun wz h => (h.block _ (hm.lt 5 rfl)).trans (hm.at 5 rfl))
  have HX6 : Hid (∀ wz : World, Below v6.heap.size v6 wz → wz.heap[w1.heap.size + 1]? = some (.cells #[.int .u64 hx, .int .u64 hy] 38 (0, 0))) := Lib.hid (fun wz h => (h.block _ (hm.lt 6 rfl)).trans (hm.at 6 rfl))
  have HX7 : Hid (∀ wz : World, Below v6.heap.size v6 wz → wz.heap[w3.heap.size]? = some (.cells #[.bool (decide (Sa.num < 0)), .slice E3 (qn Sa).length (qn Sa).length, .slice F3 (qd Sa).length (qd Sa).length] 26 (0, 0))) := Lib.hid (fun wz h => (h.block _ (hm.lt 7 rfl)).trans (hm.at 7 rfl))
  have HX8 : Hid (∀ wz : World, Below v6.heap.size v6 wz → wz.heap[w5.heap.size]? = some (.cells #[.bool (decide (Sa.num < 0)), .slice E4 (qn Sa).length (qn Sa).length, .slice F4 (qd Sa).length (qd Sa).length] 26 (0, 0))) := Lib.hid (fun wz h => (h.block _ (hm.lt 8 rfl)).trans (hm.at 8 rfl))
  have HS : Hid (∀ wz : World, Below v6.heap.size v6 wz → PtsAt wz (v.heap.size) 0 (triR a b c) ∧ v.heap.size < wz.heap.size) := Lib.hid (fun wz h => ⟨pts4 ((h.block _ (hm.lt 4 rfl)).trans (hm.at 4 rfl)), Nat.lt_of_lt_of_le (hm.lt 4 rfl) h.size⟩)
  have HSm : Hid (∀ wz : World, Below v6.heap.size v6 wz → Calls Tryz.prog 23 #[.agg #[.bool (decide (Sa.num < 0)), .slice E3 (qn Sa).length (qn Sa).length, .slice F3 (qd Sa).length (qd Sa).length], .agg #[.bool (decide (Sa.num < 0)), .slice E4 (qn Sa).length (qn Sa).length, .slice F4 (qd Sa).length (qd Sa).length]] wz fun e w' => e = .returned (.bool true) ∧ Below wz.heap.size wz w') := Lib.hid (fun wz h => by
    have := lSameRat E3 F3 E4 F4 0 v6.heap.size 0 v6.heap.size Sa wz (HQ3.out.keep (Keep.of h (Nat.le_refl _))) (HQ6.out.keep (Keep.of h (Nat.le_refl _))) h.size h.size HQl.out
    unfold qv at this
    exact this)
  clear hm HQ3 HQ6 HBox HAr HPA
  ((try dsimp only); repeat (first | go_values | go_skip | go_guarded | go_step | go_upon))
  refine (HAl.out _).mono ?_
  rintro e w20 ⟨rfl, hb⟩
  have HK := Lib.hid hb
  clear hb
  ((try dsimp only); repeat (first | go_values | go_skip | go_guarded | go_step | go_upon))
  go_loopw [17] (fun i wr => ∃ k : Nat, i = .int .i64 k ∧ k ≤ 3 ∧ Below v6.heap.size v6 wr) (fun i _ => 3 - (intOf i).toNat)
  case atStart => exact ⟨0, rfl, by omega, HK.out⟩
  case round =>
    obtain ⟨k, rfl, hk, hB⟩ := hrel
    clear HK
    have HK := Lib.hid hB
    clear hB
    by_cases h0 : k < 3
    · as_aux_lemma =>
        have h04 : k < 4 := by omega
        have HRD : Hid (∀ wz : World, Below v6.heap.size v6 wz → wz.cell? ⟨v.heap.size, k * 2, none⟩ = some (.int .u64 ((triR a b c).getD k (0, 0)).1) ∧ wz.cell? ⟨v.heap.size, k * 2 + 1, none⟩ = some (.int .u64 ((triR a b c).getD k (0, 0)).2)) := Lib.hid (fun wz h => by have := (HS.out wz h).1 k h04; rwa [Nat.zero_add] at this)
        obtain ⟨l1, l2, l3, l4⟩ := HL.out k h04
        have HC := Lib.hid (HCm.out k h04)
        generalize (triR a b c).getD k (0, 0) = q at *
        generalize qcmp (fval q.1) (fval lx) = c1 at *
        generalize qcmp (fval q.2) (fval ly) = c2 at *
        generalize qcmp (fval q.1) (fval hx) = c3 at *
        generalize qcmp (fval q.2) (fval hy) = c4 at *
        have hki : (k : Int) < 3 := by omega
        have hki4 : (k : Int) < 4 := by omega
        have HK0 := Lib.hid h0
        go_upto_region 12 with (fail)
        refine start_ (n := 42) (S := fun w' => Below wr.heap.size wr w') (ds := []) (bt 42 0) (by kernel_rfl) rfl rfl ((Below.refl _ _).drew) (fun hHeld => ?_)
        refine pv_ 0 85 ?_
        refine pv_ 1 86 ?_
        refine pv_ 2 87 ?_
        refine pv_ 3 88 ?_
        refine ld_ 4 89 ?_ hHeld ?_ ?_; rotate_left
        · rintro w' hs
          obtain ⟨c0, c1'⟩ := HRD.out _ (HK.out.trans (hs.mono HK.out.size))
          obtain ⟨d0, d1, _, _⟩ := rw2 (HX5.out _ (HK.out.trans (hs.mono HK.out.size)))
          obtain ⟨e0, e1, _, _⟩ := rw2 (HX6.out _ (HK.out.trans (hs.mono HK.out.size)))
          clear hs
          go_simp; with_reducible rfl
        refine pv_ 5 90 ?_
        refine ld_ 6 91 ?_ hHeld ?_ ?_; rotate_left
        · rintro w' hs
          obtain ⟨c0, c1'⟩ := HRD.out _ (HK.out.trans (hs.mono HK.out.size))
          obtain ⟨d0, d1, _, _⟩ := rw2 (HX5.out _ (HK.out.trans (hs.mono HK.out.size)))
          obtain ⟨e0, e1, _, _⟩ := rw2 (HX6.out _ (HK.out.trans (hs.mono HK.out.size)))
          clear hs
          go_simp; with_reducible rfl
        refine ca_ 7 92 Tryz.func34 #[.int .u64 q.1, .int .u64 lx] ?_
        with_reducible refine ((HC.out _).1).mono ?_
        rintro e w' ⟨rfl, rfl⟩
        refine ⟨_, rfl, (by exact hHeld), fun hHeld => ?_⟩
        refine nn ?_
        refine pu 8 93 (.bool false) ?_ rfl rfl (by kernel_rfl) (fun _ _ _ h => h) (by rfl) (fun _ => ?_) ?_ ?_; rotate_left
        · go_simp
          first | done | omega | (simp; omega) | (rw [decide_eq_false l1])
        · simp only [pA, pB, pC, pD, i64_w, i32_w]; rfl
        refine pv_ 9 94 ?_
        refine pv_ 10 95 ?_
        refine pv_ 11 96 ?_
        refine pv_ 12 97 ?_
        refine pv_ 13 98 ?_
        refine ld_ 14 99 ?_ hHeld ?_ ?_; rotate_left
        · rintro w' hs
          obtain ⟨c0, c1'⟩ := HRD.out _ (HK.out.trans (hs.mono HK.out.size))
          obtain ⟨d0, d1, _, _⟩ := rw2 (HX5.out _ (HK.out.trans (hs.mono HK.out.size)))
          obtain ⟨e0, e1, _, _⟩ := rw2 (HX6.out _ (HK.out.trans (hs.mono HK.out.size)))
          clear hs
          go_simp; with_reducible rfl
        refine pv_ 15 100 ?_
        refine ld_ 16 101 ?_ hHeld ?_ ?_; rotate_left
        · rintro w' hs
          obtain ⟨c0, c1'⟩ := HRD.out _ (HK.out.trans (hs.mono HK.out.size))
          obtain ⟨d0, d1, _, _⟩ := rw2 (HX5.out _ (HK.out.trans (hs.mono HK.out.size)))
          obtain ⟨e0, e1, _, _⟩ := rw2 (HX6.out _ (HK.out.trans (hs.mono HK.out.size)))
          clear hs
          go_simp; with_reducible rfl
        refine ca_ 17 102 Tryz.func34 #[.int .u64 q.2, .int .u64 ly] ?_
        with_reducible refine ((HC.out _).2.1).mono ?_
        rintro e w' ⟨rfl, rfl⟩
        refine ⟨_, rfl, (by exact hHeld), fun hHeld => ?_⟩
        refine nn ?_
        refine pu 18 103 (.bool false) ?_ rfl rfl (by kernel_rfl) (fun _ _ _ h => h) (by rfl) (fun _ => ?_) ?_ ?_; rotate_left
        · go_simp
          first | done | omega | (simp; omega) | (rw [decide_eq_false l2])
        · simp only [pA, pB, pC, pD, i64_w, i32_w]; rfl
        refine pv_ 19 104 ?_
        refine pv_ 20 105 ?_
        refine pv_ 21 106 ?_
        refine pv_ 22 107 ?_
        refine pv_ 23 108 ?_
        refine pv_ 24 109 ?_
        refine ld_ 25 110 ?_ hHeld ?_ ?_; rotate_left
        · rintro w' hs
          obtain ⟨c0, c1'⟩ := HRD.out _ (HK.out.trans (hs.mono HK.out.size))
          obtain ⟨d0, d1, _, _⟩ := rw2 (HX5.out _ (HK.out.trans (hs.mono HK.out.size)))
          obtain ⟨e0, e1, _, _⟩ := rw2 (HX6.out _ (HK.out.trans (hs.mono HK.out.size)))
          clear hs
          go_simp; with_reducible rfl
        refine pv_ 26 111 ?_
        refine ld_ 27 112 ?_ hHeld ?_ ?_; rotate_left
        · rintro w' hs
          obtain ⟨c0, c1'⟩ := HRD.out _ (HK.out.trans (hs.mono HK.out.size))
          obtain ⟨d0, d1, _, _⟩ := rw2 (HX5.out _ (HK.out.trans (hs.mono HK.out.size)))
          obtain ⟨e0, e1, _, _⟩ := rw2 (HX6.out _ (HK.out.trans (hs.mono HK.out.size)))
          clear hs
          go_simp; with_reducible rfl
        refine ca_ 28 113 Tryz.func34 #[.int .u64 q.1, .int .u64 hx] ?_
        with_reducible refine ((HC.out _).2.2.1).mono ?_
        rintro e w' ⟨rfl, rfl⟩
        refine ⟨_, rfl, (by exact hHeld), fun hHeld => ?_⟩
        refine nn ?_
        refine pu 29 114 (.bool false) ?_ rfl rfl (by kernel_rfl) (fun _ _ _ h => h) (by rfl) (fun _ => ?_) ?_ ?_; rotate_left
        · go_simp
          first | done | omega | (simp; omega) | (rw [decide_eq_false l3])
        · simp only [pA, pB, pC, pD, i64_w, i32_w]; rfl
        refine pv_ 30 115 ?_
        refine pv_ 31 116 ?_
        refine pv_ 32 117 ?_
        refine pv_ 33 118 ?_
        refine pv_ 34 119 ?_
        refine pv_ 35 120 ?_
        refine ld_ 36 121 ?_ hHeld ?_ ?_; rotate_left
        · rintro w' hs
          obtain ⟨c0, c1'⟩ := HRD.out _ (HK.out.trans (hs.mono HK.out.size))
          obtain ⟨d0, d1, _, _⟩ := rw2 (HX5.out _ (HK.out.trans (hs.mono HK.out.size)))
          obtain ⟨e0, e1, _, _⟩ := rw2 (HX6.out _ (HK.out.trans (hs.mono HK.out.size)))
          clear hs
          go_simp; with_reducible rfl
        refine pv_ 37 122 ?_
        refine ld_ 38 123 ?_ hHeld ?_ ?_; rotate_left
        · rintro w' hs
          obtain ⟨c0, c1'⟩ := HRD.out _ (HK.out.trans (hs.mono HK.out.size))
          obtain ⟨d0, d1, _, _⟩ := rw2 (HX5.out _ (HK.out.trans (hs.mono HK.out.size)))
          obtain ⟨e0, e1, _, _⟩ := rw2 (HX6.out _ (HK.out.trans (hs.mono HK.out.size)))
          clear hs
          go_simp; with_reducible rfl
        refine ca_ 39 124 Tryz.func34 #[.int .u64 q.2, .int .u64 hy] ?_
        with_reducible refine ((HC.out _).2.2.2).mono ?_
        rintro e w' ⟨rfl, rfl⟩
        refine ⟨_, rfl, (by exact hHeld), fun hHeld => ?_⟩
        refine nn ?_
        refine pu 40 125 (.bool false) ?_ rfl rfl (by kernel_rfl) (fun _ _ _ h => h) (by rfl) (fun _ => ?_) ?_ ?_; rotate_left
        · go_simp
          first | done | omega | (simp; omega) | (rw [decide_eq_false l4])
        · simp only [pA, pB, pC, pD, i64_w, i32_w]; rfl
        refine pv_ 41 126 ?_
        refine done_ (by kernel_rfl) ?_
        have HE := Lib.hid (HK.out.trans (hHeld.mono HK.out.size))
        clear hHeld
        ((try dsimp only); repeat (first | go_values | go_skip | go_guarded | go_step | go_upon))
        have hk0 := HK0.out
        exact ⟨⟨k + 1, vint (by omega), by omega, HE.out⟩, by simp [intOf]; omega⟩
    · obtain rfl : k = 3 := by omega
      clear hk h0 HL HCm
      ((try dsimp only); repeat (first | go_values | go_skip | go_guarded | go_step | go_upon))
      refine (HTn.out _ _ (HS.out _ HK.out).1 (HS.out _ HK.out).2).mono ?_
      rintro e w30 ⟨rfl, hb⟩
      have hk := HK.out.trans (hb.mono HK.out.size)
      clear HK hb 
      have HK := Lib.hid hk
      clear hk
      obtain ⟨z0_0, z0_1, z0_2, z0_3⟩ := rw2 (HX0.out _ HK.out)
      obtain ⟨z1_0, z1_1, z1_2, z1_3⟩ := rw2 (HX1.out _ HK.out)
      obtain ⟨z2_0, z2_1, z2_2, z2_3⟩ := rw2 (HX2.out _ HK.out)
      ((try dsimp only); repeat (first | go_values | go_skip | go_guarded | go_step | go_upon))
      refine (HOr.out _).mono ?_
      rintro e w31 ⟨rfl, hb⟩
      have hk := HK.out.trans (hb.mono HK.out.size)
      clear HK hb z0_0 z0_1 z0_2 z0_3 z1_0 z1_1 z1_2 z1_3 z2_0 z2_1 z2_2 z2_3
      have HK := Lib.hid hk
      clear hk
      by_cases fp : FinP p
      · as_aux_lemma =>
          have hse : (sideV (triR a b c) p).2 = 0 := by rw [side_err, HCk.out, if_pos ((fin_one HU3.out.2.2.2).2 fp)]
          have HO1 := Lib.hid (fun wz => pOrient a b p wz HF3.out.1 HF3.out.2.1 fp)
          have HO2 := Lib.hid (fun wz => pOrient b c p wz HF3.out.2.1 HF3.out.2.2 fp)
          have HO3 := Lib.hid (fun wz => pOrient c a p wz HF3.out.2.2 HF3.out.1 fp)
          have HEd : Hid (sideP a b c ≠ 0 → endB (sideV (triR a b c) p).1 (sideP a b p) (sideP b c p) (sideP c a p) (sideP a b c) = true) := Lib.hid (fun h => tri_end (by rw [HCk.out, if_pos ((fin_one HU3.out.2.2.2).2 fp)]) h)
          have cI : (sideV (triR a b c) p).1 = -1 ∨ (sideV (triR a b c) p).1 = 0 ∨ (sideV (triR a b c) p).1 = 1 := by unfold sideV; split; exact Or.inr (Or.inl rfl); split; exact Or.inr (Or.inl rfl); split; exact Or.inr (Or.inr rfl); exact Or.inl rfl
          have cO : sideP a b c = -1 ∨ sideP a b c = 0 ∨ sideP a b c = 1 := qsgn_cases _
          have cU : sideP a b p = -1 ∨ sideP a b p = 0 ∨ sideP a b p = 1 := qsgn_cases _
          have cV : sideP b c p = -1 ∨ sideP b c p = 0 ∨ sideP b c p = 1 := qsgn_cases _
          have cW : sideP c a p = -1 ∨ sideP c a p = 0 ∨ sideP c a p = 1 := qsgn_cases _
          have HCs := Lib.hid (And.intro cI (And.intro cO (And.intro cU (And.intro cV cW))))
          clear cI cO cU cV cW
          generalize sideP a b c = ov at *
          generalize sideP a b p = u at *
          generalize sideP b c p = vv at *
          generalize sideP c a p = x at *
          generalize sideV (triR a b c) p = SV at *
          obtain ⟨inn, se⟩ := SV
          dsimp only at hse HSd HEd HCs
          subst hse
          obtain ⟨z3_0, z3_1, z3_2, z3_3⟩ := rw2 (HX3.out _ HK.out)
          ((try dsimp only); repeat (first | go_values | go_skip | go_guarded | go_step | go_upon))
          refine (HSd.out _ _ (HS.out _ HK.out).1 (HS.out _ HK.out).2).mono ?_
          rintro e w32 ⟨rfl, hb⟩
          have hk := HK.out.trans (hb.mono HK.out.size)
          clear HK hb z3_0 z3_1 z3_2 z3_3
          have HK := Lib.hid hk
          clear hk
          obtain ⟨z0_0, z0_1, z0_2, z0_3⟩ := rw2 (HX0.out _ HK.out)
          obtain ⟨z1_0, z1_1, z1_2, z1_3⟩ := rw2 (HX1.out _ HK.out)
          obtain ⟨z3_0, z3_1, z3_2, z3_3⟩ := rw2 (HX3.out _ HK.out)
          ((try dsimp only); repeat (first | go_values | go_skip | go_guarded | go_step | go_upon))
          refine (HO1.out _).mono ?_
          rintro e w33 ⟨rfl, hb⟩
          have hk := HK.out.trans (hb.mono HK.out.size)
          clear HK hb z0_0 z0_1 z0_2 z0_3 z1_0 z1_1 z1_2 z1_3 z3_0 z3_1 z3_2 z3_3
          have HK := Lib.hid hk
          clear hk
          obtain ⟨z1_0, z1_1, z1_2, z1_3⟩ := rw2 (HX1.out _ HK.out)
          obtain ⟨z2_0, z2_1, z2_2, z2_3⟩ := rw2 (HX2.out _ HK.out)
          obtain ⟨z3_0, z3_1, z3_2, z3_3⟩ := rw2 (HX3.out _ HK.out)
          ((try dsimp only); repeat (first | go_values | go_skip | go_guarded | go_step | go_upon))
          refine (HO2.out _).mono ?_
          rintro e w34 ⟨rfl, hb⟩
          have hk := HK.out.trans (hb.mono HK.out.size)
          clear HK hb z1_0 z1_1 z1_2 z1_3 z2_0 z2_1 z2_2 z2_3 z3_0 z3_1 z3_2 z3_3
          have HK := Lib.hid hk
          clear hk
          obtain ⟨z2_0, z2_1, z2_2, z2_3⟩ := rw2 (HX2.out _ HK.out)
          obtain ⟨z0_0, z0_1, z0_2, z0_3⟩ := rw2 (HX0.out _ HK.out)
          obtain ⟨z3_0, z3_1, z3_2, z3_3⟩ := rw2 (HX3.out _ HK.out)
          ((try dsimp only); repeat (first | go_values | go_skip | go_guarded | go_step | go_upon))
          refine (HO3.out _).mono ?_
          rintro e w35 ⟨rfl, hb⟩
          have hk := HK.out.trans (hb.mono HK.out.size)
          clear HK hb z2_0 z2_1 z2_2 z2_3 z0_0 z0_1 z0_2 z0_3 z3_0 z3_1 z3_2 z3_3
          have HK := Lib.hid hk
          clear hk
          obtain ⟨z7_0, z7_1, z7_2, z7_3, z7_4, z7_5⟩ := rw3 (HX7.out _ HK.out)
          obtain ⟨z8_0, z8_1, z8_2, z8_3, z8_4, z8_5⟩ := rw3 (HX8.out _ HK.out)
          ((try dsimp only); repeat (first | go_values | go_skip | go_guarded | go_step | go_upon))
          refine (HSm.out _ HK.out).mono ?_
          rintro e w36 ⟨rfl, hb⟩
          have hk := HK.out.trans (hb.mono HK.out.size)
          clear HK hb z7_0 z7_1 z7_2 z7_3 z7_4 z7_5 z8_0 z8_1 z8_2 z8_3 z8_4 z8_5
          have HK := Lib.hid hk
          clear hk
          obtain ⟨cI, cO, cU, cV, cW⟩ := HCs.out
          have hE := HEd.out
          clear HCs HEd HX0 HX1 HX2 HX3 HX5 HX6 HX7 HX8 HS HSm HTn HSd HOr HO1 HO2 HO3 HAl HCk HF3 HU3 HQl
          rcases cO with rfl | rfl | rfl
          · as_aux_lemma =>
              rcases cI with rfl | rfl | rfl <;> rcases cU with rfl | rfl | rfl <;> rcases cV with rfl | rfl | rfl <;> rcases cW with rfl | rfl | rfl
              all_goals first
                | exact absurd (hE (by decide)) (by decide)
                | (clear hE; ((try dsimp only); repeat (first | go_values | go_skip | go_guarded | go_step | go_upon)); go_ret; exact ⟨rfl, HB6.out.trans (HK.out.mono HB6.out.size)⟩)
          · ((try dsimp only); repeat (first | go_values | go_skip | go_guarded | go_step | go_upon))
            go_ret
            exact ⟨rfl, HB6.out.trans (HK.out.mono HB6.out.size)⟩
          · as_aux_lemma =>
              rcases cI with rfl | rfl | rfl <;> rcases cU with rfl | rfl | rfl <;> rcases cV with rfl | rfl | rfl <;> rcases cW with rfl | rfl | rfl
              all_goals first
                | exact absurd (hE (by decide)) (by decide)
                | (clear hE; ((try dsimp only); repeat (first | go_values | go_skip | go_guarded | go_step | go_upon)); go_ret; exact ⟨rfl, HB6.out.trans (HK.out.mono HB6.out.size)⟩)
      · as_aux_lemma =>
          have hse : (sideV (triR a b c) p).2 = 220 := by rw [side_err, HCk.out, if_neg (fun h => fp ((fin_one HU3.out.2.2.2).1 h))]
          have hsi : (sideV (triR a b c) p).1 = 0 := side_zero (by rw [hse]; decide)
          have HO1 := Lib.hid (fun wz => pOrientNo a b p wz HU3.out.1 HU3.out.2.1 HU3.out.2.2.2 (fun h => fp h.2.2))
          have HO2 := Lib.hid (fun wz => pOrientNo b c p wz HU3.out.2.1 HU3.out.2.2.1 HU3.out.2.2.2 (fun h => fp h.2.2))
          have HO3 := Lib.hid (fun wz => pOrientNo c a p wz HU3.out.2.2.1 HU3.out.1 HU3.out.2.2.2 (fun h => fp h.2.2))
          generalize sideP a b c = ov at *
          generalize sideV (triR a b c) p = SV at *
          obtain ⟨inn, se⟩ := SV
          dsimp only at hse hsi HSd
          subst hse hsi
          obtain ⟨z3_0, z3_1, z3_2, z3_3⟩ := rw2 (HX3.out _ HK.out)
          ((try dsimp only); repeat (first | go_values | go_skip | go_guarded | go_step | go_upon))
          refine (HSd.out _ _ (HS.out _ HK.out).1 (HS.out _ HK.out).2).mono ?_
          rintro e w37 ⟨rfl, hb⟩
          have hk := HK.out.trans (hb.mono HK.out.size)
          clear HK hb z3_0 z3_1 z3_2 z3_3
          have HK := Lib.hid hk
          clear hk
          obtain ⟨z0_0, z0_1, z0_2, z0_3⟩ := rw2 (HX0.out _ HK.out)
          obtain ⟨z1_0, z1_1, z1_2, z1_3⟩ := rw2 (HX1.out _ HK.out)
          obtain ⟨z3_0, z3_1, z3_2, z3_3⟩ := rw2 (HX3.out _ HK.out)
          ((try dsimp only); repeat (first | go_values | go_skip | go_guarded | go_step | go_upon))
          refine (HO1.out _).mono ?_
          rintro e w38 ⟨rfl, hb⟩
          have hk := HK.out.trans (hb.mono HK.out.size)
          clear HK hb z0_0 z0_1 z0_2 z0_3 z1_0 z1_1 z1_2 z1_3 z3_0 z3_1 z3_2 z3_3
          have HK := Lib.hid hk
          clear hk
          obtain ⟨z1_0, z1_1, z1_2, z1_3⟩ := rw2 (HX1.out _ HK.out)
          obtain ⟨z2_0, z2_1, z2_2, z2_3⟩ := rw2 (HX2.out _ HK.out)
          obtain ⟨z3_0, z3_1, z3_2, z3_3⟩ := rw2 (HX3.out _ HK.out)
          ((try dsimp only); repeat (first | go_values | go_skip | go_guarded | go_step | go_upon))
          refine (HO2.out _).mono ?_
          rintro e w39 ⟨rfl, hb⟩
          have hk := HK.out.trans (hb.mono HK.out.size)
          clear HK hb z1_0 z1_1 z1_2 z1_3 z2_0 z2_1 z2_2 z2_3 z3_0 z3_1 z3_2 z3_3
          have HK := Lib.hid hk
          clear hk
          obtain ⟨z2_0, z2_1, z2_2, z2_3⟩ := rw2 (HX2.out _ HK.out)
          obtain ⟨z0_0, z0_1, z0_2, z0_3⟩ := rw2 (HX0.out _ HK.out)
          obtain ⟨z3_0, z3_1, z3_2, z3_3⟩ := rw2 (HX3.out _ HK.out)
          ((try dsimp only); repeat (first | go_values | go_skip | go_guarded | go_step | go_upon))
          refine (HO3.out _).mono ?_
          rintro e w40 ⟨rfl, hb⟩
          have hk := HK.out.trans (hb.mono HK.out.size)
          clear HK hb z2_0 z2_1 z2_2 z2_3 z0_0 z0_1 z0_2 z0_3 z3_0 z3_1 z3_2 z3_3
          have HK := Lib.hid hk
          clear hk
          obtain ⟨z7_0, z7_1, z7_2, z7_3, z7_4, z7_5⟩ := rw3 (HX7.out _ HK.out)
          obtain ⟨z8_0, z8_1, z8_2, z8_3, z8_4, z8_5⟩ := rw3 (HX8.out _ HK.out)
          ((try dsimp only); repeat (first | go_values | go_skip | go_guarded | go_step | go_upon))
          refine (HSm.out _ HK.out).mono ?_
          rintro e w41 ⟨rfl, hb⟩
          have hk := HK.out.trans (hb.mono HK.out.size)
          clear HK hb z7_0 z7_1 z7_2 z7_3 z7_4 z7_5 z8_0 z8_1 z8_2 z8_3 z8_4 z8_5
          have HK := Lib.hid hk
          clear hk
          ((try dsimp only); repeat (first | go_values | go_skip | go_guarded | go_step | go_upon))
          go_ret
          exact ⟨rfl, HB6.out.trans (HK.out.mono HB6.out.size)⟩
set_option maxRecDepth 100000 in
theorem lCorners (a b c p : Pt) (w : World) (ua : PtU a) (ub : PtU b) (uc : PtU c) (up : PtU p) :
    Calls Tryz.prog 8 #[.agg #[.int .u64 a.1, .int .u64 a.2], .agg #[.int .u64 b.1, .int .u64 b.2], .agg #[.int .u64 c.1, .int .u64 c.2], .agg #[.int .u64 p.1, .int .u64 p.2]] w fun e w' => e = .returned (.bool true) ∧ Below w.heap.size w w' := by
  by_cases h : FinP a ∧ FinP b ∧ FinP c
  · exact lCornersFin a b c p w ua ub uc up h.1 h.2.1 h.2.2
  · exact lCornersNo a b c p w ua ub uc up h
end Go.Proofs.YtfpofmifmapmfaaGreatDoor

namespace Go.Proofs.YtfpofmifmapmfaaGreatDoor
open Go Go.ChangeShapes Go.WideShapes Go.ChangeAt Go.RowKit
set_option linter.unusedVariables false
set_option linter.unusedSimpArgs false
set_option maxRecDepth 100000
theorem row_own : ownKnob Tryz.prog.godebug = none := by kernel_rfl
theorem row_laidOut : laidOutB Tryz.prog = true := by kernel_rfl
theorem door_met (os : Os) (args : Array Value) : laidMetH Tryz.prog [("plumb/near.stays", Rows.laid_plumb_near_stays)] ((World.doorLaid Tryz.prog 400 os).forCall (fun _ _ => 0) ⟨#[], args, []⟩).memory :=
  laidMetH_of_parts3 (fuel := 8) (laidMet_of_run' 8 (by kernel_rfl) (by kernel_rfl)) (by kernel_rfl) (by kernel_rfl)
section
variable {H : Type} {enc : TypeId × Value → H} {w : World} {base : Nat} {spare : Nat → Bool} {held : Bool} {fuel : Nat}
theorem open_word {cs : List Value} {x : DataW H × List MemPlace} (h : DataW.trod enc Tryz.prog w base spare held fuel 36 cs = some x) : ∃ n, cs = [.int .u64 n] ∧ U64 n := by
  obtain ⟨n, h1, h2, h3⟩ := DataW.trod_int Tryz.underlying36 h
  refine ⟨n, h1, ?_⟩
  unfold Lit.wf at h3
  simp only [Bool.and_eq_true, decide_eq_true_eq] at h3
  exact h3
theorem open_point {cs : List Value} {x : DataW H × List MemPlace} (h : DataW.trod enc Tryz.prog w base spare held fuel 38 cs = some x) : ∃ p : Pt, cs = [.int .u64 p.1, .int .u64 p.2] ∧ PtU p := by
  obtain ⟨xs, n, _, _, hl, hx, hf⟩ := DataW.trod_struct Tryz.underlying38 h
  have c1 : Tryz.prog.cellsOf 38 = 2 := by kernel_rfl
  have c2 : Tryz.prog.cellsOf 36 = 1 := by kernel_rfl
  rw [c1] at hl
  match cs, hl with
  | [u, v], _ =>
    match xs, hx with
    | [y0, y1], _ =>
      have h0 : DataW.trod enc Tryz.prog w base spare held n 36 (List.take (Tryz.prog.cellsOf 36) (List.drop 0 [u, v])) = some y0 := hf 0 _ rfl
      have h1 : DataW.trod enc Tryz.prog w base spare held n 36 (List.take (Tryz.prog.cellsOf 36) (List.drop 1 [u, v])) = some y1 := hf 1 _ rfl
      rw [c2] at h0 h1
      obtain ⟨a, ha, ua⟩ := open_word (show DataW.trod enc Tryz.prog w base spare held n 36 [u] = some y0 from h0)
      obtain ⟨b, hb, ub⟩ := open_word (show DataW.trod enc Tryz.prog w base spare held n 36 [v] = some y1 from h1)
      cases ha
      cases hb
      exact ⟨(a, b), rfl, ua, ub⟩
theorem open_int {cs : List Value} {x : DataW H × List MemPlace} (h : DataW.trod enc Tryz.prog w base spare held fuel 3 cs = some x) : ∃ n : Int, cs = [.int .i64 n] ∧ -9223372036854775808 ≤ n ∧ n ≤ 9223372036854775807 := by
  obtain ⟨n, h1, h2, h3⟩ := DataW.trod_int Tryz.underlying3 h
  refine ⟨n, h1, ?_⟩
  unfold Lit.wf at h3
  simp only [Bool.and_eq_true, decide_eq_true_eq] at h3
  exact h3
theorem open_ptv {r : Reach} {b0 : Nat} {v : Value} {d : DataW H} {p : List MemPlace} (hv : Value.okWide Tryz.prog w r b0 38 v) (h : DataW.Trod enc Tryz.prog w base spare held 38 v d p) :
    ∃ a : Pt, v = .agg #[.int .u64 a.1, .int .u64 a.2] ∧ PtU a := by
  obtain ⟨cs, rfl, hsz⟩ := okWide_struct Tryz.underlying38 hv
  obtain ⟨l⟩ := cs
  have c1 : Tryz.prog.cellsOf 38 = 2 := by kernel_rfl
  obtain ⟨fuel, hf⟩ := h
  rw [c1] at hsz
  match l, hsz with
  | [v0, v1], _ =>
    obtain ⟨a, ha, ua⟩ := open_point (show DataW.trod enc Tryz.prog w base spare held fuel 38 [v0, v1] = some (d, p) from hf)
    cases ha
    exact ⟨a, rfl, ua⟩
theorem open_pts {r : Reach} {b0 : Nat} {v : Value} {d : DataW H} {p : List MemPlace} (hv : Value.okWide Tryz.prog w r b0 22 v) (h : DataW.Trod enc Tryz.prog w base spare held 22 v d p) :
    ∃ (A : Option Addr) (c : Nat) (qs : List Pt), v = .slice A qs.length c ∧ PtsIn w A qs ∧ qs.length ≤ 9223372036854775807 ∧ (∀ p ∈ qs, PtU p) ∧ (qs.length = 0 ∨ ∃ es sp, d = .slice es sp ∧ es.length = qs.length) := by
  obtain ⟨A, len, cap, rfl⟩ := okWide_slice Tryz.underlying22 hv
  have c2 : Tryz.prog.cellsOf 38 = 2 := by kernel_rfl
  obtain ⟨fuel, hf⟩ := h
  rcases Deep.open_slice Tryz.underlying22 (show DataW.trod enc Tryz.prog w base spare held fuel 22 [.slice A len cap] = some (d, p) from hf) with ⟨e, _⟩ | ⟨a, len', cap', m, n, D, Pl, e, hb, hl, hm, hmm, hxe, hx⟩
  · cases e
    exact ⟨none, 0, [], rfl, Or.inl rfl, by decide, (fun p hp => by cases hp), Or.inl rfl⟩
  · cases e
    have hlm : len ≤ m := by rw [hmm]; split <;> omega
    have hpt : ∀ i, i < len → ∃ q : Pt, w.cells? base (a.add (i * 2)) 2 = some [.int .u64 q.1, .int .u64 q.2] ∧ PtU q := by
      intro i hi
      obtain ⟨cs', h1, h2⟩ := hx i (by omega)
      rw [c2] at h1
      obtain ⟨q, rfl, hq⟩ := open_point h2
      exact ⟨q, h1, hq⟩
    obtain ⟨f, hf⟩ := Deep.choose_lt hpt
    have hlen : ((List.range len).map f).length = len := by simp
    have hget : ∀ i, i < len → ((List.range len).map f).getD i (0, 0) = f i := by
      intro i hi
      rw [List.getD_eq_getElem?_getD]
      simp [hi]
    refine ⟨some a, cap, (List.range len).map f, by rw [hlen], ?_, ?_, ?_, Or.inr ⟨_, _, (Prod.mk.inj hxe).1, by simp⟩⟩
    · by_cases h0 : len = 0
      · left; exact List.eq_nil_of_length_eq_zero (by rw [hlen, h0])
      · right
        have h1 := (World.cells?_some (hf 0 (by omega)).1).2.2 0 (by decide)
        have ha : a.add (0 * 2) = a := by simp [Addr.add]
        rw [ha] at h1
        have ha0 : a.add 0 = a := by simp [Addr.add]
        rw [ha0] at h1
        obtain ⟨b, o, s⟩ := a
        cases s with
        | some s =>
          exfalso
          simp only [World.cell?] at h1
          split at h1
          · simp at h1
          · cases h1
        | none =>
          refine ⟨b, o, rfl, ?_, fun i hi => ?_⟩
          · have hh : w.cell? ⟨b, o, none⟩ ≠ none := by rw [h1]; simp
            refine Nat.lt_of_not_le fun hge => hh ?_
            simp only [World.cell?]
            rw [Array.getElem?_eq_none hge]
          · rw [hlen] at hi
            have k := (World.cells?_some (hf i hi).1).2.2
            have k0 := k 0 (by decide)
            have k1 := k 1 (by decide)
            rw [Deep.add_add] at k0 k1
            have e : ∀ j, (⟨b, o, none⟩ : Addr).add j = ⟨b, o + j, none⟩ := by
              intro j
              unfold Addr.add
              split
              · rename_i h; simp [h]
              · rfl
            rw [e] at k0 k1
            rw [hget i hi]
            exact ⟨k0, by rw [Nat.add_assoc]; exact k1⟩
    · rw [hlen]
      unfold maxLen at hm
      omega
    · intro q hq
      obtain ⟨i, hi, rfl⟩ := List.mem_map.1 hq
      exact (hf i (List.mem_range.1 hi)).2
theorem pts_len {ts : List TypeId} {ds : List (DataW H)} (h : (DataW.weightsEach Tryz.prog ts ds).all (· ≤ reachBytes) = true) {j : Nat} {d : DataW H} {qs : List Pt} (ht : ts[j]? = some 22) (hd : ds[j]? = some d)
    (hs : qs.length = 0 ∨ ∃ es sp, d = .slice es sp ∧ es.length = qs.length) : qs.length ≤ 8796093022208 := by
  rcases hs with e | ⟨es, sp, rfl, e⟩
  · omega
  · have := sized_slice h ht hd Tryz.underlying22
    have hb : Tryz.prog.bytesOf 38 = 16 := by kernel_rfl
    rw [hb] at this
    simp only [reachBytes] at this
    omega
end
theorem post_true {H : Type} {enc : TypeId × Value → H} {f : Func} {s : ChangeSpec} {apart fresh handsOn : Bool} {W W' : World} {args : Array Value} {ds : List (DataW H)} {before : List MemPlace}
    (hv : s.vars = []) (hs : s.fn H ds = { results := [.lit (.bool true)], args := ds }) (hr : f.resultTypes = #[4])
    (hW : DataW.Whole enc Tryz.prog f.params.toList s.vars apart W args.toList ds [] before) (hb : Below W.heap.size W W')
    (hst : ∀ sp : Nat → Bool, (∀ p ∈ before, sp p.block = true) → DataW.TrodAll enc Tryz.prog W' 0 sp true f.params.toList args.toList ds before) :
    s.post enc Tryz.prog f apart fresh handsOn false W args (.bool true) W' := by
  have below : ∀ p ∈ before, p.block < W.heap.size := fun p hp => hW.lt p hp
  have kept := hb.frame (· ∈ before)
  have fn0 : s.fn H (ds ++ []) = { results := [.lit (.bool true)], args := ds } := by rw [List.append_nil]; exact hs
  have res : ∀ (b : Nat) (sp : Nat → Bool) (hd : Bool), DataW.TrodAll enc Tryz.prog W' b sp hd f.resultTypes.toList ((Value.bool true).resultList f.resultTypes.size) (s.fn H (ds ++ [])).results [] := by
    intro b sp hd
    rw [fn0, hr]
    exact trodAll_mk1 (shut_bool Tryz.underlying4 _)
  have arg : ∀ sp : Nat → Bool, (∀ p ∈ before, sp p.block = true) → DataW.TrodAll enc Tryz.prog W' 0 sp true f.params.toList args.toList (s.fn H (ds ++ [])).args before := by
    intro sp h
    rw [fn0]
    exact hst sp h
  have vars : ∀ sp : Nat → Bool, DataW.TrodVars enc Tryz.prog W' sp s.vars (s.fn H (ds ++ [])).vars [] := by
    intro sp
    rw [fn0, hv]
    trivial
  refine ⟨ds, [], before, [], before, [], hW, res _ _ _, arg _ (fun p hp => by simpa using below p hp), vars _, World.keptBut_mono (fun p hp => ⟨hp, Or.inr (Or.inl hp)⟩) kept, fun h => by cases h⟩
end Go.Proofs.YtfpofmifmapmfaaGreatDoor

namespace Go.Proofs.YtfpofmifmapmfaaGreatDoor
open Go Go.ChangeShapes Go.WideShapes Go.ChangeAt Go.RowKit
set_option linter.unusedVariables false
set_option linter.unusedSimpArgs false
set_option maxRecDepth 100000 in
theorem ringCorners_lifted (os : Os) (started : os.Started) (H : Type) (enc : TypeId × Value → H) :
    ReturnsInHanded {} Tryz.checked os 8 .any (fun w args => (Rows.ringCornersSpec.pre enc Tryz.prog Tryz.f8 [] false w args ∧ laidMetH Tryz.prog [("plumb/near.stays", Rows.laid_plumb_near_stays)] w) ∧ sizedMet enc Tryz.prog Tryz.f8 (OpenSpec.ofChange Rows.ringCornersSpec) false w args)
      (Rows.ringCornersSpec.post enc Tryz.prog Tryz.f8 false true false false) := by
  refine returnsInHanded_of_change_and (C := Tryz.checked) (X := fun w _ => laidMetH Tryz.prog [("plumb/near.stays", Rows.laid_plumb_near_stays)] w) (fun _ _ _ hh h => h.of_heap hh) row_own started (by kernel_rfl) Tryz.func8
    (ChangeSpec.witness_shaped (enc := enc) (C := Tryz.checked) (os := os) (X := fun w _ => laidMetH Tryz.prog [("plumb/near.stays", Rows.laid_plumb_near_stays)] w) false (World.doorLaid Tryz.prog 400 os) #[.agg #[.int .u64 0, .int .u64 0], .agg #[.int .u64 0, .int .u64 0], .agg #[.int .u64 0, .int .u64 0], .agg #[.int .u64 0, .int .u64 0]] 8 rfl (World.shaped_of_RefB (by kernel_rfl) (by kernel_rfl)) (by kernel_rfl) (by kernel_rfl) (by kernel_rfl) (door_met os _)) ?_
  intro W base args ds gs before hval0 hW _ hsz0 _ _
  have hsz : (DataW.weightsEach Tryz.prog (Tryz.f8.params.toList ++ Rows.ringCornersSpec.plain.varTypes Tryz.prog) (ds ++ gs)).all (· ≤ reachBytes) = true := hsz0
  have hval : ∀ (j : Nat) t v, Tryz.f8.params[j]? = some t → args[j]? = some v → Value.okWide Tryz.prog W .any base t v := hval0
  have hW' := hW
  obtain ⟨p, q, hA0, hV, rfl, hfz, hnd⟩ := hW
  have hA : DataW.TrodAll enc Tryz.prog W 0 (fun _ => true) true Tryz.f8.params.toList args.toList ds p := hA0
  rw [Tryz.params8] at hA hval hsz
  obtain ⟨v0, v1, v2, v3, d0, d1, d2, d3, p0, p1, p2, p3, hargs, hds, hps, h0, h1, h2, h3⟩ := trodAll_four hA
  obtain ⟨rfl, rfl⟩ := trodVars_none hV
  subst hargs hds hps
  obtain ⟨q0, rfl, hu0⟩ := open_ptv (hval 0 38 v0 rfl rfl) h0
  obtain ⟨q1, rfl, hu1⟩ := open_ptv (hval 1 38 v1 rfl rfl) h1
  obtain ⟨q2, rfl, hu2⟩ := open_ptv (hval 2 38 v2 rfl rfl) h2
  obtain ⟨q3, rfl, hu3⟩ := open_ptv (hval 3 38 v3 rfl rfl) h3
  simp only [List.append_nil] at hW'
  refine (lCorners q0 q1 q2 q3 W hu0 hu1 hu2 hu3).mono fun x W' ⟨hx, hb⟩ => ?_
  subst hx
  refine ⟨_, rfl, post_true rfl rfl rfl hW' hb (fun sp hsp => ?_)⟩
  rw [Tryz.params8]
  have hlt : ∀ x ∈ p0 ++ p1 ++ p2 ++ p3, x.block < W.heap.size := fun x hx => hW'.lt x hx
  have hmk := trodAll_mk4
    (WideElems.Trod_stays row_laidOut (by kernel_rfl) (of_decide_eq_true (by kernel_rfl)) h0 (fun x hx => hb.same (hlt x (List.mem_append_left _ (List.mem_append_left _ (List.mem_append_left _ hx))))) (fun x hx => hsp x (List.mem_append_left _ (List.mem_append_left _ (List.mem_append_left _ hx)))))
    (WideElems.Trod_stays row_laidOut (by kernel_rfl) (of_decide_eq_true (by kernel_rfl)) h1 (fun x hx => hb.same (hlt x (List.mem_append_left _ (List.mem_append_left _ (List.mem_append_right _ hx))))) (fun x hx => hsp x (List.mem_append_left _ (List.mem_append_left _ (List.mem_append_right _ hx)))))
    (WideElems.Trod_stays row_laidOut (by kernel_rfl) (of_decide_eq_true (by kernel_rfl)) h2 (fun x hx => hb.same (hlt x (List.mem_append_left _ (List.mem_append_right _ hx)))) (fun x hx => hsp x (List.mem_append_left _ (List.mem_append_right _ hx))))
    (WideElems.Trod_stays row_laidOut (by kernel_rfl) (of_decide_eq_true (by kernel_rfl)) h3 (fun x hx => hb.same (hlt x (List.mem_append_right _ hx))) (fun x hx => hsp x (List.mem_append_right _ hx)))
  simpa only [List.append_assoc] using hmk
theorem ringCorners_said : Rows.RingCornersSaid :=
  OpenClaim.holds_of_wide 8 Tryz.f8 rfl rfl rfl rfl rfl rfl rfl ⟨rfl, rfl, rfl, rfl, rfl⟩ rfl rfl rfl rfl rfl (by kernel_rfl) Tryz.func8 (by kernel_rfl)
    (of_decide_eq_true (by kernel_rfl)) (by unfold Func.isWrapper; first | (rw [if_pos (by decide +kernel)]; kernel_rfl) | (rw [if_neg (by decide +kernel)]; exact ⟨rfl, rfl⟩))
    (fun os started H enc _ => ringCorners_lifted os started H enc)
theorem ringCorners_holds : Rows.RingCornersCardSaid :=
  Claim7.holds_tied_plain_at .later [] [.data] true (true, "f777712a3cb00256777b380c3964cedb2e32d925b7296fdfab4ba2994e78b29d") true
    ringCorners_said (fun _ h => by cases h) (by kernel_rfl) (fun _ h => by cases h) ringCorners_row_tie rfl ⟨rfl, rfl⟩ (by kernel_rfl) rfl
    (fun f fn hf hfn => by
      obtain rfl : f = 8 := Option.some.inj ((show Tryz.prog.funcNamed "plumb/plumblaw24.RingCorners" = some 8 by kernel_rfl).symm.trans hf) |>.symm
      obtain rfl : fn = Tryz.f8 := (Option.some.inj (Tryz.func8.symm.trans hfn)).symm
      exact ⟨by kernel_rfl, fun j t ht => by
        rw [Tryz.params8] at ht
        have hm : t ∈ [38, 38, 38, 38] := by simpa using Array.mem_of_getElem? ht
        have hall : ([38, 38, 38, 38].all fun u => !Tryz.prog.wantsStandIn u) = true := by kernel_rfl
        exact (show Tryz.prog.wantsStandIn t = false by simpa using List.all_eq_true.1 hall t hm)⟩)
    (by kernel_rfl)
end Go.Proofs.YtfpofmifmapmfaaGreatDoor
