/- Package rat: Int of any number. -/
import Derived.Test.YtfpofmifmapmfaaGreatDoorRE
import Derived.Test.YtfpofmifmapmfaaGreatDoorRD
import Derived.Test.YtfpofmifmapmfaaGreatDoorRC
import Derived.Test.YtfpofmifmapmfaaGreatDoorKD
namespace Go.Proofs.YtfpofmifmapmfaaGreatDoor
open Go.RowKit Go.Proofs.YtfpofmifmapmfaaGreatDoorW.PrintLast
set_option linter.unusedVariables false
set_option linter.unusedSimpArgs false
def litI (v : Int) : Int := v % 8192 - 4096
theorem litI_range (v : Int) : -4096 ≤ litI v ∧ litI v ≤ 4095 := by unfold litI; omega
def I64 (v : Int) : Prop := -9223372036854775808 ≤ v ∧ v ≤ 9223372036854775807
set_option maxRecDepth 100000 in
theorem lLittle (v : Int) (w : World) (hv : I64 v) : Calls Tryz.prog 31 #[.int .i64 v] w fun e w' => e = .returned (.int .i64 (litI v)) ∧ Below w.heap.size w w' := by
  obtain ⟨h0, h1⟩ := hv
  go_enter Tryz.func31, Tryz.ntmps31
  ((try dsimp only); repeat (first | go_values | go_skip | go_guarded | go_step | go_upon))
  go_ret
  refine ⟨?_, Below.refl _ _⟩
  show Ending.returned (.int .i64 (wrap64 (wrap64 ((IntKind.u64.wrap v).tmod 8192) - 4096))) = _
  have e : IntKind.u64.wrap v = v % 18446744073709551616 := rfl
  rw [e, Int.tmod_eq_emod_of_nonneg (by omega)]
  congr 2
  unfold wrap64 litI
  omega
def IpsAt (w : World) (b o : Nat) (ps : List Pt) : Prop := ∀ i, i < ps.length → w.cell? ⟨b, o + i * 2, none⟩ = some (.int .i64 (ps.getD i (0, 0)).1) ∧ w.cell? ⟨b, o + i * 2 + 1, none⟩ = some (.int .i64 (ps.getD i (0, 0)).2)
def IpsIn (w : World) (A : Option Addr) (ps : List Pt) : Prop := ps = [] ∨ ∃ b o, A = some ⟨b, o, none⟩ ∧ b < w.heap.size ∧ IpsAt w b o ps
theorem IpsIn.keep {w w' : World} {A : Option Addr} {ps : List Pt} (h : IpsIn w A ps) (k : Below w.heap.size w w') : IpsIn w' A ps := by
  rcases h with rfl | ⟨b, o, rfl, hb, hp⟩
  · exact Or.inl rfl
  · exact Or.inr ⟨b, o, rfl, Nat.lt_of_lt_of_le hb k.size, fun i hi => ⟨(k.cell (p := ⟨b, o + i * 2, none⟩) hb).trans (hp i hi).1, (k.cell (p := ⟨b, o + i * 2 + 1, none⟩) hb).trans (hp i hi).2⟩⟩
theorem IpsIn.open {w : World} {A : Option Addr} {ps : List Pt} (h : IpsIn w A ps) {k : Nat} (hk : k < ps.length) : ∃ b o, A = some ⟨b, o, none⟩ ∧ b < w.heap.size ∧ IpsAt w b o ps := by
  rcases h with rfl | h
  · simp at hk
  · exact h
def litP (a : Pt) : Pt := (litI a.1, litI a.2)
theorem litP_lit (a : Pt) : LitP (litP a) := ⟨litI_range _, litI_range _⟩
def wholeL (dx dy : Int) (k : Nat) (ls : List Pt) : List Pt := (ls.map litP).map (layP dx dy k)
theorem wholeL_len (dx dy : Int) (k : Nat) (ls : List Pt) : (wholeL dx dy k ls).length = ls.length := by simp [wholeL]
theorem wholeL_take {dx dy : Int} {k : Nat} {ls : List Pt} {i : Nat} (h : i < ls.length) : (wholeL dx dy k ls).take (i + 1) = (wholeL dx dy k ls).take i ++ [layP dx dy k (litP (ls.getD i (0, 0)))] := by
  rw [List.take_add_one]
  congr 1
  unfold wholeL
  rw [List.map_map, List.getElem?_map, List.getElem?_eq_getElem h, List.getD_eq_getElem?_getD, List.getElem?_eq_getElem h]
  rfl
set_option maxRecDepth 100000 in
set_option maxHeartbeats 3200000 in
theorem lWhole (A : Option Addr) (c : Nat) (ls : List Pt) (dx dy : Int) (sh : Nat) (w : World) (hp : IpsIn w A ls) (hl : ls.length ≤ 100000) (hu : ∀ q ∈ ls, I64 q.1 ∧ I64 q.2) (hf : FrO dx dy sh) :
    Calls Tryz.prog 33 #[.slice A ls.length c, .int .i64 dx, .int .i64 dy, .int .i64 sh] w fun e w' => ∃ v, e = .returned v ∧ w'.ownsRow w.heap.size 38 2 v ls.length (ptC (wholeL dx dy sh ls)) ∧ Below w.heap.size w w' := by
  have HP := Lib.hid hp
  have HU := Lib.hid hu
  have HL := Lib.hid hl
  have HF := Lib.hid hf
  clear hp hu hl hf
  go_enter Tryz.func33, Tryz.ntmps33
  ((try dsimp only); repeat (first | go_values | go_skip | go_guarded | go_step | go_upon))
  go_loopw [9, 10] (fun v i wr => ∃ (k : Nat) (vv : Value), v = vv ∧ i = .int .i64 (k : Int) ∧ k ≤ ls.length ∧ wr.ownsRow w.heap.size 38 2 vv k (ptC ((wholeL dx dy sh ls).take k)) ∧ Below w.heap.size w wr) (fun _ i _ => ls.length - (intOf i).toNat)
  case atStart => exact ⟨0, _, rfl, rfl, Nat.zero_le _, World.ownsRow_nil _ _ _ _, Below.refl _ _⟩
  case round =>
    obtain ⟨k, vv, hvv, rfl, hk, hown, hB⟩ := hrel
    have hvv' := hvv.symm
    subst hvv'
    by_cases h0 : k < ls.length
    · obtain ⟨b, o, rfl, hb, hpa⟩ := HP.out.open h0
      have hpk := hpa k h0
      have huk := HU.out _ (getD_mem h0)
      have HT := Lib.hid (wholeL_take (dx := dx) (dy := dy) (k := sh) h0)
      generalize ls.getD k (0, 0) = q at *
      have HR := Lib.hid (fun (w' : World) (h : Below w.heap.size w w') => And.intro ((h.cell (p := ⟨b, o + k * 2, none⟩) hb).trans hpk.1) ((h.cell (p := ⟨b, o + k * 2 + 1, none⟩) hb).trans hpk.2))
      have H1 := Lib.hid (fun wz => lLittle q.1 wz huk.1)
      have H2 := Lib.hid (fun wz => lLittle q.2 wz huk.2)
      have g1 := lay_rng (k := sh) (litI_range q.1) HF.out.x HF.out.k
      have g2 := lay_rng (k := sh) (litI_range q.2) HF.out.y HF.out.k
      have e1 : wrap64 (litI q.1 + dx) = litI q.1 + dx := by have := HF.out.x; have := litI_range q.1; clear HP HU HL HF HT HR H1 H2 g1 g2; unfold wrap64; omega
      have e2 : wrap64 (litI q.2 + dy) = litI q.2 + dy := by have := HF.out.y; have := litI_range q.2; clear HP HU HL HF HT HR H1 H2 g1 g2 e1; unfold wrap64; omega
      have hki : (k : Int) < (ls.length : Int) := by omega
      have hw1 : wrap64 ((k : Int) + 1) = ((k + 1 : Nat) : Int) := by have := HL.out; clear HP HU HF HT HR H1 H2 g1 g2 e1 e2; unfold wrap64; omega
      have W1 := Lib.hid hw1
      have HO := Lib.hid (And.intro hown (And.intro hB h0))
      have HQ := Lib.hid (fun wz => lPt ((litI q.1 + dx) * 2 ^ sh) ((litI q.2 + dy) * 2 ^ sh) wz (by omega) (by omega))
      have HG : Hid (layP dx dy sh (litP q) = (numP ((litI q.1 + dx) * 2 ^ sh), numP ((litI q.2 + dy) * 2 ^ sh))) := Lib.hid rfl
      have e3 : wrap64 ((litI q.1 + dx) * 2 ^ min sh 64) = (litI q.1 + dx) * 2 ^ sh := by
        rw [Nat.min_eq_left (by have := HF.out.k; omega)]; clear HP HU HL HF HT HR H1 H2 e1 e2; unfold wrap64; omega
      have e4 : wrap64 ((litI q.2 + dy) * 2 ^ min sh 64) = (litI q.2 + dy) * 2 ^ sh := by
        rw [Nat.min_eq_left (by have := HF.out.k; omega)]; clear HP HU HL HF HT HR H1 H2 e1 e2 e3; unfold wrap64; omega
      have HQ2 : Hid (∀ wz : World, Calls Tryz.prog 76 #[.int .i64 (wrap64 ((litI q.1 + dx) * 2 ^ min sh 64)), .int .i64 (wrap64 ((litI q.2 + dy) * 2 ^ min sh 64))] wz fun e w' => e = .returned (.agg #[.int .u64 (numP ((litI q.1 + dx) * 2 ^ sh)), .int .u64 (numP ((litI q.2 + dy) * 2 ^ sh))]) ∧ Below wz.heap.size wz w') := Lib.hid (fun wz => by rw [e3, e4]; exact HQ.out wz)
      clear hpa hpk hown hB hw1 huk e3 e4 HQ
      go_upto_region 5 with (fail)
      refine start_ (n := 25) (S := fun w' => Below wr.heap.size wr w') (ds := [23]) (bt 25 0) (by kernel_rfl) rfl rfl ((Below.refl _ _).drew) (fun hHeld => ?_)
      refine pv_ 0 17 ?_
      refine pv_ 1 18 ?_
      refine pv_ 2 19 ?_
      refine pv_ 3 20 ?_
      refine pv_ 4 21 ?_
      refine ld_ 5 22 ?_ hHeld ?_ ?_; rotate_left
      · rintro w' hs
        obtain ⟨c0, c1⟩ := HR.out _ (HO.out.2.1.trans (hs.mono HO.out.2.1.size))
        clear hs
        go_simp; with_reducible rfl
      refine pv_ 7 24 ?_
      refine pv_ 9 26 ?_
      refine pv_ 11 28 ?_
      refine pv_ 12 29 ?_
      refine pv_ 13 30 ?_
      refine pv_ 14 31 ?_
      refine ld_ 15 32 ?_ hHeld ?_ ?_; rotate_left
      · rintro w' hs
        obtain ⟨c0, c1⟩ := HR.out _ (HO.out.2.1.trans (hs.mono HO.out.2.1.size))
        clear hs
        go_simp; with_reducible rfl
      refine pv_ 17 34 ?_
      refine pv_ 19 36 ?_
      refine ca_ 6 23 Tryz.func31 #[.int .i64 q.1] ?_
      with_reducible refine (H1.out _).mono ?_
      rintro e w' ⟨rfl, hb1⟩
      refine ⟨_, rfl, (by first | (exact hHeld.alloc hHeld.size _) | (exact hHeld.trans (hb3.mono hHeld.size)) | (exact hHeld.trans (hb2.mono hHeld.size)) | (exact hHeld.trans (hb1.mono hHeld.size))), fun hHeld => ?_⟩
      refine nn ?_
      refine pv_ 8 25 ?_
      refine pv_ 10 27 ?_
      refine ca_ 16 33 Tryz.func31 #[.int .i64 q.2] ?_
      with_reducible refine (H2.out _).mono ?_
      rintro e w' ⟨rfl, hb2⟩
      refine ⟨_, rfl, (by first | (exact hHeld.alloc hHeld.size _) | (exact hHeld.trans (hb3.mono hHeld.size)) | (exact hHeld.trans (hb2.mono hHeld.size)) | (exact hHeld.trans (hb1.mono hHeld.size))), fun hHeld => ?_⟩
      refine nn ?_
      refine pv_ 18 35 ?_
      refine pv_ 20 37 ?_
      refine ca_ 21 38 Tryz.func76 #[.int .i64 (wrap64 ((litI q.1 + dx) * 2 ^ min sh 64)), .int .i64 (wrap64 ((litI q.2 + dy) * 2 ^ min sh 64))] ?_
      with_reducible refine (HQ2.out _).mono ?_
      rintro e w' ⟨rfl, hb3⟩
      refine ⟨_, rfl, (by first | (exact hHeld.alloc hHeld.size _) | (exact hHeld.trans (hb3.mono hHeld.size)) | (exact hHeld.trans (hb2.mono hHeld.size)) | (exact hHeld.trans (hb1.mono hHeld.size))), fun hHeld => ?_⟩
      refine nn ?_
      refine one_ (i := 22) (N := some 39) (bt 25 8388607) rfl rfl (by kernel_rfl) (by decide) (fun K hK => ?_)
      refine value_ (v := ?_) (w1 := ?_) (by rfl) rfl ?_ ?_
      rotate_left
      rotate_left
      · go_simp
        first | rfl | (refine ⟨?_, ?_⟩ <;> rfl)
      refine hK.out _ _ (by first | (exact hHeld.alloc hHeld.size _) | (exact hHeld.trans (hb3.mono hHeld.size)) | (exact hHeld.trans (hb2.mono hHeld.size)) | (exact hHeld.trans (hb1.mono hHeld.size))) (fun hHeld => ?_)
      clear hK K
      refine nn ?_
      refine last_ (i := 23) (N := some 40) (bt 25 16777215) rfl rfl (by kernel_rfl) (by decide) (fun K hK => ?_)
      rw [if_pos (by rfl)]
      have hO2 := ownsRow_keep HO.out.1 hHeld
      have hZ := Nat.le_trans HO.out.2.1.size hHeld.size
      refine wp_app_pts (.tmp 17) (.tmp 39) rfl rfl w.heap.size k 1 vv ((wholeL dx dy sh ls).take k) [(numP ((litI q.1 + dx) * 2 ^ sh), numP ((litI q.2 + dy) * 2 ^ sh))] (some ⟨_, 0, none⟩) rfl rfl hO2 (Or.inr ⟨_, 0, rfl, heap_lt (alloc_new _ _), pts_one (p := (numP ((litI q.1 + dx) * 2 ^ sh), numP ((litI q.2 + dy) * 2 ^ sh))) (alloc_new _ _)⟩) (by have := HL.out; omega) (by simp) hZ ?_
      intro v2 w2 hown2 hgr
      have hB2 := ownsRow_below hO2 (HO.out.2.1.trans (hHeld.mono HO.out.2.1.size)) hZ hgr
      refine hK.out (Act.put _ (some 40) v2) _ ?_
      clear hK K
      refine nm ?_ ?_ ?_; rotate_left
      · simp only [pA, pB, pC, pD, i64_w, i32_w]; rfl
      refine pv_ 24 9 ?_
      refine done_ (by kernel_rfl) ?_
      rw [← HG.out, ← HT.out] at hown2
      have HE := Lib.hid (And.intro hown2 hB2)
      clear hown2 hB2 hHeld hO2 hZ hgr hb1 hb2 hb3 e1 e2 g1 g2
      ((try dsimp only); repeat (first | go_values | go_skip | go_guarded | go_step | go_upon))
      refine ⟨⟨k + 1, v2, rfl, vint W1.out, HO.out.2.2, HE.out.1, HE.out.2⟩, ?_⟩
      show ls.length - (intOf (.int .i64 (wrap64 ((k : Int) + 1)))).toNat < ls.length - (intOf (.int .i64 (k : Int))).toNat
      rw [W1.out]
      have hk0 := HO.out.2.2
      clear HE HG HQ2 HT HR H1 H2 HF HP HU HL HO W1
      show ls.length - (((k + 1 : Nat) : Int)).toNat < ls.length - ((k : Int)).toNat
      omega
    · obtain rfl : k = ls.length := by omega
      have HO := Lib.hid (And.intro hown hB)
      clear hown hB
      ((try dsimp only); repeat (first | go_values | go_skip | go_guarded | go_step | go_upon))
      go_ret
      refine ⟨_, rfl, ?_, HO.out.2⟩
      have := HO.out.1
      rwa [List.take_of_length_le (by rw [wholeL_len]; exact Nat.le_refl _)] at this
end Go.Proofs.YtfpofmifmapmfaaGreatDoor

namespace Go.Proofs.YtfpofmifmapmfaaGreatDoor
open Go.RowKit Go.Proofs.YtfpofmifmapmfaaGreatDoorW.PrintLast
set_option linter.unusedVariables false
set_option linter.unusedSimpArgs false
theorem closedL_map (f : Pt → Pt) (l : List Pt) : closedL (l.map f) = (closedL l).map f := by
  unfold closedL
  rw [List.length_map]
  split
  · rfl
  · rename_i h
    rw [List.map_append, List.map_cons, List.map_nil, getD_map0 f (by omega)]
theorem closedL_len {l : List Pt} (h : 0 < l.length) : (closedL l).length = l.length + 1 := by
  unfold closedL; rw [if_neg (by omega), List.length_append]; rfl
theorem closedL_mem {l : List Pt} {q : Pt} : q ∈ closedL l ↔ q ∈ l := by
  unfold closedL
  split
  · rename_i h
    rw [List.eq_nil_of_length_eq_zero h]
  · rename_i h
    rw [List.mem_append, List.mem_singleton]
    constructor
    · rintro (h1 | rfl)
      · exact h1
      · exact getD_mem (by omega)
    · exact Or.inl
theorem closedL_ends {l : List Pt} (h : 0 < l.length) : (closedL l).getD 0 (0, 0) = (closedL l).getD ((closedL l).length - 1) (0, 0) := by
  rw [closedL_len h]
  unfold closedL
  rw [if_neg (by omega), Nat.add_sub_cancel]
  generalize hx : l.getD 0 (0, 0) = x
  have e1 : (l ++ [x]).getD 0 (0, 0) = l.getD 0 (0, 0) := by rw [List.getD_eq_getElem?_getD, List.getElem?_append_left h, ← List.getD_eq_getElem?_getD]
  have e2 : (l ++ [x]).getD l.length (0, 0) = x := by rw [List.getD_eq_getElem?_getD, List.getElem?_append_right (Nat.le_refl _), Nat.sub_self]; rfl
  rw [e1, e2, hx]
theorem closedL_get {l : List Pt} {i : Nat} (h : i < l.length) : (closedL l).getD i (0, 0) = l.getD i (0, 0) := by
  unfold closedL
  rw [if_neg (by omega), List.getD_eq_getElem?_getD, List.getElem?_append_left h, ← List.getD_eq_getElem?_getD]
theorem closedL_next {l : List Pt} {i : Nat} (h : i < l.length) : (closedL l).getD (i + 1) (0, 0) = l.getD ((i + 1) % l.length) (0, 0) := by
  rcases Nat.lt_or_ge (i + 1) l.length with g | g
  · rw [closedL_get g, Nat.mod_eq_of_lt g]
  · obtain e : i + 1 = l.length := by omega
    rw [e, Nat.mod_self]
    unfold closedL
    rw [if_neg (by omega), List.getD_eq_getElem?_getD, List.getElem?_append_right (Nat.le_refl _), Nat.sub_self]
    rfl
def rndI (ls : List Pt) : List Pt := closedL (ls.map litP)
theorem rndI_lit (ls : List Pt) : ∀ q ∈ rndI ls, LitP q := by
  intro q hq
  unfold rndI at hq
  rw [closedL_mem, List.mem_map] at hq
  obtain ⟨a, _, rfl⟩ := hq
  exact litP_lit a
theorem rnd_whole (dx dy : Int) (k : Nat) (ls : List Pt) : closedL (wholeL dx dy k ls) = (rndI ls).map (layP dx dy k) := by unfold wholeL rndI; rw [closedL_map]
theorem litP_fr0 : FrO 0 0 0 := ⟨by decide, by decide, by decide⟩
variable {dx dy : Int} {k : Nat}
theorem lay_fin (h : FrO dx dy k) {ls : List Pt} : ∀ q ∈ (rndI ls).map (layP dx dy k), FinP q := by
  intro q hq
  obtain ⟨a, ha, rfl⟩ := List.mem_map.1 hq
  obtain ⟨_, _, f1, f2⟩ := lay_val h (rndI_lit ls a ha)
  exact ⟨f1, f2⟩
theorem fin_u {q : Pt} (h : FinP q) : PtU q := ⟨⟨h.1.1, h.1.2.1⟩, ⟨h.2.1, h.2.2.1⟩⟩
theorem lay_u (h : FrO dx dy k) {ls : List Pt} : ∀ q ∈ (rndI ls).map (layP dx dy k), PtU q := fun q hq => fin_u (lay_fin h q hq)
theorem lay_p (h : FrO dx dy k) (p : Pt) : FinP (layP dx dy k (litP p)) := by
  obtain ⟨_, _, f1, f2⟩ := lay_val h (litP_lit p)
  exact ⟨f1, f2⟩
theorem lay_chk (h : FrO dx dy k) {ls more : List Pt} (h0 : 0 < ls.length) (h1 : ls.length ≤ 511) (hm : ∀ q ∈ more, FinP q) : chkE ((rndI ls).map (layP dx dy k)) more = 0 := by
  have hl : ((rndI ls).map (layP dx dy k)).length = ls.length + 1 := by rw [List.length_map]; unfold rndI; rw [closedL_len (by rw [List.length_map]; exact h0), List.length_map]
  unfold chkE
  have e1 : finB ((rndI ls).map (layP dx dy k)) = true := (finB_iff (lay_u h)).2 (lay_fin h)
  have e2 : finB more = true := (finB_iff (fun q hq => fin_u (hm q hq))).2 hm
  have e3 : pcmpP (((rndI ls).map (layP dx dy k)).getD 0 (0, 0)) (((rndI ls).map (layP dx dy k)).getD (((rndI ls).map (layP dx dy k)).length - 1) (0, 0)) = 0 := by
    rw [← rnd_whole, ← closedL_ends (by rw [wholeL_len]; exact h0)]
    exact pcmpP_self _
  rw [hl] at e3
  rw [if_neg (by omega), e1, e2, if_neg (by decide), hl, if_neg (by omega)]
def isum (ls : List Pt) : Int := sumI icrs (pthE (rndI ls))
theorem lay_sum (h : FrO dx dy k) {ls : List Pt} (h0 : 0 < ls.length) : sumE crs (edgesR ((rndI ls).map (layP dx dy k))) = ((isum ls * (2 ^ k * 2 ^ k) : Int) : Rat) := by
  refine lay_area h ?_ (rndI_lit ls) ?_
  · unfold rndI; rw [closedL_len (by rw [List.length_map]; exact h0)]; omega
  · unfold rndI; exact closedL_ends (by rw [List.length_map]; exact h0)
theorem isum_edges (ls : List Pt) (h0 : 0 < ls.length) : sumI icrs (edgesU (rndI ls) ls.length) = isum ls := by
  unfold isum
  rw [← edgesR_pth]
  unfold edgesR
  congr 2
  unfold rndI
  rw [closedL_len (by rw [List.length_map]; exact h0), List.length_map]; rfl
theorem icrs_rng {a b : Pt} (ha : LitP a) (hb : LitP b) : (-16777216 ≤ a.1 * b.2 ∧ a.1 * b.2 ≤ 16777216) ∧ (-16777216 ≤ b.1 * a.2 ∧ b.1 * a.2 ≤ 16777216) := by
  have h1 := abs_le_mul (M := 4096) (N := 4096) (x := a.1) (y := b.2) (by have := ha.1; omega) (by have := ha.1; omega) (by have := hb.2; omega) (by have := hb.2; omega)
  have h2 := abs_le_mul (M := 4096) (N := 4096) (x := b.1) (y := a.2) (by have := hb.1; omega) (by have := hb.1; omega) (by have := ha.2; omega) (by have := ha.2; omega)
  exact ⟨by omega, by omega⟩
theorem isum_rng {R : List Pt} (h : ∀ q ∈ R, LitP q) (k : Nat) (hk : k < R.length) : -(33554432 * (k : Int)) ≤ sumI icrs (edgesU R k) ∧ sumI icrs (edgesU R k) ≤ 33554432 * k := by
  induction k with
  | zero => simp [edgesU, sumI]
  | succ k ih =>
    have c := icrs_rng (h _ (getD_mem (ps := R) (k := k) (by omega))) (h _ (getD_mem hk))
    have i := ih (by omega)
    have ce : icrs (edge R k) = (R.getD k (0, 0)).1 * (R.getD (k + 1) (0, 0)).2 - (R.getD (k + 1) (0, 0)).1 * (R.getD k (0, 0)).2 := rfl
    rw [edgesU_succ, sumI_snoc, ce]
    omega
theorem lay_windV (h : FrO dx dy k) {ls : List Pt} (p : Pt) (h0 : 0 < ls.length) (h1 : ls.length ≤ 511) :
    windV ((rndI ls).map (layP dx dy k)) (layP dx dy k (litP p)) = windV ((rndI ls).map (layP 0 0 0)) (layP 0 0 0 (litP p)) := by
  have hp : ∀ {dx dy : Int} {k : Nat}, FrO dx dy k → ∀ q ∈ [layP dx dy k (litP p)], FinP q := fun h q hq => by simp at hq; subst hq; exact lay_p h p
  have c1 := lay_chk h h0 h1 (hp h)
  have c2 := lay_chk litP_fr0 h0 h1 (hp litP_fr0)
  have hr : 0 < (rndI ls).length := by unfold rndI; rw [closedL_len (by rw [List.length_map]; exact h0)]; omega
  unfold windV
  rw [c1, c2, lay_wind h hr (rndI_lit ls) (litP_lit p), lay_wind litP_fr0 hr (rndI_lit ls) (litP_lit p)]
theorem lay_sideV (h : FrO dx dy k) {ls : List Pt} (p : Pt) (h0 : 0 < ls.length) (h1 : ls.length ≤ 511) :
    sideV ((rndI ls).map (layP dx dy k)) (layP dx dy k (litP p)) = sideV ((rndI ls).map (layP 0 0 0)) (layP 0 0 0 (litP p)) := by
  unfold sideV; rw [lay_windV h p h0 h1]
theorem out_side {r : List Pt} {p : Pt} (h0 : chkE r [p] = 0) (hu : ∀ q ∈ r, PtU q) (hup : ∀ q ∈ [p], PtU q)
    (ho : qcmp (fval p.1) (fval (cornK (-1) fX r r.length)) < 0 ∨ qcmp (fval p.2) (fval (cornK (-1) fY r r.length)) < 0 ∨ 0 < qcmp (fval p.1) (fval (cornK 1 fX r r.length)) ∨ 0 < qcmp (fval p.2) (fval (cornK 1 fY r r.length))) : sideV r p = (-1, 0) := by
  obtain ⟨k1, k2, k3, k4, k5⟩ := chk_ok hu hup h0
  have lt : ∀ {x y : Rat}, qcmp x y < 0 → x < y := fun {x y} h => by
    rcases qcmp_cases x y with ⟨e, k⟩ | ⟨e, k⟩ | ⟨e, k⟩
    · exact k
    · omega
    · omega
  have mem : ∀ {q : Pt}, q ∈ r → ∃ j, j < r.length ∧ r.getD j (0, 0) = q := fun {q} hq => by
    obtain ⟨j, hj, e⟩ := List.getElem_of_mem hq
    exact ⟨j, hj, by rw [List.getD_eq_getElem?_getD, List.getElem?_eq_getElem hj]; exact e⟩
  have hw : windR r p = (0, false) := by
    refine out_wind k1 k5 ?_
    rcases ho with h | h | h | h
    · exact Or.inl fun q hq => by
        obtain ⟨j, hj, rfl⟩ := mem hq
        have := cornK_low fX r r.length j hj
        have l := lt h
        show fval p.1 < fval (fX (r.getD j (0, 0)))
        grind
    · exact Or.inr (Or.inr (Or.inl fun q hq => by
        obtain ⟨j, hj, rfl⟩ := mem hq
        have := cornK_low fY r r.length j hj
        have l := lt h
        show fval p.2 < fval (fY (r.getD j (0, 0)))
        grind))
    · exact Or.inr (Or.inl fun q hq => by
        obtain ⟨j, hj, rfl⟩ := mem hq
        have := cornK_high fX r r.length j hj
        have l := qc_gt.1 h
        show fval (fX (r.getD j (0, 0))) < fval p.1
        grind)
    · exact Or.inr (Or.inr (Or.inr fun q hq => by
        obtain ⟨j, hj, rfl⟩ := mem hq
        have := cornK_high fY r r.length j hj
        have l := qc_gt.1 h
        show fval (fY (r.getD j (0, 0))) < fval p.2
        grind))
  have hv : windV r p = (0, false, 0) := by unfold windV; rw [h0, hw]; rfl
  unfold sideV
  rw [hv]
  rfl
end Go.Proofs.YtfpofmifmapmfaaGreatDoor

namespace Go.Proofs.YtfpofmifmapmfaaGreatDoor
open Go.RowKit Go.Proofs.YtfpofmifmapmfaaGreatDoorW.PrintLast
set_option linter.unusedVariables false
set_option linter.unusedSimpArgs false
set_option maxRecDepth 100000 in
set_option maxHeartbeats 3200000 in
theorem rIntN (v : Int) (w : World) (h0 : v < 0) (h1 : -9223372036854775807 ≤ v) :
    Calls Tryz.prog 35 #[.int .i64 v] w fun e w' => ∃ E F, e = .returned (qv E F (v : Rat)) ∧ RatFresh w.heap.size w' E F (v : Rat) ∧ Below w.heap.size w w' := by
  have hF := fun wz => nFrom (-v) wz (by omega) (by omega)
  have hG := fun wz => nFrom 1 wz (by omega) (by omega)
  have e1 : qn (v : Rat) = limbs (-v) := by unfold qn; rw [Rat.num_intCast]; congr 1; omega
  have e2 : qd (v : Rat) = limbs 1 := by unfold qd; rw [Rat.den_intCast]; rfl
  have e3 : decide ((v : Rat).num < 0) = true := by rw [Rat.num_intCast]; exact decide_eq_true (by omega)
  have hw : IntKind.u64.wrap (-IntKind.u64.wrap v) = -v := by
    have ea : IntKind.u64.wrap v = v % 18446744073709551616 := rfl
    have eb : IntKind.u64.wrap (-IntKind.u64.wrap v) = (-IntKind.u64.wrap v) % 18446744073709551616 := rfl
    rw [eb, ea]; omega
  have HF := Lib.hid (And.intro hF hG)
  have HE := Lib.hid (And.intro e1 (And.intro e2 e3))
  clear hF hG e1 e2 e3
  go_enter Tryz.func35, Tryz.ntmps35
  go_wp2_with (first | (go_at_call_of 88 (Value.int IntKind.u64 1); refine (HF.out.2 _).mono ?_; rintro e w2 ⟨rfl, rfl⟩) | (go_at_call_of 88 (Value.int IntKind.u64 (-v)); refine (HF.out.1 _).mono ?_; rintro e w1 ⟨rfl, rfl⟩))
  refine bodyPost_ret (results_cell_row rfl _ _ w.heap.size _ _ _ _ rfl (alloc_old (alloc_old (alloc_old (alloc_old (alloc_new _ _))))) rfl rfl rfl) rfl ?_
  refine ⟨some ⟨w.heap.size + 1 + 1, 0, none⟩, some ⟨w.heap.size + 1 + 1 + 1 + 1, 0, none⟩, ?_, ⟨?_, ?_⟩, (by repeat (first | exact Below.refl _ _ | refine belowN ?_ _ | refine Below.drew ?_ | refine Below.alloc ?_ (by first | exact Nat.le_refl _ | (simp; done) | (simp; omega) | omega) _))⟩
  · unfold qv; rw [HE.out.1, HE.out.2.1, HE.out.2.2]
  · rw [HE.out.1]; exact FreshAt.row (by omega) (alloc_old (alloc_old (alloc_at _ (by simp))))
  · rw [HE.out.2.1]; exact FreshAt.row (by omega) (alloc_at _ (by simp))
theorem rIntA (v : Int) (w : World) (h0 : -9223372036854775807 ≤ v) (h1 : v ≤ 9223372036854775807) :
    Calls Tryz.prog 35 #[.int .i64 v] w fun e w' => ∃ E F, e = .returned (qv E F (v : Rat)) ∧ RatFresh w.heap.size w' E F (v : Rat) ∧ Below w.heap.size w w' := by
  by_cases h : v < 0
  · exact rIntN v w h h0
  · exact rIntQ v w (by omega) h1
end Go.Proofs.YtfpofmifmapmfaaGreatDoor
