/- Start and Turn of a closed list. -/
import Derived.Test.YtfpofmifmapmfaaGreatDoorRM
import Derived.Test.YtfpofmifmapmfaaGreatDoorRC
import Derived.Deep.CutBlock
import Derived.Test.YtfpofmifmapmfaaGreatDoorRD
namespace Go.Proofs.YtfpofmifmapmfaaGreatDoor
open Go.RowKit Go.Proofs.YtfpofmifmapmfaaGreatDoorW.PrintLast
set_option linter.unusedVariables false
set_option linter.unusedSimpArgs false
theorem pts_take {w : World} {A : Option Addr} {l : List Pt} (h : PtsIn w A l) (i : Nat) : PtsIn w A (l.take i) := by
  rcases h with rfl | ⟨b, o, rfl, hb, hp⟩
  · left; simp
  · refine Or.inr ⟨b, o, rfl, hb, fun j hj => ?_⟩
    rw [List.length_take] at hj
    have := hp j (by omega)
    have e : (l.take i).getD j (0, 0) = l.getD j (0, 0) := by rw [List.getD_eq_getElem?_getD, List.getElem?_take_of_lt (by omega), ← List.getD_eq_getElem?_getD]
    rw [e]; exact this
theorem pts_drop {w : World} {b o : Nat} {l : List Pt} (hb : b < w.heap.size) (hp : PtsAt w b o l) (i : Nat) : PtsIn w (some ⟨b, o + i * 2, none⟩) (l.drop i) := by
  refine Or.inr ⟨b, o + i * 2, rfl, hb, fun j hj => ?_⟩
  rw [List.length_drop] at hj
  have := hp (i + j) (by omega)
  have e : (l.drop i).getD j (0, 0) = l.getD (i + j) (0, 0) := by rw [List.getD_eq_getElem?_getD, List.getElem?_drop, ← List.getD_eq_getElem?_getD]
  rw [e, show o + i * 2 + j * 2 = o + (i + j) * 2 by omega]; exact this
set_option maxRecDepth 100000 in
theorem run_eql_nil (w : World) : (binOp .eql 22 (.slice none 0 0) (.slice none 0 0)).run Tryz.prog w = .ok (.bool true) w := by rfl
set_option maxRecDepth 100000 in
theorem run_eql_some (a : Addr) (n c : Nat) (w : World) : (binOp .eql 22 (.slice (some a) n c) (.slice none 0 0)).run Tryz.prog w = .ok (.bool false) w := by rfl
def PtV (w : World) (v : Value) (m : List Pt) : Prop := ∃ b c, v = .slice (some ⟨b, 0, none⟩) m.length c ∧ PtsIn w (some ⟨b, 0, none⟩) m ∧ m.length ≤ c
theorem PtV.keep {w w' : World} {v : Value} {m : List Pt} (h : PtV w v m) (k : Below w.heap.size w w') : PtV w' v m := by
  obtain ⟨b, c, h1, h2, h3⟩ := h
  exact ⟨b, c, h1, h2.keep k, h3⟩
def BestV (B : Nat) (w : World) (v : Value) : Option (List Pt) → Prop
  | none => v = .slice none 0 0
  | some m => w.ownsRow B 38 2 v m.length (ptC m) ∧ 0 < m.length
theorem BestV.keep {B : Nat} {w w' : World} {v : Value} {bo : Option (List Pt)} (h : BestV B w v bo) (k : Below w.heap.size w w') : BestV B w' v bo := by
  cases bo with
  | none => exact h
  | some m => exact ⟨ownsRow_keep h.1 k, h.2⟩
theorem own_best {w : World} {base n : Nat} {v : Value} {l : List Pt} (h : w.ownsRow base 38 2 v n (ptC l)) (hn : n = l.length) (h0 : 0 < n) : PtV w v l := by
  subst hn
  have hp := h
  rcases h.2 with ⟨_, e⟩ | ⟨g, cap, cur, rfl, hbg, hg, hnc, hcm, hcs, htake⟩
  · omega
  · exact ⟨g, cap, rfl, own_pts hp rfl, hnc⟩
theorem leastK_from (l : List Pt) (bo : Option (List Pt)) : ∀ (k : Nat) {m : List Pt}, leastK l bo k = some m → bo = some m ∨ ∃ i, m = rotL l i
  | 0, m, h => Or.inl h
  | k + 1, m, h => by
    rw [leastK_succ] at h
    rcases hb : leastK l bo k with _ | x
    · rw [hb] at h
      cases h
      exact Or.inr ⟨k, rfl⟩
    · rw [hb] at h
      unfold lessL at h
      dsimp only at h
      split at h
      · cases h; exact Or.inr ⟨k, rfl⟩
      · cases h; exact leastK_from l bo k hb
set_option maxRecDepth 100000 in
set_option maxHeartbeats 3200000 in
theorem lLeast (A : Option Addr) (c : Nat) (l : List Pt) (bv : Value) (bo : Option (List Pt)) (w : World) (hp : PtsIn w A l) (hl : l.length ≤ 100000) (hc : l.length ≤ c) (B : Nat) (hB0 : B ≤ w.heap.size) (hbv : BestV B w bv bo) (hu : ∀ q ∈ l, PtU q) (hub : ∀ m, bo = some m → m.length ≤ 1000000 ∧ ∀ q ∈ m, PtU q) :
    Calls Tryz.prog 101 #[.slice A l.length c, bv] w fun e w' => ∃ v, e = .returned v ∧ BestV B w' v (leastK l bo l.length) ∧ Below w.heap.size w w' := by
  have HP := Lib.hid hp
  have HU := Lib.hid (And.intro hu hub)
  have HL := Lib.hid (And.intro hl hc)
  have HBV := Lib.hid hbv
  have HB0 := Lib.hid hB0
  clear hp hu hub hl hc hbv hB0
  go_enter Tryz.func101, Tryz.ntmps101
  ((try dsimp only); repeat (first | go_values | go_skip | go_guarded | go_step | go_upon))
  go_loopw [1, 9] (fun v i wr => ∃ (k : Nat) (vv : Value), v = vv ∧ i = .int .i64 (k : Int) ∧ k ≤ l.length ∧ BestV B wr vv (leastK l bo k) ∧ Below w.heap.size w wr) (fun _ i _ => l.length - (intOf i).toNat)
  case atStart => exact ⟨0, bv, rfl, rfl, Nat.zero_le _, HBV.out, Below.refl _ _⟩
  case round =>
    obtain ⟨k, vv, hvv, rfl, hk, hbest, hB⟩ := hrel
    have hvv' := hvv.symm
    subst hvv'
    have HK := Lib.hid hB
    have HBk := Lib.hid hbest
    clear hB hbest
    by_cases h0 : k < l.length
    · obtain ⟨b, o, rfl, hb, hpa⟩ := HP.out.open h0
      have HS : Hid (∀ wz : World, Below w.heap.size w wz → PtsIn wz (some ⟨b, o + k * 2, none⟩) (l.drop k) ∧ PtsIn wz (some ⟨b, o, none⟩) (l.take k)) := Lib.hid (fun wz h => ⟨(pts_drop hb hpa k).keep h, (pts_take HP.out k).keep h⟩)
      have hki : (k : Int) < (l.length : Int) := by omega
      have hkl : (k : Int) ≤ (l.length : Int) := by omega
      have hkl2 : k ≤ l.length := by omega
      have hkc : (k : Int) ≤ (c : Int) := by have := HL.out.2; omega
      have hkc2 : k ≤ c := by have := HL.out.2; omega
      have hlc : (l.length : Int) ≤ (c : Int) := by have := HL.out.2; omega
      have hlc2 : l.length ≤ c := HL.out.2
      have hk0 : (0 : Int) ≤ (k : Int) := by omega
      have hck : ¬ c = k := by have := HL.out.2; omega
      have HX := Lib.hid (And.intro h0 hb)
      clear hpa
      go_upto_region 4 with (fail)
      refine start_ (n := 9) (S := fun w' => Below wr.heap.size wr w') (ds := []) (bt 9 0) (by kernel_rfl) rfl rfl ((Below.refl _ _).drew) (fun hHeld => ?_)
      refine pv_ 0 12 ?_
      refine pv_ 1 13 ?_
      refine pv_ 2 14 ?_
      refine pv_ 4 16 ?_
      refine pv_ 5 17 ?_
      refine pv_ 6 18 ?_
      refine one_ (i := 3) (N := some 15) (bt 9 127) rfl rfl (by kernel_rfl) (by decide) (fun K hK => ?_)
      rw [if_pos (by rfl)]
      refine wp_app_pts (.const (.slice none 0 0)) (.tmp 14) rfl rfl wr.heap.size 0 (c - k) (.slice none 0 0) [] (l.drop k) (some ⟨b, o + k * 2, none⟩) rfl (by rw [List.length_drop]; rfl) (World.ownsRow_nil _ _ _ _) (HS.out _ (HK.out.trans (hHeld.mono HK.out.size))).1 (by omega) (by rw [List.length_drop]; have := HL.out.1; omega) hHeld.size ?_
      intro v1 w1 hown1 hgr1
      have hk1 := ownsRow_below (e := 38) (size := 2) (World.ownsRow_nil _ _ _ _) hHeld hHeld.size hgr1
      refine hK.out (Act.put _ (some 15) v1) _ hk1 (fun hHeld => ?_)
      clear hK K
      refine nn ?_
      refine one_ (i := 7) (N := some 19) (bt 9 255) rfl rfl (by kernel_rfl) (by decide) (fun K hK => ?_)
      rw [if_pos (by rfl)]
      refine wp_app_pts (.tmp 15) (.tmp 18) rfl rfl wr.heap.size (0 + (l.drop k).length) c v1 ([] ++ l.drop k) (l.take k) (some ⟨b, o, none⟩) rfl (by rw [List.length_take, Nat.min_eq_left hkl2]; rfl) hown1 (HS.out _ (HK.out.trans (hHeld.mono HK.out.size))).2 (by rw [List.length_drop]; have := HL.out.1; omega) (by rw [List.length_take]; have := HL.out.1; omega) hHeld.size ?_
      intro v2 w2 hown2 hgr2
      have hk2 := ownsRow_below hown1 hHeld hHeld.size hgr2
      refine hK.out (Act.put _ (some 19) v2) _ hk2 (fun hHeld => ?_)
      clear hK K
      refine nn ?_
      refine pv_ 8 6 ?_
      refine done_ (by kernel_rfl) ?_
      have hrl : (rotL l k).length = l.length := rot_len l k
      have hown3 : w2.ownsRow wr.heap.size 38 2 v2 (0 + (l.drop k).length + (l.take k).length) (ptC (rotL l k)) := hown2
      have hlen3 : 0 + (l.drop k).length + (l.take k).length = (rotL l k).length := by rw [hrl, List.length_drop, List.length_take, Nat.min_eq_left hkl2]; omega
      have hown4 := own_lower hown3 (Nat.le_trans HB0.out HK.out.size)
      rw [hlen3] at hown4
      obtain ⟨gw, cw, rfl, hpw, hcw⟩ := own_best hown3 (by rw [hrl, List.length_drop, List.length_take, Nat.min_eq_left hkl2]; omega) (by rw [List.length_drop]; omega)
      have HPw := Lib.hid (And.intro hpw hcw)
      have HOw : Hid (BestV B w2 (.slice (some ⟨gw, 0, none⟩) (rotL l k).length cw) (some (rotL l k))) := Lib.hid ⟨hown4, by rw [hrl]; omega⟩
      have HE := Lib.hid (HK.out.trans (hHeld.mono HK.out.size))
      have HBk2 := Lib.hid (HBk.out.keep hHeld)
      have HW := Lib.hid hrl
      have HUw : Hid (∀ q ∈ rotL l k, PtU q) := Lib.hid (fun q hq => HU.out.1 q (rot_mem.1 hq))
      have hw1 : wrap64 ((k : Int) + 1) = ((k + 1 : Nat) : Int) := by have := HL.out.1; clear HP HU HL HBV HB0 HK HBk HS HX HPw HOw HE HBk2 HW HUw; unfold wrap64; omega
      have W1 := Lib.hid hw1
      have HN := Lib.hid (leastK_succ l bo k)
      have HFr := Lib.hid (fun m h => leastK_from l bo k (m := m) h)
      clear hHeld hgr1 hgr2 hown1 hown2 hown3 hown4 hlen3 hk1 hk2 hpw hcw hrl hw1 HBk HP HBV hki hkl hkc hkc2 hlc hlc2 hk0 hck
      have hend : ∀ (x : World → Value → Prop), l.length - (intOf (.int .i64 (wrap64 ((k : Int) + 1)))).toNat < l.length - (intOf (.int .i64 (k : Int))).toNat := fun _ => by
        rw [W1.out]
        have hk0 := HX.out.1
        clear HU HL HK HS HX HPw HOw HB0 HE HBk2 HW HUw W1 HN HFr
        show l.length - (((k + 1 : Nat) : Int)).toNat < l.length - ((k : Int)).toNat
        omega
      have HEnd := Lib.hid (hend (fun _ _ => True))
      clear hend
      rcases hb0 : leastK l bo k with _ | m
      · rw [hb0] at HBk2 HN
        obtain rfl : vv = .slice none 0 0 := HBk2.out
        have hq := run_eql_nil w2
        ((try dsimp only); repeat (first | go_values | go_skip | go_guarded | go_step | go_upon))
        exact ⟨⟨k + 1, _, rfl, vint W1.out, HX.out.1, by rw [HN.out]; exact HOw.out, HE.out⟩, HEnd.out⟩
      · rw [hb0] at HBk2 HN
        have HOm : Hid (BestV B w2 vv (some m)) := Lib.hid HBk2.out
        obtain ⟨bm, cm, rfl, hpm, hcm⟩ := own_best HBk2.out.1 rfl HBk2.out.2
        have hm : m.length ≤ 1000000 ∧ ∀ q ∈ m, PtU q := by
          rcases HFr.out m hb0 with h | ⟨i, rfl⟩
          · exact HU.out.2 m h
          · exact ⟨by rw [rot_len]; have := HL.out.1; omega, fun q hq => HU.out.1 q (rot_mem.1 hq)⟩
        have HC := Lib.hid (lCompareFunc (some ⟨gw, 0, none⟩) (some ⟨bm, 0, none⟩) cw cm (rotL l k) m w2 HPw.out.1 hpm (by rw [HW.out]; have := HL.out.1; omega) hm.1 HUw.out hm.2)
        have HM := Lib.hid (And.intro hpm hcm)
        have HLs : Hid (lessL (some m) (rotL l k) = if cmpL (rotL l k) m < 0 then some (rotL l k) else some m) := Lib.hid rfl
        clear hpm hcm hm hb0 HBk2
        have hq := run_eql_some ⟨bm, 0, none⟩ m.length cm w2
        generalize cmpL (rotL l k) m = cc at *
        ((try dsimp only); repeat (first | go_values | go_skip | go_guarded | go_step | go_upon))
        refine HC.out.mono ?_
        rintro e w3 ⟨rfl, hb3⟩
        have HE3 := Lib.hid (HE.out.trans (hb3.mono HE.out.size))
        have HB3 := Lib.hid hb3
        clear hb3
        by_cases hcc : cc < 0
        · rw [if_pos hcc] at HLs
          ((try dsimp only); repeat (first | go_values | go_skip | go_guarded | go_step | go_upon))
          exact ⟨⟨k + 1, _, rfl, vint W1.out, HX.out.1, by rw [HN.out, HLs.out]; exact HOw.out.keep HB3.out, HE3.out⟩, HEnd.out⟩
        · rw [if_neg hcc] at HLs
          ((try dsimp only); repeat (first | go_values | go_skip | go_guarded | go_step | go_upon))
          exact ⟨⟨k + 1, _, rfl, vint W1.out, HX.out.1, by rw [HN.out, HLs.out]; exact HOm.out.keep HB3.out, HE3.out⟩, HEnd.out⟩
    · obtain rfl : k = l.length := by omega
      have hki : ¬ (l.length : Int) < (l.length : Int) := by omega
      ((try dsimp only); repeat (first | go_values | go_skip | go_guarded | go_step | go_upon))
      go_ret
      exact ⟨_, rfl, HBk.out, HK.out⟩
end Go.Proofs.YtfpofmifmapmfaaGreatDoor

namespace Go.Proofs.YtfpofmifmapmfaaGreatDoor
open Go.RowKit Go.Proofs.YtfpofmifmapmfaaGreatDoorW.PrintLast
set_option linter.unusedVariables false
set_option linter.unusedSimpArgs false
def revF (l : List Pt) (k t : Nat) : Pt := if t < k ∨ l.length - k ≤ t then l.getD (l.length - 1 - t) (0, 0) else l.getD t (0, 0)
theorem revF_zero (l : List Pt) {t : Nat} (h : t < l.length) : revF l 0 t = l.getD t (0, 0) := by unfold revF; rw [if_neg (by omega)]
theorem revF_end (l : List Pt) {k t : Nat} (hk : l.length ≤ 2 * k + 1) (h : t < l.length) : revF l k t = l.reverse.getD t (0, 0) := by
  have e : l.reverse.getD t (0, 0) = l.getD (l.length - 1 - t) (0, 0) := by
    rw [List.getD_eq_getElem?_getD, List.getElem?_reverse h, ← List.getD_eq_getElem?_getD]
  rw [e]
  unfold revF
  split
  · rfl
  · congr 1; omega
def RevC (l : List Pt) (k : Nat) (C : Array Value) : Prop := ∀ t, t < l.length → C[t * 2]? = some (.int .u64 (revF l k t).1) ∧ C[t * 2 + 1]? = some (.int .u64 (revF l k t).2)
theorem RevC.step {l : List Pt} {k j : Nat} {C : Array Value} (h : RevC l k C) (hj : k + j + 1 = l.length) (hkj : k < j) (hs : l.length * 2 ≤ C.size) :
    RevC l (k + 1) ((((C.setIfInBounds (k * 2) (.int .u64 (l.getD j (0, 0)).1)).setIfInBounds (k * 2 + 1) (.int .u64 (l.getD j (0, 0)).2)).setIfInBounds (j * 2) (.int .u64 (l.getD k (0, 0)).1)).setIfInBounds (j * 2 + 1) (.int .u64 (l.getD k (0, 0)).2)) := by
  intro t ht
  have e := h t ht
  simp only [Array.getElem?_setIfInBounds, Array.size_setIfInBounds]
  have hf : revF l (k + 1) t = if t = k then l.getD j (0, 0) else if t = j then l.getD k (0, 0) else revF l k t := by
    unfold revF
    by_cases h1 : t = k
    · subst h1; rw [if_pos (by omega), if_pos rfl]; congr 1; omega
    · rw [if_neg h1]
      by_cases h2 : t = j
      · subst h2; rw [if_pos (by omega), if_pos rfl]; congr 1; omega
      · rw [if_neg h2]
        by_cases h3 : t < k ∨ l.length - k ≤ t
        · rw [if_pos (by omega), if_pos h3]
        · rw [if_neg (by omega), if_neg h3]
  by_cases h1 : t = k
  · subst h1
    have hf1 : revF l (t + 1) t = l.getD j (0, 0) := by rw [hf, if_pos rfl]
    rw [hf1]
    constructor
    · rw [if_neg (by omega), if_neg (by omega), if_neg (by omega), if_pos rfl, if_pos (by omega)]
    · rw [if_neg (by omega), if_neg (by omega), if_pos rfl, if_pos (by omega)]
  · by_cases h2 : t = j
    · subst h2
      have hf1 : revF l (k + 1) t = l.getD k (0, 0) := by rw [hf, if_neg h1, if_pos rfl]
      rw [hf1]
      constructor
      · rw [if_neg (by omega), if_pos rfl, if_pos (by omega)]
      · rw [if_pos rfl, if_pos (by omega)]
    · have hf1 : revF l (k + 1) t = revF l k t := by rw [hf, if_neg h1, if_neg h2]
      rw [hf1]
      constructor
      · rw [if_neg (by omega), if_neg (by omega), if_neg (by omega), if_neg (by omega)]; exact e.1
      · rw [if_neg (by omega), if_neg (by omega), if_neg (by omega), if_neg (by omega)]; exact e.2
theorem RevC.done {l : List Pt} {k : Nat} {C : Array Value} (h : RevC l k C) (hk : l.length ≤ 2 * k + 1) : RevC l l.length C := by
  intro t ht
  have := h t ht
  rw [revF_end l hk ht] at this
  rw [revF_end l (by omega) ht]
  exact this
theorem revF_mid {l : List Pt} {k j : Nat} (hj : k + j + 1 = l.length) (hkj : k < j) : revF l k k = l.getD k (0, 0) ∧ revF l k j = l.getD j (0, 0) := by
  unfold revF
  rw [if_neg (by omega), if_neg (by omega)]
  exact ⟨rfl, rfl⟩
set_option maxRecDepth 100000 in
set_option maxHeartbeats 3200000 in
theorem lReverse (g c : Nat) (l : List Pt) (C0 : Array Value) (w : World) (hg : w.heap[g]? = some (.cells C0 38 (0, 0))) (hC : RevC l 0 C0) (hs : l.length * 2 ≤ C0.size) (hl : l.length ≤ 1000000) :
    Calls Tryz.prog 100 #[.slice (some ⟨g, 0, none⟩) l.length c] w fun e w' => e = .returned (.tuple #[]) ∧ But g w w' ∧ ∃ C, w'.heap[g]? = some (.cells C 38 (0, 0)) ∧ C.size = C0.size ∧ RevC l l.length C := by
  have HG := Lib.hid (And.intro hg hC)
  have HL := Lib.hid (And.intro hl hs)
  clear hg hC hl hs
  have hw0 : wrap64 ((l.length : Int) - 1) = (l.length : Int) - 1 := by have := HL.out.1; clear HG; unfold wrap64; omega
  go_enter Tryz.func100, Tryz.ntmps100
  ((try dsimp only); repeat (first | go_values | go_skip | go_guarded | go_step | go_upon))
  go_loopw [2, 3] (fun i jv wr => ∃ (k : Nat) (C : Array Value), i = .int .i64 (k : Int) ∧ jv = .int .i64 ((l.length : Int) - 1 - k) ∧ 2 * k ≤ l.length ∧ wr.heap[g]? = some (.cells C 38 (0, 0)) ∧ C.size = C0.size ∧ RevC l k C ∧ But g w wr) (fun i _ _ => l.length - (intOf i).toNat)
  case atStart => exact ⟨0, C0, rfl, vint (by omega), by omega, HG.out.1, rfl, HG.out.2, But.refl _ _⟩
  case round =>
    obtain ⟨k, C, rfl, rfl, hk, hrow, hCs, hR, hB⟩ := hrel
    have HK := Lib.hid (And.intro hrow (And.intro hCs (And.intro hR hB)))
    clear hrow hCs hR hB hw0
    by_cases h0 : (k : Int) < (l.length : Int) - 1 - k
    · obtain ⟨j, hj⟩ : ∃ j : Nat, (l.length : Int) - 1 - k = (j : Int) := ⟨l.length - 1 - k, by omega⟩
      have hj1 : k + j + 1 = l.length := by omega
      have hkj : k < j := by omega
      rw [hj] at h0
      rw [hj]
      have m := revF_mid hj1 hkj
      obtain ⟨x0, x1⟩ := HK.out.2.2.1 k (by omega)
      obtain ⟨y0, y1⟩ := HK.out.2.2.1 j (by omega)
      rw [m.1] at x0 x1
      rw [m.2] at y0 y1
      have HSt := Lib.hid (HK.out.2.2.1.step hj1 hkj (by have := HL.out.2; have := HK.out.2.1; omega))
      have HX := Lib.hid (And.intro hj1 hkj)
      have hki : (k : Int) < (l.length : Int) := by omega
      have hji : (j : Int) < (l.length : Int) := by omega
      have hkl : k < l.length := by omega
      have hjl : j < l.length := by omega
      have hw1 : wrap64 ((k : Int) + 1) = (k : Int) + 1 := by have := HL.out.1; clear HG HL HK HSt HX; unfold wrap64; omega
      have hw2 : wrap64 ((j : Int) - 1) = (j : Int) - 1 := by have := HL.out.1; clear HG HL HK HSt HX hw1; unfold wrap64; omega
      have W1 := Lib.hid (And.intro hw1 hw2)
      have HJ := Lib.hid hj
      clear m hj1 hkj hj hw1 hw2
      generalize l.getD k (0, 0) = p at *
      generalize l.getD j (0, 0) = q at *
      have hne1 : ¬ k * 2 = j * 2 := by have := HX.out; omega
      have c0 := (cell_of_cells HK.out.1 (k * 2)).trans x0
      have c1 := (cell_of_cells HK.out.1 (k * 2 + 1)).trans x1
      have c2 := (cell_of_cells HK.out.1 (j * 2)).trans y0
      have c3 := (cell_of_cells HK.out.1 (j * 2 + 1)).trans y1
      have HC := Lib.hid (And.intro c0 (And.intro c1 (And.intro c2 c3)))
      clear c0 c1 c2 c3
      go_upto_region 3 with (fail)
      refine start_ (n := 16) (S := fun w' => w'.heap[g]? = wr.heap[g]?) (ds := [13, 15]) (bt 16 0) (by kernel_rfl) rfl rfl (rfl) (fun hHeld => ?_)
      refine pv_ 0 14 ?_
      refine pv_ 1 15 ?_
      refine pv_ 2 16 ?_
      refine pv_ 3 17 ?_
      refine pv_ 4 18 ?_
      refine pv_ 5 19 ?_
      refine pv_ 6 20 ?_
      refine ld_ 7 21 ?_ hHeld ?_ ?_; rotate_left
      · rintro w' hs
        have hr := hs.trans HK.out.1
        have c0 := (cell_of_cells hr (k * 2)).trans x0
        have c1 := (cell_of_cells hr (k * 2 + 1)).trans x1
        have c2 := (cell_of_cells hr (j * 2)).trans y0
        have c3 := (cell_of_cells hr (j * 2 + 1)).trans y1
        clear hs hr
        go_simp; with_reducible rfl
      refine pv_ 8 22 ?_
      refine pv_ 9 23 ?_
      refine pv_ 10 24 ?_
      refine ld_ 11 25 ?_ hHeld ?_ ?_; rotate_left
      · rintro w' hs
        have hr := hs.trans HK.out.1
        have c0 := (cell_of_cells hr (k * 2)).trans x0
        have c1 := (cell_of_cells hr (k * 2 + 1)).trans x1
        have c2 := (cell_of_cells hr (j * 2)).trans y0
        have c3 := (cell_of_cells hr (j * 2 + 1)).trans y1
        clear hs hr
        go_simp; with_reducible rfl
      refine pv_ 12 26 ?_
      refine last_ (i := 13) (N := none) (bt 16 16383) rfl rfl (by kernel_rfl) (by decide) (fun K hK => ?_)
      have r0 := HK.out.1
      have c0 := (cell_of_cells r0 (k * 2)).trans x0
      have c1 := (cell_of_cells r0 (k * 2 + 1)).trans x1
      have f0 := free_of_cells r0 (k * 2)
      have f1 := free_of_cells r0 (k * 2 + 1)
      refine skip_ (w1 := ?_) (by rfl) rfl ?_ ?_
      rotate_left
      · go_simp
        rfl
      refine hK.out _ _ ?_
      clear hK K
      refine pv_ 14 27 ?_
      refine last_ (i := 15) (N := none) (bt 16 65535) rfl rfl (by kernel_rfl) (by decide) (fun K hK => ?_)
      clear c0 c1 f0 f1
      have r1 := heap_set_cell (heap_set_cell HK.out.1 (k * 2) (.int .u64 q.1)) (k * 2 + 1) (.int .u64 q.2)
      have c2 := (cell_of_cells r1 (j * 2)).trans (((Array.getElem?_setIfInBounds_ne (by have := HX.out; omega)).trans (Array.getElem?_setIfInBounds_ne (by have := HX.out; omega))).trans y0)
      have c3 := (cell_of_cells r1 (j * 2 + 1)).trans (((Array.getElem?_setIfInBounds_ne (by have := HX.out; omega)).trans (Array.getElem?_setIfInBounds_ne (by have := HX.out; omega))).trans y1)
      have f2 := free_of_cells r1 (j * 2)
      have f3 := free_of_cells r1 (j * 2 + 1)
      refine skip_ (w1 := ?_) (by rfl) rfl ?_ ?_
      rotate_left
      · go_simp
        rfl
      refine hK.out _ _ ?_
      clear hK K
      refine done_ (by kernel_rfl) ?_
      have hb := (((HK.out.2.2.2.setCell (k * 2) (.int .u64 q.1)).setCell (k * 2 + 1) (.int .u64 q.2)).setCell (j * 2) (.int .u64 p.1)).setCell (j * 2 + 1) (.int .u64 p.2)
      have hr := heap_set_cell (heap_set_cell r1 (j * 2) (.int .u64 p.1)) (j * 2 + 1) (.int .u64 p.2)
      have HE := Lib.hid (And.intro hb hr)
      clear hb hr r1 c2 c3 f2 f3 r0 hHeld x0 x1 y0 y1
      ((try dsimp only); repeat (first | go_values | go_skip | go_guarded | go_step | go_upon))
      have hlen : l.length - (intOf (.int .i64 (wrap64 ((k : Int) + 1)))).toNat < l.length - (intOf (.int .i64 (k : Int))).toNat := by
        rw [W1.out.1]
        have hk0 := HX.out
        clear HG HL HK HSt HC HE W1 HJ
        show l.length - ((k : Int) + 1).toNat < l.length - ((k : Int)).toNat
        omega
      refine ⟨⟨k + 1, _, vint (by rw [W1.out.1]; rfl), vint ?_, by have := HX.out; omega, HE.out.2, by simpa using HK.out.2.1, HSt.out, HE.out.1.trans (But.of ((Below.refl _ _).drew))⟩, hlen⟩
      rw [W1.out.2]
      have hx := HX.out.1
      clear HG HL HK HSt HC HE W1 HJ hlen
      omega
    · have hki : ¬ (k : Int) < (l.length : Int) - 1 - (k : Int) := h0
      ((try dsimp only); repeat (first | go_values | go_skip | go_guarded | go_step | go_upon))
      exact ⟨rfl, .tuple #[], (by have hr : Tryz.f100.results = #[] := rfl; simp [results, hr]), rfl, HK.out.2.2.2, C, HK.out.1, HK.out.2.1, HK.out.2.2.1.done (by omega)⟩
theorem lReverseOwn (b0 n : Nat) (v : Value) (l : List Pt) (w : World) (hown : w.ownsRow b0 38 2 v n (ptC l)) (hn : n = l.length) (h0 : 0 < n) (hl : l.length ≤ 1000000) :
    Calls Tryz.prog 100 #[v] w fun e w' => e = .returned (.tuple #[]) ∧ PtV w' v l.reverse ∧ Below b0 w w' := by
  subst hn
  rcases hown.2 with ⟨_, e⟩ | ⟨g, cap, cur, rfl, hbg, hg, hnc, hcm, hcs, htake⟩
  · omega
  · have hget : ∀ i, i < (ptC l).length → cur[i]? = (ptC l)[i]? := fun i hi => by
      have := congrArg (fun x => x[i]?) htake
      simp only [List.getElem?_take] at this
      rw [ptC_len] at hi
      rw [if_pos (by omega)] at this
      rw [← this, Array.getElem?_toList]
    refine (lReverse g cap l cur w hg (fun t ht => ?_) (by omega) hl).mono ?_
    · obtain ⟨k1, k2⟩ := ptC_get l t ht
      rw [revF_zero l ht, hget _ (by rw [ptC_len]; omega), hget _ (by rw [ptC_len]; omega)]
      exact ⟨k1, k2⟩
    · rintro e w' ⟨rfl, hb, C, hC, hCs, hR⟩
      refine ⟨rfl, ⟨g, cap, by rw [List.length_reverse], Or.inr ⟨g, 0, rfl, heap_lt hC, fun t ht => ?_⟩, by rw [List.length_reverse]; exact hnc⟩, hb.below (Nat.le_trans hbg (Nat.le_of_lt (heap_lt hg))) hbg⟩
      rw [List.length_reverse] at ht
      have := hR t ht
      rw [revF_end l (by omega) ht] at this
      exact ⟨by rw [cell_of_cells hC, Nat.zero_add]; exact this.1, by rw [cell_of_cells hC, Nat.zero_add]; exact this.2⟩
end Go.Proofs.YtfpofmifmapmfaaGreatDoor

namespace Go.Proofs.YtfpofmifmapmfaaGreatDoor
open Go.RowKit Go.Proofs.YtfpofmifmapmfaaGreatDoorW.PrintLast
set_option linter.unusedVariables false
set_option linter.unusedSimpArgs false
set_option maxRecDepth 100000 in
set_option maxHeartbeats 6400000 in
theorem gStart (A : Option Addr) (c : Nat) (r : List Pt) (left : Bool) (w : World) (hp : PtsIn w A r) (h2 : 2 ≤ r.length) (hl : r.length ≤ 1000) (hc : r.length ≤ c) (hu : ∀ q ∈ r, PtU q) (hk : chkE r [] = 0) :
    Calls Tryz.prog 41 #[.slice A r.length c, .bool left] w fun e w' => ∃ v m, e = .returned (.tuple #[v, .int .i64 0]) ∧ bestL (r.take (r.length - 1)) left (turnV r).1 = some m ∧ w'.ownsRow w.heap.size 38 2 v (m.length + 1) (ptC (m ++ [m.getD 0 (0, 0)])) ∧ Below w.heap.size w w' := by
  have HT := Lib.hid (gTurn A c r w hp (by omega) hu)
  have ht : (turnV r).2 = 0 := by unfold turnV; rw [hk]; rfl
  rw [ht] at HT
  have ct : (turnV r).1 = -1 ∨ (turnV r).1 = 0 ∨ (turnV r).1 = 1 := by
    unfold turnV; rw [if_neg (by omega)]; exact qsgn_cases _
  generalize (turnV r).1 = t at *
  clear ht
  obtain ⟨b, o, rfl, hb, hpa⟩ := hp.open (k := 0) (by omega)
  obtain ⟨n, hn⟩ : ∃ n, r.length = n + 1 := ⟨r.length - 1, by omega⟩
  have hx : (r.take n).length = n := by rw [List.length_take]; omega
  rw [show r.length - 1 = n by omega]
  have HP := Lib.hid (pts_take hp n)
  have HU : Hid (∀ q ∈ r.take n, PtU q) := Lib.hid (fun q hq => hu q (List.mem_of_mem_take hq))
  have HN : Hid (1 ≤ n ∧ n ≤ 999 ∧ n + 1 ≤ c) := Lib.hid (by omega)
  have l1 : ((r.length : Int) == 1) = false := beq_eq_false_iff_ne.2 (by omega)
  have l2 : wrap64 ((r.length : Int) - 1) = (n : Int) := by clear HT HP HU HN; unfold wrap64; omega
  have l3 : (n : Int) ≤ (c : Int) := by omega
  have l4 : n ≤ c := by omega
  have HCt := Lib.hid ct
  clear hp hl hc hu hk hpa ct h2 hn
  generalize r.take n = l at *
  subst hx
  go_enter Tryz.func41, Tryz.ntmps41
  ((try dsimp only); repeat (first | go_values | go_skip | go_guarded | go_step | go_upon))
  refine HT.out.mono ?_
  rintro e w1 ⟨rfl, hb1⟩
  have hP1 := HP.out.keep hb1
  have hs1 := hb1.size
  have hln : l.length ≤ 1000000 := by have := HN.out; omega
  have HB1 := Lib.hid (hb1.mono (Nat.le_refl _) : Below w.heap.size w w1)
  clear hb1 HT HP
  go_upto_region 6 with (fail)
  ((try dsimp only); repeat (first | (with_reducible refine wpList_app_pts rfl (.const (.slice none 0 0)) (.tmp 30) rfl rfl w.heap.size 0 c (.slice none 0 0) [] l (some ⟨b, o, none⟩) rfl rfl (World.ownsRow_nil _ _ _ _) hP1 (by omega) hln hs1 ?_) | go_values | go_skip | go_guarded | go_step | go_upon))
  intro v8 w2 hown2 hgr
  have hb2 := ownsRow_below (World.ownsRow_nil w1 w.heap.size 38 2) HB1.out hs1 hgr
  have hs2 := hb2.size
  rw [List.nil_append, Nat.zero_add] at hown2
  have h0 : 0 < l.length := by have := HN.out; omega
  have HB2 := Lib.hid hb2
  have HPV := Lib.hid (own_best hown2 rfl h0)
  clear hb2 hgr hP1 hs1 HB1 hown2
  obtain ⟨g8, c8, rfl, hp2, hc8⟩ := HPV.out
  have HC8 := Lib.hid hc8
  clear hc8 HPV
  go_upto_region 7 with (fail)
  ((try dsimp only); repeat (first | (with_reducible refine wpList_app_pts rfl (.const (.slice none 0 0)) (.tmp 32) rfl rfl w2.heap.size 0 c8 (.slice none 0 0) [] l (some ⟨g8, 0, none⟩) rfl rfl (World.ownsRow_nil _ _ _ _) hp2 (by omega) hln (Nat.le_refl _) ?_) | go_values | go_skip | go_guarded | go_step | go_upon))
  intro v9 w3 hown3 hgr
  have hk3 := ownsRow_below (World.ownsRow_nil w2 w2.heap.size 38 2) (Below.refl w2.heap.size w2) (Nat.le_refl _) hgr
  rw [List.nil_append, Nat.zero_add] at hown3
  have HRv := Lib.hid (lReverseOwn w2.heap.size l.length v9 l w3 hown3 rfl h0 hln)
  have HP2 := Lib.hid hp2
  have HK3 := Lib.hid hk3
  clear hown3 hgr hk3 hp2
  go_upto_block 0 with fail
  refine HRv.out.mono ?_
  rintro e w4 ⟨rfl, hpv, hb4⟩
  have hk4 := HK3.out.trans hb4
  obtain ⟨g9, c9, rfl, hp9, hc9⟩ := hpv
  have hp8 := HP2.out.keep hk4
  have hB4 := HB2.out.trans (hk4.mono HB2.out.size)
  have hlr : l.reverse.length = l.length := by simp
  have HR : Hid (∀ q ∈ l.reverse, PtU q) := Lib.hid (fun q hq => HU.out q (List.mem_reverse.1 hq))
  have HBst : Hid (bestL l left t = if t = 0 then leastK l.reverse (leastK l none l.length) l.reverse.length else if decide (0 < t) = left then leastK l none l.length else leastK l.reverse none l.reverse.length) := Lib.hid rfl
  have HLen : Hid (∀ m, bestL l left t = some m → m.length = l.length) := Lib.hid (fun m hm => by
    obtain ⟨x, hx, hs⟩ := bestL_least h0 left t
    rw [hx] at hm
    cases hm
    exact start_len hs.1)
  have HEx : Hid (∃ m, bestL l left t = some m) := Lib.hid (by obtain ⟨x, hx, _⟩ := bestL_least h0 left t; exact ⟨x, hx⟩)
  have HFirst : Hid (∀ m, leastK l none l.length = some m → m.length ≤ 1000000 ∧ ∀ q ∈ m, PtU q) := Lib.hid (fun m hm => by
    rcases leastK_from l none l.length hm with h | ⟨i, rfl⟩
    · cases h
    · exact ⟨by rw [rot_len]; exact hln, fun q hq => HU.out q (rot_mem.1 hq)⟩)
  generalize l.reverse = lr at *
  have hl5 : l.length ≤ 100000 := by have := HN.out; omega
  have hlr5 : lr.length ≤ 100000 := by omega
  have HM8 := Lib.hid (And.intro hp8 (And.intro hp9 (And.intro hB4 (And.intro hc9 (And.intro hl5 hlr5)))))
  clear hk4 hb4 hp8 hp9 hB4 hc9 HP2 HK3 HRv hlr hl5 hlr5 l1 l2 l3 l4
  go_upto_block 0 with fail
  go_cut [10] (fun x wx => BestV w.heap.size wx x (bestL l left t) ∧ Below w.heap.size w wx)
  case first =>
    have HL8 := Lib.hid (lLeast (some ⟨g8, 0, none⟩) c8 l (.slice none 0 0) none w4 HM8.out.1 HM8.out.2.2.2.2.1 HC8.out w.heap.size HM8.out.2.2.1.size rfl HU.out (by intro m h; cases h))
    have HL9 := Lib.hid (lLeast (some ⟨g9, 0, none⟩) c9 lr (.slice none 0 0) none w4 HM8.out.2.1 HM8.out.2.2.2.2.2 HM8.out.2.2.2.1 w.heap.size HM8.out.2.2.1.size rfl HR.out (by intro m h; cases h))
    by_cases ht0 : t = 0
    · obtain rfl := ht0
      rw [if_pos rfl] at HBst
      ((try dsimp only); repeat (first | go_values | go_skip | go_guarded | go_step | go_upon))
      refine HL8.out.mono ?_
      rintro e w5 ⟨v5, rfl, hbest5, hb5⟩
      have HL10 := Lib.hid (lLeast (some ⟨g9, 0, none⟩) c9 lr v5 (leastK l none l.length) w5 (HM8.out.2.1.keep hb5) HM8.out.2.2.2.2.2 HM8.out.2.2.2.1 w.heap.size (Nat.le_trans HM8.out.2.2.1.size hb5.size) hbest5 HR.out HFirst.out)
      have HB5 := Lib.hid (HM8.out.2.2.1.trans (hb5.mono HM8.out.2.2.1.size))
      clear hb5 hbest5 HL8 HL9
      ((try dsimp only); repeat (first | go_values | go_skip | go_guarded | go_step | go_upon))
      refine HL10.out.mono ?_
      rintro e w6 ⟨v6, rfl, hbest6, hb6⟩
      rw [← HBst.out] at hbest6
      have HE := Lib.hid (And.intro hbest6 (HB5.out.trans (hb6.mono HB5.out.size)))
      clear hb6 hbest6 HB5 HL10
      ((try dsimp only); repeat (first | go_values | go_skip | go_guarded | go_step | go_upon))
      go_meet
      exact HE.out
    · have ht1 : (t == 0) = false := beq_eq_false_iff_ne.2 ht0
      rw [if_neg ht0] at HBst
      have HT0 := Lib.hid ht0
      clear ht0
      by_cases htl : decide (0 < t) = left
      · rw [if_pos htl] at HBst
        have hTL : (decide (0 < t) == left) = true := beq_iff_eq.2 htl
        ((try dsimp only); repeat (first | go_values | go_skip | go_guarded | go_step | go_upon))
        refine HL8.out.mono ?_
        rintro e w5 ⟨v5, rfl, hbest5, hb5⟩
        rw [← HBst.out] at hbest5
        have HE := Lib.hid (And.intro hbest5 (HM8.out.2.2.1.trans (hb5.mono HM8.out.2.2.1.size)))
        clear hb5 hbest5 HL8 HL9
        ((try dsimp only); repeat (first | go_values | go_skip | go_guarded | go_step | go_upon))
        go_meet
        exact HE.out
      · rw [if_neg htl] at HBst
        have hTL : (decide (0 < t) == left) = false := beq_eq_false_iff_ne.2 htl
        ((try dsimp only); repeat (first | go_values | go_skip | go_guarded | go_step | go_upon))
        refine HL9.out.mono ?_
        rintro e w5 ⟨v5, rfl, hbest5, hb5⟩
        rw [← HBst.out] at hbest5
        have HE := Lib.hid (And.intro hbest5 (HM8.out.2.2.1.trans (hb5.mono HM8.out.2.2.1.size)))
        clear hb5 hbest5 HL8 HL9
        ((try dsimp only); repeat (first | go_values | go_skip | go_guarded | go_step | go_upon))
        go_meet
        exact HE.out
  case rest =>
    obtain ⟨hbest, hB⟩ := hcut
    obtain ⟨m, hm⟩ := HEx.out
    have hml := HLen.out m hm
    rw [hm] at hbest
    obtain ⟨hown, hm0⟩ := hbest
    obtain ⟨gm, cm, hv, hpm, hcm⟩ := own_best hown rfl hm0
    subst hv
    obtain ⟨b1, o1, e1, hbm, hpa⟩ := hpm.open (k := 0) hm0
    cases e1
    obtain ⟨c0, c1⟩ := hpa 0 hm0
    obtain ⟨w5, hw5⟩ : ∃ x, x = wc := ⟨_, rfl⟩
    subst hw5
    have HMM := Lib.hid hm
    have hml6 : m.length ≤ 1000000 := by omega
    have hmi : (0 : Int) < (m.length : Int) := by omega
    clear hpa hpm HEx HLen HFirst HBst HM8 HR HU HCt HN HB2 HC8 hm hml hln
    rw [Nat.zero_mul, Nat.add_zero] at c0
    rw [Nat.zero_mul, Nat.add_zero] at c1
    generalize hp0 : m.getD 0 (0, 0) = p at *
    have hk := hB.alloc hB.size (.cells #[.int .u64 p.1, .int .u64 p.2] 38)
    have hO := World.ownsRow.alloc hown (.cells #[.int .u64 p.1, .int .u64 p.2] 38)
    have hn := alloc_new w5 (.cells #[.int .u64 p.1, .int .u64 p.2] 38)
    have hP : PtsIn (w5.alloc (.cells #[.int .u64 p.1, .int .u64 p.2] 38)) (some ⟨w5.heap.size, 0, none⟩) [p] := Or.inr ⟨_, 0, rfl, heap_lt hn, pts_one hn⟩
    have hs := hk.size
    have hone : [p].length ≤ 1000000 := by simp
    clear hown hB hn
    go_upto_region 15 with (fail)
    ((try dsimp only); repeat (first | (with_reducible refine wpList_app_pts rfl (.tmp 52) (.tmp 56) rfl rfl w.heap.size m.length 1 (.slice (some ⟨gm, 0, none⟩) m.length cm) m [p] (some ⟨w5.heap.size, 0, none⟩) rfl rfl hO hP hml6 hone hs ?_) | go_values | go_skip | go_guarded | go_step | go_upon))
    intro v15 w6 hown6 hgr
    have hk6 := ownsRow_below hO hk hs hgr
    have HE := Lib.hid (And.intro hown6 hk6)
    clear hown6 hk6 hgr hk hO hP hs hone
    ((try dsimp only); repeat (first | go_values | go_skip | go_guarded | go_step | go_upon))
    exact ⟨rfl, .tuple #[v15, .int .i64 0], (by have hr : Tryz.f41.results = #[.tmp 4, .tmp 5] := rfl; simp [results, hr]), v15, m, rfl, HMM.out, by rw [hp0]; exact HE.out.1, HE.out.2⟩
end Go.Proofs.YtfpofmifmapmfaaGreatDoor

namespace Go.Proofs.YtfpofmifmapmfaaGreatDoor
open Go.RowKit Go.Proofs.YtfpofmifmapmfaaGreatDoorW.PrintLast
set_option linter.unusedVariables false
set_option linter.unusedSimpArgs false
theorem bgn_len (l : List Pt) (j : Nat) (back : Bool) : (bgnL l j back).length = l.length := by
  unfold bgnL
  rw [rot_len]
  cases back
  · rfl
  · simp
theorem bgn_get (l : List Pt) {j k : Nat} (back : Bool) (hj : j < l.length) (hk : k < l.length) : (bgnL l j back).getD k (0, 0) = l.getD (if back then l.length - 1 - (k + j) % l.length else (k + j) % l.length) (0, 0) := by
  have hm : (if j + k < l.length then j + k else j + k - l.length) = (k + j) % l.length := by
    split
    · rw [Nat.mod_eq_of_lt (by omega)]; omega
    · rw [Nat.mod_eq_sub_mod (by omega), Nat.mod_eq_of_lt (by omega)]; omega
  have hlt : (k + j) % l.length < l.length := Nat.mod_lt _ (by omega)
  unfold bgnL
  cases back
  · rw [List.getD_eq_getElem?_getD, if_neg (by simp), rot_at l (by omega) hk, hm, if_neg (by simp), List.getD_eq_getElem?_getD]
  · have e : l.reverse.length = l.length := by simp
    have := rot_at l.reverse (i := j) (by omega) (t := k) (by omega)
    rw [e, hm, List.getElem?_reverse hlt] at this
    rw [List.getD_eq_getElem?_getD, if_pos rfl, this, if_pos rfl, List.getD_eq_getElem?_getD]
theorem bgn_take (l : List Pt) {j k : Nat} (back : Bool) (hk : k < l.length) : (bgnL l j back).take (k + 1) = (bgnL l j back).take k ++ [(bgnL l j back).getD k (0, 0)] := by
  have := bgn_len l j back
  rw [List.take_add_one, List.getD_eq_getElem?_getD, List.getElem?_eq_getElem (by omega)]; rfl
set_option maxRecDepth 100000 in
set_option maxHeartbeats 3200000 in
theorem lBegun (A : Option Addr) (c : Nat) (l : List Pt) (kk : Int) (j0 : Nat) (back : Bool) (w : World) (hp : PtsIn w A l) (hl : l.length ≤ 100000) (hj : j0 < l.length) (hjk : wrap64 ((IntKind.u64.wrap kk).tmod (l.length : Int)) = (j0 : Int)) :
    Calls Tryz.prog 43 #[.slice A l.length c, .int .i64 kk, .bool back] w fun e w' => ∃ v, e = .returned v ∧ w'.ownsRow w.heap.size 38 2 v l.length (ptC (bgnL l j0 back)) ∧ Below w.heap.size w w' := by
  have HP := Lib.hid hp
  have HL := Lib.hid (And.intro hl hj)
  have HJ := Lib.hid hjk
  clear hp hl hj hjk
  go_enter Tryz.func43, Tryz.ntmps43
  ((try dsimp only); repeat (first | go_values | go_skip | go_guarded | go_step | go_upon))
  go_loopw [7, 9] (fun v i wr => ∃ (k : Nat) (vv : Value), v = vv ∧ i = .int .i64 (k : Int) ∧ k ≤ l.length ∧ wr.ownsRow w.heap.size 38 2 vv k (ptC ((bgnL l j0 back).take k)) ∧ Below w.heap.size w wr) (fun _ i _ => l.length - (intOf i).toNat)
  case atStart => exact ⟨0, _, rfl, rfl, Nat.zero_le _, World.ownsRow_nil _ _ _ _, Below.refl _ _⟩
  case round =>
    obtain ⟨k, vv, hvv, rfl, hk, hown, hB⟩ := hrel
    have hvv' := hvv.symm
    subst hvv'
    by_cases h0 : k < l.length
    · obtain ⟨b, o, rfl, hb, hpa⟩ := HP.out.open h0
      have HT := Lib.hid (bgn_take l (j := j0) back h0)
      have hget := bgn_get l back HL.out.2 h0
      obtain ⟨jj, hjj, hjl⟩ : ∃ jj : Nat, (k + j0) % l.length = jj ∧ jj < l.length := ⟨_, rfl, Nat.mod_lt _ (by omega)⟩
      rw [hjj] at hget
      have hki : (k : Int) < (l.length : Int) := by omega
      have hu : IntKind.u64.wrap (l.length : Int) = (l.length : Int) := by
        show (l.length : Int) % 18446744073709551616 = _
        have := HL.out.1
        omega
      have hne : ¬ (l.length : Int) = 0 := by omega
      have hne2 : ((l.length : Int) == 0) = false := beq_eq_false_iff_ne.2 hne
      have e1 : wrap64 ((k : Int) + (j0 : Int)) = ((k + j0 : Nat) : Int) := by have := HL.out; clear HP HL HJ HT hget hu; unfold wrap64; omega
      have e2 : (((k + j0 : Nat) : Int)).tmod (l.length : Int) = (jj : Int) := by rw [Int.tmod_eq_emod_of_nonneg (Int.natCast_nonneg _), ← hjj]; exact (Int.natCast_emod _ _).symm
      have e3 : wrap64 (jj : Int) = (jj : Int) := by have := HL.out; clear HP HL HJ HT hget hu e1 e2; unfold wrap64; omega
      have hw1 : wrap64 ((k : Int) + 1) = ((k + 1 : Nat) : Int) := by have := HL.out; clear HP HL HJ HT hget hu e1 e2 e3; unfold wrap64; omega
      have W1 := Lib.hid hw1
      have EE := Lib.hid (And.intro e1 (And.intro e2 e3))
      have HO := Lib.hid (And.intro hown (And.intro hB h0))
      have HG := Lib.hid (And.intro hget (And.intro hjl (And.intro hb hpa)))
      clear hw1 e1 e2 e3 hown hB hget hjj hpa hjl
      go_upto_region 7 with (fail)
      rw [HJ.out, EE.out.1, EE.out.2.1]
      obtain ⟨jx, hjx⟩ : ∃ jx : Nat, (if back = true then l.length - 1 - jj else jj) = jx := ⟨_, rfl⟩
      rw [hjx] at HG
      have HX := Lib.hid hjx
      have f1 : wrap64 ((l.length : Int) - 1) = ((l.length - 1 : Nat) : Int) := by have h1 := HL.out; clear HJ HT HP HO HG EE W1 HX hu hjx hne hne2; unfold wrap64; omega
      have f2 : wrap64 (((l.length - 1 : Nat) : Int) - (jj : Int)) = ((l.length - 1 - jj : Nat) : Int) := by have h1 := HL.out; have h2 := HG.out.2.1; clear HJ HT HP HO HG EE W1 HX hu hjx hne hne2 f1; unfold wrap64; omega
      have FF := Lib.hid (And.intro f1 f2)
      clear hjx f1 f2
      go_upto_if 28 with (fail)
      go_cut [10] (fun x wx => x = .int .i64 (jx : Int) ∧ wx = wr)
      case first =>
        cases back
        · ((try dsimp only); repeat (first | go_values | go_skip | go_guarded | go_step | go_upon))
          go_meet
          exact ⟨by rw [← HX.out]; rfl, rfl⟩
        · ((try dsimp only); repeat (first | go_values | go_skip | go_guarded | go_step | go_upon))
          go_meet
          refine ⟨?_, rfl⟩
          rw [FF.out.1, FF.out.2, ← HX.out]
          rfl
      case rest =>
        obtain ⟨rfl, hwx⟩ := hcut
        obtain rfl := hwx
        have hjl : jx < l.length := by
          rw [← HX.out]
          have := HG.out.2.1
          split <;> omega
        have hown := HO.out.1
        have hB := HO.out.2.1
        have hpj := HG.out.2.2.2 jx hjl
        have c0 := (hB.cell (p := ⟨b, o + jx * 2, none⟩) HG.out.2.2.1).trans hpj.1
        have c1 := (hB.cell (p := ⟨b, o + jx * 2 + 1, none⟩) HG.out.2.2.1).trans hpj.2
        obtain ⟨w5, hw5⟩ : ∃ x, x = wc := ⟨_, rfl⟩
        subst hw5
        have hk6 : k ≤ 1000000 := by have := HL.out.1; omega
        have hji : (jx : Int) < (l.length : Int) := by omega
        rw [HG.out.1] at HT
        clear hpj
        generalize l.getD jx (0, 0) = p at *
        have hkk := hB.alloc hB.size (.cells #[.int .u64 p.1, .int .u64 p.2] 38)
        have hO := World.ownsRow.alloc hown (.cells #[.int .u64 p.1, .int .u64 p.2] 38)
        have hn := alloc_new w5 (.cells #[.int .u64 p.1, .int .u64 p.2] 38)
        have hP : PtsIn (w5.alloc (.cells #[.int .u64 p.1, .int .u64 p.2] 38)) (some ⟨w5.heap.size, 0, none⟩) [p] := Or.inr ⟨_, 0, rfl, heap_lt hn, pts_one hn⟩
        have hs := hkk.size
        have hone : [p].length ≤ 1000000 := by simp
        clear hown hB hn
        go_upto_region 9 with (fail)
        ((try dsimp only); repeat (first | (with_reducible refine wpList_app_pts rfl (.tmp 33) (.tmp 38) rfl rfl w.heap.size k 1 vv ((bgnL l j0 back).take k) [p] (some ⟨w5.heap.size, 0, none⟩) rfl rfl hO hP hk6 hone hs ?_) | go_values | go_skip | go_guarded | go_step | go_upon))
        intro v9 w6 hown6 hgr
        have hk7 := ownsRow_below hO hkk hs hgr
        rw [← HT.out] at hown6
        have HE := Lib.hid (And.intro hown6 (And.intro hk7 HO.out.2.2))
        clear hown6 hk7 hgr hkk hO hP hs hone c0 c1 HO HG HX FF EE hne hne2 hu hji hjl
        ((try dsimp only); repeat (first | go_values | go_skip | go_guarded | go_step | go_upon))
        refine ⟨⟨k + 1, v9, rfl, vint rfl, HE.out.2.2, HE.out.1, HE.out.2.1⟩, ?_⟩
        have hk0 := HE.out.2.2
        clear HE HT HP HL HJ W1
        show l.length - ((k : Int) + 1).toNat < l.length - ((k : Int)).toNat
        omega
    · obtain rfl : k = l.length := by omega
      have HO := Lib.hid (And.intro hown hB)
      clear hown hB
      have hki : ¬ (l.length : Int) < (l.length : Int) := by omega
      ((try dsimp only); repeat (first | go_values | go_skip | go_guarded | go_step | go_upon))
      go_ret
      exact ⟨_, rfl, by rw [List.take_of_length_le (by rw [bgn_len]; exact Nat.le_refl _)] at HO; exact HO.out.1, HO.out.2⟩
end Go.Proofs.YtfpofmifmapmfaaGreatDoor

namespace Go.Proofs.YtfpofmifmapmfaaGreatDoor
open Go.RowKit Go.Proofs.YtfpofmifmapmfaaGreatDoorW.PrintLast
set_option linter.unusedVariables false
set_option linter.unusedSimpArgs false
theorem closed_chk {l more : List Pt} (h : 0 < l.length) (hl : l.length ≤ 511) : chkE (closedL l) more = if (finB l && finB more) = true then 0 else 220 := by
  rcases l with _ | ⟨x, m⟩
  · simp at h
  rw [closedL_cons]
  rw [List.length_cons] at hl
  have e1 : (x :: m ++ [x]).length = m.length + 2 := by simp
  have e2 : (x :: m ++ [x]).getD 0 (0, 0) = x := rfl
  have e3 : (x :: m ++ [x]).getD ((x :: m ++ [x]).length - 1) (0, 0) = x := by
    rw [e1, List.getD_eq_getElem?_getD, List.getElem?_append_right (by simp), List.length_cons]
    simp
  have e4 : finB (x :: m ++ [x]) = finB (x :: m) := by
    rw [finB_app]
    cases h : finB (x :: m)
    · rfl
    · have := finB_at (a := x :: m) (k := 0) (by simp) h
      simpa using this
  unfold chkE
  rw [e2, e3, e4, pcmpP_self, e1, if_neg (by omega)]
  cases finB (x :: m) && finB more <;> rfl
theorem closed_chk0 {l : List Pt} (h : 0 < l.length) (hl : l.length ≤ 511) (hf : finB l = true) : chkE (closedL l) [] = 0 := by
  rw [closed_chk h hl, hf]; rfl
theorem closed_chkN {l : List Pt} (h : 0 < l.length) (hl : l.length ≤ 511) (hf : finB l = false) : chkE (closedL l) [] = 220 := by
  rw [closed_chk h hl, hf]; rfl
theorem closed_turn {l : List Pt} (h : 0 < l.length) (hl : l.length ≤ 511) (hf : finB l = true) : turnV (closedL l) = (turnP l, 0) := by
  unfold turnV turnP
  rw [closed_chk0 h hl hf, if_neg (by simp), edgesR_pth]
theorem closed_take {l : List Pt} (h : 0 < l.length) : (closedL l).take ((closedL l).length - 1) = l := by
  rw [closedL_len h, closedL_of (by intro e; rw [e] at h; simp at h)]
  simp
theorem cTurn (A : Option Addr) (c : Nat) (m : List Pt) (h : 0 < m.length) (hl : m.length ≤ 511) (hf : finB m = true) (hu : ∀ q ∈ m, PtU q) (w : World) (hp : PtsIn w A (closedL m)) :
    Calls Tryz.prog 18 #[.slice A (m.length + 1) c] w fun e w' => e = .returned (.tuple #[.int .i64 (turnP m), .int .i64 0]) ∧ Below w.heap.size w w' := by
  have := gTurn A c (closedL m) w hp (by rw [closedL_len h]; omega) (fun q hq => hu q (closedL_mem.1 hq))
  rw [closedL_len h, closed_turn h hl hf] at this
  exact this
theorem cStart (A : Option Addr) (c : Nat) (l : List Pt) (left : Bool) (h : 0 < l.length) (hl : l.length ≤ 511) (hc : l.length + 1 ≤ c) (hf : finB l = true) (hu : ∀ q ∈ l, PtU q) (w : World) (hp : PtsIn w A (closedL l)) :
    Calls Tryz.prog 41 #[.slice A (l.length + 1) c, .bool left] w fun e w' => ∃ g c2 m, e = .returned (.tuple #[.slice (some ⟨g, 0, none⟩) (l.length + 1) c2, .int .i64 0]) ∧ m.length = l.length ∧ l.length + 1 ≤ c2 ∧ LeastOf (StartOf l left (turnP l)) m ∧ PtsIn w' (some ⟨g, 0, none⟩) (closedL m) ∧ Below w.heap.size w w' := by
  have := gStart A c (closedL l) left w hp (by rw [closedL_len h]; omega) (by rw [closedL_len h]; omega) (by rw [closedL_len h]; exact hc) (fun q hq => hu q (closedL_mem.1 hq)) (closed_chk0 h hl hf)
  rw [closedL_len h] at this
  refine this.mono ?_
  rintro e w' ⟨v, m, rfl, hb, hown, hB⟩
  rw [← closedL_len h, closed_take h, closed_turn h hl hf] at hb
  obtain ⟨x, hx, hL⟩ := bestL_least h left (turnP l)
  rw [hx] at hb
  cases hb
  have hml := start_len hL.1
  have hm0 : 0 < m.length := by omega
  obtain ⟨g, c2, rfl, _, _, hcc⟩ := own_value hown (by omega)
  rw [← closedL_of (by intro e; rw [e] at hm0; simp at hm0)] at hown
  have hp' := own_pts hown (closedL_len hm0)
  rw [hml] at hcc
  rw [hml]
  exact ⟨g, c2, m, rfl, hml, hcc, hL, hp', hB⟩
set_option maxRecDepth 100000 in
set_option maxHeartbeats 1600000 in
theorem gStartNo (A : Option Addr) (c : Nat) (r : List Pt) (left : Bool) (w : World) (hp : PtsIn w A r) (hl : r.length ≤ 1000) (hu : ∀ q ∈ r, PtU q) (hk : chkE r [] = 220) :
    Calls Tryz.prog 41 #[.slice A r.length c, .bool left] w fun e w' => e = .returned (.tuple #[.slice none 0 0, .int .i64 220]) ∧ Below w.heap.size w w' := by
  have HT := Lib.hid (gTurn A c r w hp (by omega) hu)
  have ht : turnV r = (0, 220) := by unfold turnV; rw [hk]; rfl
  rw [ht] at HT
  clear hp hl hu hk ht
  go_enter Tryz.func41, Tryz.ntmps41
  ((try dsimp only); repeat (first | go_values | go_skip | go_guarded | go_step | go_upon))
  refine HT.out.mono ?_
  rintro e w1 ⟨rfl, hb1⟩
  have HB1 := Lib.hid hb1
  clear hb1 HT
  ((try dsimp only); repeat (first | go_values | go_skip | go_guarded | go_step | go_upon))
  exact ⟨rfl, .tuple #[.slice none 0 0, .int .i64 220], (by have hr : Tryz.f41.results = #[.tmp 4, .tmp 5] := rfl; simp [results, hr]), rfl, HB1.out⟩
theorem cStartNo (A : Option Addr) (c : Nat) (l : List Pt) (left : Bool) (h : 0 < l.length) (hl : l.length ≤ 511) (hf : finB l = false) (hu : ∀ q ∈ l, PtU q) (w : World) (hp : PtsIn w A (closedL l)) :
    Calls Tryz.prog 41 #[.slice A (l.length + 1) c, .bool left] w fun e w' => e = .returned (.tuple #[.slice none 0 0, .int .i64 220]) ∧ Below w.heap.size w w' := by
  have := gStartNo A c (closedL l) left w hp (by rw [closedL_len h]; omega) (fun q hq => hu q (closedL_mem.1 hq)) (closed_chkN h hl hf)
  rw [closedL_len h] at this
  exact this
end Go.Proofs.YtfpofmifmapmfaaGreatDoor
