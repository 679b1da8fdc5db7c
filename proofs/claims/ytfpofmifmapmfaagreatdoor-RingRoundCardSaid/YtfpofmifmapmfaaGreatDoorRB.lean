/- Package ring: area: what the region that reads an edge's four numbers keeps. -/
import Derived.Test.YtfpofmifmapmfaaGreatDoorRA
import Derived.Shelf.Abstract
import Derived.Shelf.RegionOpen
import Derived.WalkKit
import Derived.OwnWalkIn
import Derived.TacticsInMore
import Derived.RegionIn
import Derived.Test.YtfpofmifmapmfaaGreatDoorKD
namespace Go.Proofs.YtfpofmifmapmfaaGreatDoor
open Go.RowKit Go.Proofs.YtfpofmifmapmfaaGreatDoorW.PrintLast
set_option linter.unusedVariables false
set_option linter.unusedSimpArgs false
def finB (ps : List Pt) : Bool := ps.all (fun p => decide (fe p.1 ≠ 2047) && decide (fe p.2 ≠ 2047))
theorem finB_iff {ps : List Pt} (hu : ∀ p ∈ ps, PtU p) : finB ps = true ↔ ∀ p ∈ ps, FinP p := by
  unfold finB
  rw [List.all_eq_true]
  constructor
  · intro h p hp
    have a := h p hp
    simp only [Bool.and_eq_true, decide_eq_true_eq] at a
    have b := hu p hp
    exact ⟨⟨b.1.1, b.1.2, a.1⟩, ⟨b.2.1, b.2.2, a.2⟩⟩
  · intro h p hp
    have a := h p hp
    simp only [Bool.and_eq_true, decide_eq_true_eq]
    exact ⟨a.1.2.2, a.2.2.2⟩
theorem finB_no {ps : List Pt} (hu : ∀ p ∈ ps, PtU p) {k : Nat} (hk : k < ps.length) (h : ¬ FinP (ps.getD k (0, 0))) : finB ps = false := by
  rw [← Bool.not_eq_true, finB_iff hu]
  exact fun g => h (g _ (getD_mem hk))
theorem finB_yes {ps : List Pt} (hu : ∀ p ∈ ps, PtU p) (h : ∀ j, j < ps.length → FinP (ps.getD j (0, 0))) : finB ps = true := by
  rw [finB_iff hu]
  intro p hp
  obtain ⟨j, hj, rfl⟩ := List.getElem_of_mem hp
  have := h j hj
  rwa [List.getD_eq_getElem?_getD, List.getElem?_eq_getElem hj] at this
theorem inf_not {b : Int} (h : 3 ≤ fcl b) : ¬ Fin64 b := fun f => by have := fcl_fin f; omega
set_option maxRecDepth 100000 in
set_option maxHeartbeats 1600000 in
theorem gFinite (A : Option Addr) (c : Nat) (ps : List Pt) (w : World) (hp : PtsIn w A ps) (hl : ps.length ≤ 1000000) (hu : ∀ p ∈ ps, PtU p) :
    Calls Tryz.prog 85 #[.slice A ps.length c] w fun e w' => e = .returned (.bool (finB ps)) ∧ Below w.heap.size w w' := by
  have HP := Lib.hid hp
  have HU := Lib.hid hu
  have HY := Lib.hid (fun h => finB_yes hu h)
  have HN := Lib.hid (fun k hk h => finB_no hu (k := k) hk h)
  clear hp hu
  go_enter Tryz.func85, Tryz.ntmps85
  ((try dsimp only); repeat (first | go_values | go_skip | go_guarded | go_step | go_upon))
  go_loopw [7] (fun i wr => ∃ k : Nat, i = .int .i64 k ∧ k ≤ ps.length ∧ (∀ j, j < k → FinP (ps.getD j (0, 0))) ∧ Below w.heap.size w wr) (fun i _ => ps.length - (intOf i).toNat)
  case atStart => exact ⟨0, rfl, Nat.zero_le _, fun j hj => absurd hj (by omega), Below.refl _ _⟩
  case round =>
    obtain ⟨k, rfl, hk, hF, hB⟩ := hrel
    have sB := hB.size
    by_cases h0 : k < ps.length
    · obtain ⟨b, o, rfl, hb, hpa⟩ := HP.out.open h0
      have hpk := (hpa k h0)
      have hp1 := (hB.cell (p := ⟨b, o + k * 2, none⟩) hb).trans hpk.1
      have hp2 := (hB.cell (p := ⟨b, o + k * 2 + 1, none⟩) hb).trans hpk.2
      have hfk := HU.out _ (getD_mem h0)
      have hN := HN.out k h0
      have hG : FinP (ps.getD k (0, 0)) → ∀ j, j < k + 1 → FinP (ps.getD j (0, 0)) := fun h j hj => by
        rcases Nat.lt_or_ge j k with g | g
        · exact hF j g
        · obtain rfl : j = k := by omega
          exact h
      have HG := Lib.hid (And.intro hG hN)
      have HD := Lib.hid hB
      clear hpk hB hpa hF hG hN
      generalize ps.getD k (0, 0) = pt at *
      have HC := Lib.hid (fun wz => And.intro (fClass pt.1 wz hfk.1.1 hfk.1.2) (fClass pt.2 wz hfk.2.1 hfk.2.2))
      have e1 : ¬ 3 ≤ fcl pt.1 → Fin64 pt.1 := fun h => Classical.byContradiction fun e => h (fcl_inf hfk.1 e)
      have e2 : ¬ 3 ≤ fcl pt.2 → Fin64 pt.2 := fun h => Classical.byContradiction fun e => h (fcl_inf hfk.2 e)
      have i1 : 3 ≤ fcl pt.1 → ¬ FinP pt := fun h f => inf_not h f.1
      have i2 : 3 ≤ fcl pt.2 → ¬ FinP pt := fun h f => inf_not h f.2
      have HJ := Lib.hid (And.intro (And.intro e1 e2) (And.intro i1 i2))
      clear hfk e1 e2 i1 i2
      generalize fcl pt.1 = c1 at *
      generalize fcl pt.2 = c2 at *
      by_cases h1 : 3 ≤ c1
      · ((try dsimp only); repeat (first | go_values | go_skip | go_guarded | go_step | go_upon))
        refine (HC.out _).1.mono ?_
        rintro e w1 ⟨rfl, rfl⟩
        ((try dsimp only); repeat (first | go_values | go_skip | go_guarded | go_step | go_upon))
        go_ret
        exact ⟨by rw [HG.out.2 (HJ.out.2.1 h1)]; rfl, HD.out.alloc (by omega) _⟩
      · ((try dsimp only); repeat (first | go_values | go_skip | go_guarded | go_step | go_upon))
        refine (HC.out _).1.mono ?_
        rintro e w1 ⟨rfl, rfl⟩
        ((try dsimp only); repeat (first | go_values | go_skip | go_guarded | go_step | go_upon))
        refine (HC.out _).2.mono ?_
        rintro e w1 ⟨rfl, rfl⟩
        by_cases h2 : 3 ≤ c2
        · ((try dsimp only); repeat (first | go_values | go_skip | go_guarded | go_step | go_upon))
          go_ret
          exact ⟨by rw [HG.out.2 (HJ.out.2.2 h2)]; rfl, HD.out.alloc (by omega) _⟩
        · ((try dsimp only); repeat (first | go_values | go_skip | go_guarded | go_step | go_upon))
          exact ⟨⟨k + 1, vint (by omega), by omega, HG.out.1 ⟨HJ.out.1.1 h1, HJ.out.1.2 h2⟩, HD.out.alloc (by omega) _⟩, by simp [intOf]; omega⟩
    · obtain rfl : k = ps.length := by omega
      have HD := Lib.hid (And.intro hB hF)
      clear hB hF
      ((try dsimp only); repeat (first | go_values | go_skip | go_guarded | go_step | go_upon))
      go_ret
      exact ⟨by rw [HY.out HD.out.2]; rfl, HD.out.1⟩
def chkE (ps more : List Pt) : Int :=
  if ps.length = 0 ∨ 512 < ps.length then 240 else if (finB ps && finB more) = false then 220 else if pcmpP (ps.getD 0 (0, 0)) (ps.getD (ps.length - 1) (0, 0)) ≠ 0 then 240 else 0
set_option maxRecDepth 100000 in
set_option maxHeartbeats 1600000 in
theorem gCheck (A B : Option Addr) (c d : Nat) (ps more : List Pt) (w : World) (hp : PtsIn w A ps) (hm : PtsIn w B more) (hl : ps.length ≤ 1000000) (hl2 : more.length ≤ 1000000) (hu : ∀ p ∈ ps, PtU p) (hu2 : ∀ p ∈ more, PtU p) :
    Calls Tryz.prog 58 #[.slice A ps.length c, .slice B more.length d] w fun e w' => e = .returned (.int .i64 (chkE ps more)) ∧ Below w.heap.size w w' := by
  have HF := Lib.hid (gFinite A c ps w hp hl hu)
  have HG : Hid (∀ wz, Below w.heap.size w wz → Calls Tryz.prog 85 #[.slice B more.length d] wz fun e w' => e = .returned (.bool (finB more)) ∧ Below wz.heap.size wz w') := Lib.hid (fun wz hz => gFinite B d more wz (hm.keep hz) hl2 hu2)
  have HE : Hid (chkE ps more = if ps.length = 0 ∨ 512 < ps.length then 240 else if (finB ps && finB more) = false then 220 else if pcmpP (ps.getD 0 (0, 0)) (ps.getD (ps.length - 1) (0, 0)) ≠ 0 then 240 else 0) := Lib.hid rfl
  have HU := Lib.hid (fun h => (finB_iff hu).1 h)
  have HP := Lib.hid hp
  generalize chkE ps more = E at *
  generalize more.length = ml at *
  clear hp hm hl2 hu hu2
  by_cases h0 : ps.length = 0
  · have hE : E = 240 := by rw [HE.out, if_pos (Or.inl h0)]
    generalize ps.length = n at *
    subst h0
    clear HF HG HU HP HE
    subst hE
    go_enter Tryz.func58, Tryz.ntmps58
    ((try dsimp only); repeat (first | go_values | go_skip | go_guarded | go_step | go_upon))
    go_ret
    exact ⟨rfl, Below.refl _ _⟩
  by_cases h1 : 512 < ps.length
  · have hE : E = 240 := by rw [HE.out, if_pos (Or.inr h1)]
    generalize ps.length = n at *
    clear HF HG HU HP HE
    subst hE
    go_enter Tryz.func58, Tryz.ntmps58
    ((try dsimp only); repeat (first | go_values | go_skip | go_guarded | go_step | go_upon))
    go_ret
    exact ⟨rfl, Below.refl _ _⟩
  rw [if_neg (by omega)] at HE
  have q0 : 0 < ps.length := by omega
  obtain ⟨b, o, rfl, hb, hpa⟩ := HP.out.open q0
  have p0 : w.cell? ⟨b, o, none⟩ = some (.int .u64 (ps.getD 0 (0, 0)).1) ∧ w.cell? ⟨b, o + 1, none⟩ = some (.int .u64 (ps.getD 0 (0, 0)).2) := by have := hpa 0 q0; rwa [Nat.zero_mul, Nat.add_zero] at this
  have p1 := hpa (ps.length - 1) (by omega)
  have f0 := getD_mem q0
  have f1 := getD_mem (show ps.length - 1 < ps.length by omega)
  obtain ⟨m, hn⟩ : ∃ m, ps.length = m + 1 := ⟨ps.length - 1, by omega⟩
  rw [show ps.length - 1 = m by omega] at p1 f1 HE
  rw [hn] at HF q0 h0 h1 ⊢
  have HO : Hid (finB ps = true → ∀ wz, Calls Tryz.prog 78 #[.agg #[.int .u64 (ps.getD 0 (0, 0)).1, .int .u64 (ps.getD 0 (0, 0)).2], .agg #[.int .u64 (ps.getD m (0, 0)).1, .int .u64 (ps.getD m (0, 0)).2]] wz fun e w' => e = .returned (.tuple #[.int .i64 (pcmpP (ps.getD 0 (0, 0)) (ps.getD m (0, 0))), .int .i64 0]) ∧ Below wz.heap.size wz w') :=
    Lib.hid (fun h wz => pOrderP _ _ wz (HU.out h _ f0) (HU.out h _ f1))
  have hpc : pcmpP (ps.getD 0 (0, 0)) (ps.getD m (0, 0)) = -1 ∨ pcmpP (ps.getD 0 (0, 0)) (ps.getD m (0, 0)) = 0 ∨ pcmpP (ps.getD 0 (0, 0)) (ps.getD m (0, 0)) = 1 := pcmp_cases _ _
  clear HP HU hpa f0 f1 hn
  generalize ps.getD 0 (0, 0) = pa at *
  generalize ps.getD m (0, 0) = pz at *
  generalize pcmpP pa pz = z at *
  generalize finB ps = B1 at *
  generalize finB more = B2 at *
  have HC := Lib.hid (And.intro hb (And.intro p0 p1))
  clear hb p0 p1
  have t1 : (((m : Int) + 1 == 0) || decide (512 < (m : Int) + 1)) = false := by
    rw [beq_false_of_ne (by omega), decide_eq_false (by omega)]; rfl
  go_enter Tryz.func58, Tryz.ntmps58
  ((try dsimp only); repeat (first | go_values | go_skip | go_guarded | go_step | go_upon))
  clear t1
  refine HF.out.mono ?_
  rintro e w1 ⟨rfl, hb1⟩
  have s1 := hb1.size
  have HB := Lib.hid hb1
  clear HF hb1
  cases B1 with
  | false =>
    have hE : E = 220 := by rw [HE.out, if_pos (by rfl)]
    subst hE
    ((try dsimp only); repeat (first | go_values | go_skip | go_guarded | go_step | go_upon))
    go_ret
    exact ⟨rfl, HB.out⟩
  | true =>
    ((try dsimp only); repeat (first | go_values | go_skip | go_guarded | go_step | go_upon))
    refine (HG.out w1 HB.out).mono ?_
    rintro e w2 ⟨rfl, hb2⟩
    have HB2 := Lib.hid (HB.out.trans (hb2.mono s1))
    have s2 := Nat.le_trans s1 hb2.size
    clear hb2 HB
    cases B2 with
    | false =>
      have hE : E = 220 := by rw [HE.out, if_pos (by rfl)]
      subst hE
      ((try dsimp only); repeat (first | go_values | go_skip | go_guarded | go_step | go_upon))
      go_ret
      exact ⟨rfl, HB2.out⟩
    | true =>
      rw [if_neg (by decide)] at HE
      have HO' := Lib.hid (HO.out rfl)
      clear HO HG
      go_upto_region 5 with (fail)
      have hw : wrap64 (m : Int) = (m : Int) := by unfold wrap64; omega
      have hw2 : (m : Int) < (m : Int) + 1 := by omega
      refine start_ (n := 15) (S := fun w' => Below w.heap.size w w') (ds := []) (bt 15 0) (by kernel_rfl) rfl rfl (HB2.out.drew) (fun hHeld => ?_)
      refine pv_ 0 24 ?_
      refine pv_ 1 25 ?_
      refine ld_ 2 26 ?_ hHeld ?_ ?_; rotate_left
      · rintro w' hs
        have c0 := (hs.cell (p := ⟨b, o, none⟩) HC.out.1).trans HC.out.2.1.1
        have c1 := (hs.cell (p := ⟨b, o + 1, none⟩) HC.out.1).trans HC.out.2.1.2
        have c2 := (hs.cell (p := ⟨b, o + m * 2, none⟩) HC.out.1).trans HC.out.2.2.1
        have c3 := (hs.cell (p := ⟨b, o + m * 2 + 1, none⟩) HC.out.1).trans HC.out.2.2.2
        clear hs
        go_simp; with_reducible rfl
      refine pv_ 3 27 ?_
      refine pv_ 4 28 ?_
      refine pv_ 5 29 ?_
      refine pv_ 6 30 ?_
      refine pv_ 7 31 ?_
      refine ld_ 8 32 ?_ hHeld ?_ ?_; rotate_left
      · rintro w' hs
        have c0 := (hs.cell (p := ⟨b, o, none⟩) HC.out.1).trans HC.out.2.1.1
        have c1 := (hs.cell (p := ⟨b, o + 1, none⟩) HC.out.1).trans HC.out.2.1.2
        have c2 := (hs.cell (p := ⟨b, o + m * 2, none⟩) HC.out.1).trans HC.out.2.2.1
        have c3 := (hs.cell (p := ⟨b, o + m * 2 + 1, none⟩) HC.out.1).trans HC.out.2.2.2
        clear hs
        go_simp; with_reducible rfl
      refine ca_ 9 33 Tryz.func78 #[.agg #[.int .u64 pa.1, .int .u64 pa.2], .agg #[.int .u64 pz.1, .int .u64 pz.2]] ?_
      with_reducible refine (HO'.out _).mono ?_
      rintro e w' ⟨rfl, hb3⟩
      have s3 := hb3.size
      refine ⟨_, rfl, (by exact hHeld.trans (hb3.mono hHeld.size)), fun hHeld => ?_⟩
      refine nn ?_
      refine pv_ 10 23 ?_
      refine pv_ 11 34 ?_
      refine pv_ 12 35 ?_
      refine pv_ 13 5 ?_
      refine pv_ 14 6 ?_
      refine done_ (by kernel_rfl) ?_
      clear hw hw2
      have HB3 := Lib.hid hHeld
      clear hHeld hb3
      by_cases hz : z = 0
      · have hE : E = 0 := by rw [HE.out, if_neg (by omega)]
        subst hE
        subst hz
        ((try dsimp only); repeat (first | go_values | go_skip | go_guarded | go_step | go_upon))
        go_ret
        exact ⟨rfl, HB3.out⟩
      · have hE : E = 240 := by rw [HE.out, if_pos hz]
        subst hE
        ((try dsimp only); repeat (first | go_values | go_skip | go_guarded | go_step | go_upon))
        go_ret
        exact ⟨rfl, HB3.out⟩
end Go.Proofs.YtfpofmifmapmfaaGreatDoor

namespace Go.Proofs.YtfpofmifmapmfaaGreatDoor
open Go.RowKit Go.Proofs.YtfpofmifmapmfaaGreatDoorW.PrintLast
set_option linter.unusedVariables false
set_option linter.unusedSimpArgs false
attribute [local go_sem] Oper.semAt_some
abbrev encE (e : Ed) : Array Value := #[.agg #[.int .u64 e.1.1, .int .u64 e.1.2], .agg #[.int .u64 e.2.1, .int .u64 e.2.2]]
theorem gEdges (A : Option Addr) (n c : Nat) (w : World) :
    Calls Tryz.prog 79 #[.slice A n c] w fun e w' => e = .returned (.func (.func 140) #[] #[.pointer (some ⟨w.heap.size, 0, none⟩)]) ∧ w' = w.alloc (.cells #[.slice A n c] 22) := by
  go_enter Tryz.func79, Tryz.ntmps79
  ((try dsimp only); repeat (first | go_values | go_skip | go_guarded | go_step | go_upon))
  go_ret
  exact ⟨rfl, rfl⟩
def KpB (n₀ Bs : Nat) (W W' : World) : Prop := Below n₀ W W' ∧ W'.heap[Bs]? = W.heap[Bs]?
theorem KpB.refl (n₀ Bs : Nat) (W : World) : KpB n₀ Bs W W := ⟨Below.refl _ _, rfl⟩
theorem KpB.trans {n₀ Bs : Nat} {A B C : World} (h : KpB n₀ Bs A B) (k : KpB n₀ Bs B C) : KpB n₀ Bs A C := ⟨h.1.trans k.1, k.2.trans h.2⟩
theorem KpB.put {n₀ Bs : Nat} {w : World} (hn : n₀ ≤ w.heap.size) (hb : Bs < w.heap.size) (W : World) (l : Nat) (o o' : Obj) (hl : w.heap.size ≤ l) (h : W.heap[l]? = some o) (h1 : o.isCells = false) (h2 : o.isWalk = false) : KpB n₀ Bs W (W.putObj l o') :=
  ⟨belowK_b hn W l o o' hl h h1 h2, World.putObj_heap_other (by omega)⟩
set_option maxRecDepth 100000 in
set_option maxHeartbeats 2000000 in
theorem gEdges1 (n B0 : Nat) (l Bs n₀ b o c : Nat) (ps : List Pt) (hl : ps.length ≤ 1000000) (h1 : 0 < ps.length) (hb : b < n₀) (J Jx : List Ed → World → Prop) (hJa : AbidesFrom B0 J)
    (hY : ∀ pre x W, J pre W → pre.length < ps.length - 1 → x = edge ps pre.length → YieldAt Fence.wide (n - 1) Tryz.prog l (encE x) W fun e W' =>
      (e = .returned (.bool true) ∧ J (pre ++ [x]) W' ∧ KpB n₀ Bs W W') ∨ (e = .returned (.bool false) ∧ Jx (pre ++ [x]) W'))
    (W : World) (hBs : W.cell? ⟨Bs, 0, none⟩ = some (.slice (some ⟨b, o, none⟩) ps.length c)) (hc : PtsAt W b o ps) (h0 : J [] W) :
    CallsIn Fence.wide n Tryz.prog 140 #[.func (.yield l) #[] #[], .pointer (some ⟨Bs, 0, none⟩)] W fun e W' => (∃ v, e = .returned v) ∧
      ((∃ ys, ys = edgesR ps ∧ J ys W') ∨ (∃ pre, (∃ k, k ≤ ps.length - 1 ∧ pre = edgesU ps k) ∧ Jx pre W')) := by
  refine callsIn_of_wp Tryz.func140 rfl trivial ?_ rfl
  simp only [Tryz.ntmps140, List.size_toArray, List.length_cons, List.length_nil, Nat.reduceAdd, Nat.reduceSub, Array.replicate_succ, Array.replicate_zero, List.push_toArray, List.append_toArray, List.nil_append, List.cons_append]
  gi_wp2
  gi_loopw [3] (fun i wr => ∃ k : Nat, k ≤ ps.length - 1 ∧ i = .int .i64 (k + 1 : Nat) ∧ J (edgesU ps k) wr ∧ KpB n₀ Bs W wr)
    (fun i _ => ps.length - (intOf i).toNat)
  case atStart => exact ⟨0, Nat.zero_le _, rfl, h0, KpB.refl _ _ _⟩
  case round =>
    obtain ⟨k, hk, rfl, hJs, hnx⟩ := hrel
    have hBs' : wr.cell? ⟨Bs, 0, none⟩ = some (.slice (some ⟨b, o, none⟩) ps.length c) := (World.cell?_of_block (w := W) hnx.2).trans hBs
    by_cases hlt : k + 1 < ps.length
    · have hJd := hJa _ wr wr.drew none hJs ⟨rfl, rfl, rfl, Nat.le_refl _, fun _ _ _ => rfl⟩ (fun r e => by cases e)
      obtain ⟨fn, tmps, assign, body, hy, hR⟩ := hY _ (edge ps k) wr.drew hJd (by rw [edgesU_len]; omega) (by rw [edgesU_len])
      dsimp only [encE] at hy
      have q0 := hc k (by omega)
      have q1 := hc (k + 1) hlt
      have c0 := (hnx.1.cell (p := ⟨b, o + k * 2, none⟩) hb).trans q0.1
      have c1 := (hnx.1.cell (p := ⟨b, o + k * 2 + 1, none⟩) hb).trans q0.2
      have c2 := (hnx.1.cell (p := ⟨b, o + (k + 1) * 2, none⟩) hb).trans q1.1
      have c3 := (hnx.1.cell (p := ⟨b, o + (k + 1) * 2 + 1, none⟩) hb).trans q1.2
      have hmx : Tryz.prog.follows .mixedOrders = true := by kernel_rfl
      have g0 : ps.getD k (0, 0) = (edge ps k).1 := rfl
      have g1 : ps.getD (k + 1) (0, 0) = (edge ps k).2 := rfl
      rw [g0] at c0 c1
      rw [g1] at c2 c3
      have w0 : wrap64 (k : Int) = (k : Int) := by unfold wrap64; omega
      have w1 : wrap64 ((k : Int) + 1 + 1) = (k : Int) + 1 + 1 := by unfold wrap64; omega
      have l0 : k < ps.length := by omega
      have l1 : (k : Int) < (ps.length : Int) := by omega
      have l2 : (k : Int) + 1 < (ps.length : Int) := by omega
      have w2 : IntKind.i64.wrap (k : Int) = (k : Int) := by rw [i64_w]; exact w0
      have w3 : IntKind.i64.wrap ((k : Int) + 1) = (k : Int) + 1 := by rw [i64_w]; unfold wrap64; omega
      have HR := Lib.hid hR
      have HX := Lib.hid (And.intro hnx hlt)
      clear hBs hc h0 q0 q1 hl hk h1 g0 g1 hR hY hJa hJs hJd hnx
      gi_wp2
      refine wpIn_mono (Q := Exit.then (fun a w' => ∃ bv : Bool, a = { tmps := #[.func (.yield l) #[] #[], .pointer (some ⟨Bs, 0, none⟩), undef, .int .i64 ((k : Int) + 1), .int .i64 ((k : Int) + 1), .slice (some ⟨b, o, none⟩) ps.length c, .int .i64 (ps.length : Int), .bool true, u8, u9, .func (.yield l) #[] #[],
        .slice (some ⟨b, o, none⟩) ps.length c, .int .i64 ((k : Int) + 1), .int .i64 (k : Int), .pointer (some ⟨b, o + k * 2, none⟩), .agg #[.int .u64 (edge ps k).1.1, .int .u64 (edge ps k).1.2], .slice (some ⟨b, o, none⟩) ps.length c, .int .i64 ((k : Int) + 1), .pointer (some ⟨b, o + (k + 1) * 2, none⟩), .agg #[.int .u64 (edge ps k).2.1, .int .u64 (edge ps k).2.2], .bool bv, .bool (!bv)], defers := [] } ∧
        ((bv = true ∧ J (edgesU ps k ++ [edge ps k]) w' ∧ KpB n₀ Bs wr.drew w') ∨ (bv = false ∧ Jx (edgesU ps k ++ [edge ps k]) w'))) (fun _ _ _ => False)) ?region ?rest
      case region =>
        as_aux_lemma =>
        gi_region_with_o (refine ⟨fun h => (by cases h), ?_⟩; refine HR.out.mono ?_; rintro e W3 h3; obtain ⟨bv, rfl⟩ : ∃ bv, e = Ending.returned (.bool bv) := (by rcases h3 with h3 | h3; exact ⟨_, h3.1⟩; exact ⟨_, h3.1⟩))
        all_goals (simp only [Exit.then]; exact ⟨bv, rfl, by rcases h3 with ⟨h31, h⟩ | ⟨h31, h⟩ <;> (injection h31 with h31; injection h31 with h31; first | exact Or.inl ⟨h31, h⟩ | exact Or.inr ⟨h31, h⟩)⟩)
      case rest =>
        clear c0 c1 c2 c3 hy HR hBs'
        rintro e a W3 h
        cases e <;> simp only [Exit.then] at h
        obtain ⟨bv, rfl, ⟨rfl, hJ3, hk3⟩ | ⟨rfl, hJx3⟩⟩ := h
        · as_aux_lemma =>
          gi_wp2
          go_roundw
          case rel => exact ⟨k + 1, by clear w0 w1 w2 w3; omega, vint (by rw [w1]; clear w0 w1 w2 w3; omega), by rw [edgesU_succ]; exact hJ3, HX.out.1.trans (KpB.trans ⟨(Below.refl n₀ wr).drew, rfl⟩ hk3)⟩
          case measure =>
            show ps.length - (intOf (.int .i64 (wrap64 ((k : Int) + 1 + 1)))).toNat < ps.length - (intOf (.int .i64 ((k + 1 : Nat) : Int))).toNat
            rw [w1]
            clear w0 w1 w2 w3
            show ps.length - ((k : Int) + 1 + 1).toNat < ps.length - (((k + 1 : Nat) : Int)).toNat
            omega
        · as_aux_lemma =>
          gi_wp2
          refine bodyPost_ret (results_none rfl _ _ _) rfl ?_
          exact ⟨⟨_, rfl⟩, .inr ⟨_, ⟨k + 1, by clear w0 w1 w2 w3; omega, (edgesU_succ _ _).symm⟩, hJx3⟩⟩
    · obtain rfl : k = ps.length - 1 := by omega
      gi_wp2
      go_end0
      exact ⟨⟨_, rfl⟩, .inl ⟨_, rfl, hJs⟩⟩
abbrev FE := { e : Ed // FinE e }
def vals (l : List FE) : List Ed := l.map (fun x => x.1)
theorem vals_snoc (l : List FE) (x : FE) : vals (l ++ [x]) = vals l ++ [x.1] := by simp [vals]
theorem vals_len (l : List FE) : (vals l).length = l.length := by simp [vals]
theorem gStops (n n₀ Bs b o c : Nat) (ps : List Pt) (hl : ps.length ≤ 1000000) (h1 : 0 < ps.length) (hF : ∀ p ∈ ps, FinP p) (w : World) (hb : b < n₀) (hn : n₀ ≤ w.heap.size) (hc : PtsAt w b o ps) (hlt : Bs < w.heap.size)
    (hBs : w.cell? ⟨Bs, 0, none⟩ = some (.slice (some ⟨b, o, none⟩) ps.length c)) :
    SeqStopsK Fence.wide n Tryz.prog 140 #[.pointer (some ⟨Bs, 0, none⟩)] (fun x : FE => encE x.1) (KpB n₀ Bs) (fun xs => vals xs = edgesR ps) (fun pre => ∃ k, k ≤ ps.length - 1 ∧ vals pre = edgesU ps k) (ps.length - 1) w := by
  intro l J Jx W hW hJ hJx hY h0
  refine (gEdges1 n W.heap.size l Bs n₀ b o c ps hl h1 hb (fun xs W => ∃ ys : List FE, ys.map (·.1) = xs ∧ J ys W) (fun xs W => ∃ ys : List FE, ys.map (·.1) = xs ∧ Jx ys W) ?_ ?_ W ?_ ?_ ⟨[], rfl, h0⟩).mono ?_
  · rintro s A B row ⟨ys, e, hj⟩ hg hr
    exact ⟨ys, e, hJ ys A B row hj hg hr⟩
  · rintro pre x W1 ⟨ys, rfl, hj⟩ hlen rfl
    rw [List.length_map] at hlen ⊢
    have hx : FinE (edge ps ys.length) := edge_fin hF (by omega)
    obtain ⟨fn, tmps, assign, body, hy, hR⟩ := hY ys ⟨edge ps ys.length, hx⟩ W1 hj hlen
    refine ⟨fn, tmps, assign, body, hy, hR.mono ?_⟩
    rintro e W' (⟨h1, h2, h3⟩ | ⟨h1, h2⟩)
    · exact Or.inl ⟨h1, ⟨_, by simp, h2⟩, h3⟩
    · exact Or.inr ⟨h1, ⟨_, by simp, h2⟩⟩
  · exact (hW.cell (p := ⟨Bs, 0, none⟩) hlt).trans hBs
  · exact fun i hi => ⟨(hW.cell (p := ⟨b, o + i * 2, none⟩) (show b < _ by omega)).trans (hc i hi).1, (hW.cell (p := ⟨b, o + i * 2 + 1, none⟩) (show b < _ by omega)).trans (hc i hi).2⟩
  · rintro e W' ⟨hv, ⟨xs, e1, ys, e2, hj⟩ | ⟨pre, ⟨k, hk, e1⟩, ys, e2, hj⟩⟩
    · exact ⟨hv, Or.inl ⟨ys, e2.trans e1, hj⟩⟩
    · exact ⟨hv, Or.inr ⟨ys, ⟨k, hk, e2.trans e1⟩, hj⟩⟩
end Go.Proofs.YtfpofmifmapmfaaGreatDoor

namespace Go.Proofs.YtfpofmifmapmfaaGreatDoor
open Go.RowKit Go.Proofs.YtfpofmifmapmfaaGreatDoorW.PrintLast
set_option linter.unusedVariables false
set_option linter.unusedSimpArgs false
theorem setCell_same {w : World} {g : Nat} {C : Array Value} {t : TypeId} {f : Nat × Nat} (h : w.heap[g]? = some (.cells C t f)) {v : Value} (hv : C.setIfInBounds 0 v = C) : w.setCell ⟨g, 0, none⟩ v = w := by
  have e : (w.setCell ⟨g, 0, none⟩ v).heap = w.heap := by
    refine Array.ext_getElem? fun i => ?_
    by_cases hi : i = g
    · subst hi; rw [heap_set_cell h 0 v, h, hv]
    · exact Below.heap_setCell _ _ _ _ hi
  have e2 : w.setCell ⟨g, 0, none⟩ v = { w with heap := (w.setCell ⟨g, 0, none⟩ v).heap } := by unfold World.setCell; rfl
  rw [e2, e]
def SumOk (w : World) (s : Nat) : Prop := w.heap[s]? = some (.cells #[.int .i64 0] 106 (0, 0))
theorem SumOk.keep {w w' : World} {s : Nat} (h : SumOk w s) (k : Below w.heap.size w w') : SumOk w' s := (k.block _ (heap_lt h)).trans h
set_option maxRecDepth 100000 in
set_option maxHeartbeats 1600000 in
theorem gKeep (s : Nat) (A B : Option Addr) (q : Rat) (w : World) (hs : SumOk w s) :
    Calls Tryz.prog 125 #[.pointer (some ⟨s, 0, none⟩), qv A B q, .int .i64 0] w fun e w' => e = .returned (qv A B q) ∧ Below w.heap.size w w' := by
  obtain ⟨h1, h2, h3, h4⟩ : (((w.alloc (.cells #[.bool (decide (q.num < 0)), .slice A (qn q).length (qn q).length, .slice B (qd q).length (qd q).length] 26)).alloc (.cells #[.bool false, .slice none 0 0, .slice none 0 0] 26)).heap[w.heap.size]? = some (.cells #[.bool (decide (q.num < 0)), .slice A (qn q).length (qn q).length, .slice B (qd q).length (qd q).length] 26 (0, 0))) ∧ (((w.alloc (.cells #[.bool (decide (q.num < 0)), .slice A (qn q).length (qn q).length, .slice B (qd q).length (qd q).length] 26)).alloc (.cells #[.bool false, .slice none 0 0, .slice none 0 0] 26)).heap[w.heap.size + 1]? = some (.cells #[.bool false, .slice none 0 0, .slice none 0 0] 26 (0, 0))) ∧ ((w.alloc (.cells #[.bool (decide (q.num < 0)), .slice A (qn q).length (qn q).length, .slice B (qd q).length (qd q).length] 26)).alloc (.cells #[.bool false, .slice none 0 0, .slice none 0 0] 26)).heap.size = w.heap.size + 2 ∧ Below w.heap.size w ((w.alloc (.cells #[.bool (decide (q.num < 0)), .slice A (qn q).length (qn q).length, .slice B (qd q).length (qd q).length] 26)).alloc (.cells #[.bool false, .slice none 0 0, .slice none 0 0] 26)) :=
    ⟨alloc_old (alloc_new _ _), alloc_at _ (by simp), by simp only [World.size_alloc], (by repeat (first | exact Below.refl _ _ | refine belowN ?_ _ | refine Below.drew ?_ | refine Below.alloc ?_ (by first | exact Nat.le_refl _ | (simp; done) | (simp; omega) | omega) _))⟩
  have hlt := heap_lt hs
  have h0 := hs.keep h4
  unfold SumOk at h0
  unfold qv at *
  go_enter Tryz.func125, Tryz.ntmps125
  go_upto_region 1 with (fail)
  generalize World.alloc (World.alloc w _) _ = w3 at *
  have c0 : w3.cell? ⟨s, 0, none⟩ = some (.int .i64 0) := (cell_of_cells h0 0).trans rfl
  have c1 := free_of_cells h0 0
  obtain ⟨d0, d1, d2, g0, g1, g2⟩ := row3 h1
  obtain ⟨e0, e1, e2, k0, k1, k2⟩ := row3 h2
  have HF := Lib.hid (And.intro h0 (And.intro h2 (And.intro h3 h4)))
  clear h0 h1 h2 h3 h4 hs
  go_upto_region 3 with (fail)
  rw [setCell_same HF.out.1 rfl]
  ((try dsimp only); repeat (first | go_values | go_skip | go_guarded | go_step | go_upon))
  obtain ⟨r0, r1, r2, r3⟩ := HF.out
  refine bodyPost_ret (results_cell_row rfl _ _ (w.heap.size + 1) _ _ _ _ rfl (heap_set_three r1 _ _ _) rfl rfl rfl) rfl ?_
  exact ⟨rfl, below_three (by omega) r3⟩
end Go.Proofs.YtfpofmifmapmfaaGreatDoor

namespace Go.Proofs.YtfpofmifmapmfaaGreatDoor
open Go.RowKit Go.Proofs.YtfpofmifmapmfaaGreatDoorW.PrintLast
set_option linter.unusedVariables false
set_option linter.unusedSimpArgs false
set_option maxRecDepth 100000 in
set_option maxHeartbeats 1600000 in
theorem gAdd (s : Nat) (A B C D : Option Addr) (lo up m n : Nat) (p q : Rat) (w : World) (hse : SumOk w s) (hp : RatIn lo up w A B p) (hq : RatIn lo up w C D q) (hu : up ≤ w.heap.size) (hs : Sz m p) (ht : Sz n q) (hmn : m + n + 1 ≤ 262144) :
    Calls Tryz.prog 63 #[.pointer (some ⟨s, 0, none⟩), qv A B p, qv C D q] w fun e w' => ∃ E F, e = .returned (qv E F (p + q)) ∧ RatFresh w.heap.size w' E F (p + q) ∧ Below w.heap.size w w' := by
  obtain ⟨h1, h2, h3, h4, h5⟩ := three_new w (.cells #[.bool (decide (p.num < 0)), .slice A (qn p).length (qn p).length, .slice B (qd p).length (qd p).length] 26) (.cells #[.bool (decide (q.num < 0)), .slice C (qn q).length (qn q).length, .slice D (qd q).length (qd q).length] 26) (.cells #[.bool false, .slice none 0 0, .slice none 0 0] 26)
  have HC := Lib.hid (rAddQ A B C D lo up m n p q _ (hp.keep (Keep.of h5 hu)) (hq.keep (Keep.of h5 hu)) (by omega) hs ht hmn)
  have hlt := heap_lt hse
  have h0 := hse.keep h5
  clear hp hq hs ht hmn
  generalize hr0 : p + q = r at *
  clear hr0
  unfold qv at *
  go_enter Tryz.func63, Tryz.ntmps63
  go_upto_region 1 with (fail)
  generalize World.alloc (World.alloc (World.alloc w _) _) _ = w3 at *
  have c0 : w3.cell? ⟨s, 0, none⟩ = some (.int .i64 0) := (cell_of_cells h0 0).trans rfl
  obtain ⟨a0, a1, a2, _, _, _⟩ := row3 h1
  obtain ⟨b0, b1, b2, _, _, _⟩ := row3 h2
  have H0 := Lib.hid (And.intro h0 (And.intro h3 (And.intro h4 h5)))
  clear h0 h1 h2 h3 h4 h5 hse
  ((try dsimp only); repeat (first | go_values | go_skip | go_guarded | go_step | go_upon))
  refine HC.out.mono ?_
  rintro e w4 ⟨E, F, rfl, hf, hb⟩
  clear c0 a0 a1 a2 b0 b1 b2
  have HK := Lib.hid (gKeep s E F r w4 (H0.out.1.keep hb))
  unfold qv at HK
  have HF := Lib.hid (And.intro hf hb)
  clear hf hb
  ((try dsimp only); repeat (first | go_values | go_skip | go_guarded | go_step | go_upon))
  refine HK.out.mono ?_
  rintro e w5 ⟨rfl, hb5⟩
  obtain ⟨q0, q1, q2, q3⟩ := H0.out
  obtain ⟨hf, hb⟩ := HF.out
  have s4 := hb.size
  have s5 := hb5.size
  have hr := (hb5.block _ (by omega)).trans ((hb.block (w.heap.size + 2) (by omega)).trans q1)
  have hlt2 : w.heap.size + 1 + 1 < w5.heap.size := by omega
  obtain ⟨d0, d1, d2, g0, g1, g2⟩ := row3 (g := w.heap.size + 1 + 1) hr
  have HG := Lib.hid (And.intro hr (And.intro (hf.keep (Keep.of hb5 (Nat.le_refl _)) (Nat.le_refl _)) (And.intro ((q3.trans (hb.mono (by omega))).trans (hb5.mono (by omega))) q2)))
  clear hr hf hb hb5 q0 q1 q3
  ((try dsimp only); repeat (first | go_values | go_skip | go_guarded | go_step | go_upon))
  obtain ⟨r1, r2, r3, r4⟩ := HG.out
  refine bodyPost_ret (results_cell_row rfl _ _ (w.heap.size + 2) _ _ _ _ rfl (heap_set_three r1 _ _ _) rfl rfl rfl) rfl ?_
  have f1 := rat_three (x := .bool (decide (r.num < 0))) (y := .slice E (qn r).length (qn r).length) (z := .slice F (qd r).length (qd r).length) (show w.heap.size + 2 < w3.heap.size by omega) r2
  exact ⟨E, F, rfl, f1.wide (by omega), below_three (by omega) r3⟩
set_option maxRecDepth 100000 in
set_option maxHeartbeats 1600000 in
theorem gSub (s : Nat) (A B C D : Option Addr) (lo up m n : Nat) (p q : Rat) (w : World) (hse : SumOk w s) (hp : RatIn lo up w A B p) (hq : RatIn lo up w C D q) (hu : up ≤ w.heap.size) (hs : Sz m p) (ht : Sz n q) (hmn : m + n + 1 ≤ 262144) :
    Calls Tryz.prog 123 #[.pointer (some ⟨s, 0, none⟩), qv A B p, qv C D q] w fun e w' => ∃ E F, e = .returned (qv E F (p - q)) ∧ RatFresh w.heap.size w' E F (p - q) ∧ Below w.heap.size w w' := by
  obtain ⟨h1, h2, h3, h4, h5⟩ := three_new w (.cells #[.bool (decide (p.num < 0)), .slice A (qn p).length (qn p).length, .slice B (qd p).length (qd p).length] 26) (.cells #[.bool (decide (q.num < 0)), .slice C (qn q).length (qn q).length, .slice D (qd q).length (qd q).length] 26) (.cells #[.bool false, .slice none 0 0, .slice none 0 0] 26)
  have HC := Lib.hid (rSubQ A B C D lo up m n p q _ (hp.keep (Keep.of h5 hu)) (hq.keep (Keep.of h5 hu)) (by omega) hs ht hmn)
  have hlt := heap_lt hse
  have h0 := hse.keep h5
  clear hp hq hs ht hmn
  generalize hr0 : p - q = r at *
  clear hr0
  unfold qv at *
  go_enter Tryz.func123, Tryz.ntmps123
  go_upto_region 1 with (fail)
  generalize World.alloc (World.alloc (World.alloc w _) _) _ = w3 at *
  have c0 : w3.cell? ⟨s, 0, none⟩ = some (.int .i64 0) := (cell_of_cells h0 0).trans rfl
  obtain ⟨a0, a1, a2, _, _, _⟩ := row3 h1
  obtain ⟨b0, b1, b2, _, _, _⟩ := row3 h2
  have H0 := Lib.hid (And.intro h0 (And.intro h3 (And.intro h4 h5)))
  clear h0 h1 h2 h3 h4 h5 hse
  ((try dsimp only); repeat (first | go_values | go_skip | go_guarded | go_step | go_upon))
  refine HC.out.mono ?_
  rintro e w4 ⟨E, F, rfl, hf, hb⟩
  clear c0 a0 a1 a2 b0 b1 b2
  have HK := Lib.hid (gKeep s E F r w4 (H0.out.1.keep hb))
  unfold qv at HK
  have HF := Lib.hid (And.intro hf hb)
  clear hf hb
  ((try dsimp only); repeat (first | go_values | go_skip | go_guarded | go_step | go_upon))
  refine HK.out.mono ?_
  rintro e w5 ⟨rfl, hb5⟩
  obtain ⟨q0, q1, q2, q3⟩ := H0.out
  obtain ⟨hf, hb⟩ := HF.out
  have s4 := hb.size
  have s5 := hb5.size
  have hr := (hb5.block _ (by omega)).trans ((hb.block (w.heap.size + 2) (by omega)).trans q1)
  have hlt2 : w.heap.size + 1 + 1 < w5.heap.size := by omega
  obtain ⟨d0, d1, d2, g0, g1, g2⟩ := row3 (g := w.heap.size + 1 + 1) hr
  have HG := Lib.hid (And.intro hr (And.intro (hf.keep (Keep.of hb5 (Nat.le_refl _)) (Nat.le_refl _)) (And.intro ((q3.trans (hb.mono (by omega))).trans (hb5.mono (by omega))) q2)))
  clear hr hf hb hb5 q0 q1 q3
  ((try dsimp only); repeat (first | go_values | go_skip | go_guarded | go_step | go_upon))
  obtain ⟨r1, r2, r3, r4⟩ := HG.out
  refine bodyPost_ret (results_cell_row rfl _ _ (w.heap.size + 2) _ _ _ _ rfl (heap_set_three r1 _ _ _) rfl rfl rfl) rfl ?_
  have f1 := rat_three (x := .bool (decide (r.num < 0))) (y := .slice E (qn r).length (qn r).length) (z := .slice F (qd r).length (qd r).length) (show w.heap.size + 2 < w3.heap.size by omega) r2
  exact ⟨E, F, rfl, f1.wide (by omega), below_three (by omega) r3⟩
set_option maxRecDepth 100000 in
set_option maxHeartbeats 1600000 in
theorem gMul (s : Nat) (A B C D : Option Addr) (lo up m n : Nat) (p q : Rat) (w : World) (hse : SumOk w s) (hp : RatIn lo up w A B p) (hq : RatIn lo up w C D q) (hu : up ≤ w.heap.size) (hs : Sz m p) (ht : Sz n q) (hmn : m + n + 1 ≤ 262144) :
    Calls Tryz.prog 62 #[.pointer (some ⟨s, 0, none⟩), qv A B p, qv C D q] w fun e w' => ∃ E F, e = .returned (qv E F (p * q)) ∧ RatFresh w.heap.size w' E F (p * q) ∧ Below w.heap.size w w' := by
  obtain ⟨h1, h2, h3, h4, h5⟩ := three_new w (.cells #[.bool (decide (p.num < 0)), .slice A (qn p).length (qn p).length, .slice B (qd p).length (qd p).length] 26) (.cells #[.bool (decide (q.num < 0)), .slice C (qn q).length (qn q).length, .slice D (qd q).length (qd q).length] 26) (.cells #[.bool false, .slice none 0 0, .slice none 0 0] 26)
  have HC := Lib.hid (rMulQ A B C D lo up m n p q _ (hp.keep (Keep.of h5 hu)) (hq.keep (Keep.of h5 hu)) (by omega) hs ht hmn)
  have hlt := heap_lt hse
  have h0 := hse.keep h5
  clear hp hq hs ht hmn
  generalize hr0 : p * q = r at *
  clear hr0
  unfold qv at *
  go_enter Tryz.func62, Tryz.ntmps62
  go_upto_region 1 with (fail)
  generalize World.alloc (World.alloc (World.alloc w _) _) _ = w3 at *
  have c0 : w3.cell? ⟨s, 0, none⟩ = some (.int .i64 0) := (cell_of_cells h0 0).trans rfl
  obtain ⟨a0, a1, a2, _, _, _⟩ := row3 h1
  obtain ⟨b0, b1, b2, _, _, _⟩ := row3 h2
  have H0 := Lib.hid (And.intro h0 (And.intro h3 (And.intro h4 h5)))
  clear h0 h1 h2 h3 h4 h5 hse
  ((try dsimp only); repeat (first | go_values | go_skip | go_guarded | go_step | go_upon))
  refine HC.out.mono ?_
  rintro e w4 ⟨E, F, rfl, hf, hb⟩
  clear c0 a0 a1 a2 b0 b1 b2
  have HK := Lib.hid (gKeep s E F r w4 (H0.out.1.keep hb))
  unfold qv at HK
  have HF := Lib.hid (And.intro hf hb)
  clear hf hb
  ((try dsimp only); repeat (first | go_values | go_skip | go_guarded | go_step | go_upon))
  refine HK.out.mono ?_
  rintro e w5 ⟨rfl, hb5⟩
  obtain ⟨q0, q1, q2, q3⟩ := H0.out
  obtain ⟨hf, hb⟩ := HF.out
  have s4 := hb.size
  have s5 := hb5.size
  have hr := (hb5.block _ (by omega)).trans ((hb.block (w.heap.size + 2) (by omega)).trans q1)
  have hlt2 : w.heap.size + 1 + 1 < w5.heap.size := by omega
  obtain ⟨d0, d1, d2, g0, g1, g2⟩ := row3 (g := w.heap.size + 1 + 1) hr
  have HG := Lib.hid (And.intro hr (And.intro (hf.keep (Keep.of hb5 (Nat.le_refl _)) (Nat.le_refl _)) (And.intro ((q3.trans (hb.mono (by omega))).trans (hb5.mono (by omega))) q2)))
  clear hr hf hb hb5 q0 q1 q3
  ((try dsimp only); repeat (first | go_values | go_skip | go_guarded | go_step | go_upon))
  obtain ⟨r1, r2, r3, r4⟩ := HG.out
  refine bodyPost_ret (results_cell_row rfl _ _ (w.heap.size + 2) _ _ _ _ rfl (heap_set_three r1 _ _ _) rfl rfl rfl) rfl ?_
  have f1 := rat_three (x := .bool (decide (r.num < 0))) (y := .slice E (qn r).length (qn r).length) (z := .slice F (qd r).length (qd r).length) (show w.heap.size + 2 < w3.heap.size by omega) r2
  exact ⟨E, F, rfl, f1.wide (by omega), below_three (by omega) r3⟩
set_option maxRecDepth 100000 in
set_option maxHeartbeats 1600000 in
theorem gDiv (s : Nat) (A B C D : Option Addr) (lo up m n : Nat) (p q : Rat) (w : World) (hse : SumOk w s) (hp : RatIn lo up w A B p) (hq : RatIn lo up w C D q) (hu : up ≤ w.heap.size) (hs : Sz m p) (ht : Sz n q) (hmn : m + n + 1 ≤ 262144) (h0 : q.num ≠ 0) :
    Calls Tryz.prog 65 #[.pointer (some ⟨s, 0, none⟩), qv A B p, qv C D q] w fun e w' => ∃ E F, e = .returned (qv E F (p / q)) ∧ RatFresh w.heap.size w' E F (p / q) ∧ Below w.heap.size w w' := by
  obtain ⟨h1, h2, h3, h4, h5⟩ := three_new w (.cells #[.bool (decide (p.num < 0)), .slice A (qn p).length (qn p).length, .slice B (qd p).length (qd p).length] 26) (.cells #[.bool (decide (q.num < 0)), .slice C (qn q).length (qn q).length, .slice D (qd q).length (qd q).length] 26) (.cells #[.bool false, .slice none 0 0, .slice none 0 0] 26)
  have HC := Lib.hid (rDivQ A B C D lo up m n p q _ (hp.keep (Keep.of h5 hu)) (hq.keep (Keep.of h5 hu)) (by omega) hs ht hmn h0)
  have hlt := heap_lt hse
  have h0 := hse.keep h5
  clear hp hq hs ht hmn
  generalize hr0 : p / q = r at *
  clear hr0
  unfold qv at *
  go_enter Tryz.func65, Tryz.ntmps65
  go_upto_region 1 with (fail)
  generalize World.alloc (World.alloc (World.alloc w _) _) _ = w3 at *
  have c0 : w3.cell? ⟨s, 0, none⟩ = some (.int .i64 0) := (cell_of_cells h0 0).trans rfl
  obtain ⟨a0, a1, a2, _, _, _⟩ := row3 h1
  obtain ⟨b0, b1, b2, _, _, _⟩ := row3 h2
  have H0 := Lib.hid (And.intro h0 (And.intro h3 (And.intro h4 h5)))
  clear h0 h1 h2 h3 h4 h5 hse
  ((try dsimp only); repeat (first | go_values | go_skip | go_guarded | go_step | go_upon))
  refine HC.out.mono ?_
  rintro e w4 ⟨E, F, rfl, hf, hb⟩
  clear c0 a0 a1 a2 b0 b1 b2
  have HK := Lib.hid (gKeep s E F r w4 (H0.out.1.keep hb))
  unfold qv at HK
  have HF := Lib.hid (And.intro hf hb)
  clear hf hb
  ((try dsimp only); repeat (first | go_values | go_skip | go_guarded | go_step | go_upon))
  refine HK.out.mono ?_
  rintro e w5 ⟨rfl, hb5⟩
  obtain ⟨q0, q1, q2, q3⟩ := H0.out
  obtain ⟨hf, hb⟩ := HF.out
  have s4 := hb.size
  have s5 := hb5.size
  have hr := (hb5.block _ (by omega)).trans ((hb.block (w.heap.size + 2) (by omega)).trans q1)
  have hlt2 : w.heap.size + 1 + 1 < w5.heap.size := by omega
  obtain ⟨d0, d1, d2, g0, g1, g2⟩ := row3 (g := w.heap.size + 1 + 1) hr
  have HG := Lib.hid (And.intro hr (And.intro (hf.keep (Keep.of hb5 (Nat.le_refl _)) (Nat.le_refl _)) (And.intro ((q3.trans (hb.mono (by omega))).trans (hb5.mono (by omega))) q2)))
  clear hr hf hb hb5 q0 q1 q3
  ((try dsimp only); repeat (first | go_values | go_skip | go_guarded | go_step | go_upon))
  obtain ⟨r1, r2, r3, r4⟩ := HG.out
  refine bodyPost_ret (results_cell_row rfl _ _ (w.heap.size + 2) _ _ _ _ rfl (heap_set_three r1 _ _ _) rfl rfl rfl) rfl ?_
  have f1 := rat_three (x := .bool (decide (r.num < 0))) (y := .slice E (qn r).length (qn r).length) (z := .slice F (qd r).length (qd r).length) (show w.heap.size + 2 < w3.heap.size by omega) r2
  exact ⟨E, F, rfl, f1.wide (by omega), below_three (by omega) r3⟩
set_option maxRecDepth 100000 in
set_option maxHeartbeats 1600000 in
theorem gNum (s : Nat) (b : Int) (w : World) (hse : SumOk w s) (hb : Fin64 b) :
    Calls Tryz.prog 64 #[.pointer (some ⟨s, 0, none⟩), .int .u64 b] w fun e w' => ∃ E F, e = .returned (qv E F (fval b)) ∧ RatFresh w.heap.size w' E F (fval b) ∧ Below w.heap.size w w' := by
  obtain ⟨h3, h5⟩ : ((w.alloc (.cells #[.bool false, .slice none 0 0, .slice none 0 0] 26)).heap[w.heap.size]? = some (.cells #[.bool false, .slice none 0 0, .slice none 0 0] 26 (0, 0))) ∧ Below w.heap.size w (w.alloc (.cells #[.bool false, .slice none 0 0, .slice none 0 0] 26)) := ⟨alloc_new _ _, (by repeat (first | exact Below.refl _ _ | refine belowN ?_ _ | refine Below.drew ?_ | refine Below.alloc ?_ (by first | exact Nat.le_refl _ | (simp; done) | (simp; omega) | omega) _))⟩
  have h4 : (w.alloc (.cells #[.bool false, .slice none 0 0, .slice none 0 0] 26)).heap.size = w.heap.size + 1 := World.size_alloc ..
  have HC := Lib.hid (vValue b (w.alloc (.cells #[.bool false, .slice none 0 0, .slice none 0 0] 26)) hb)
  have hlt := heap_lt hse
  have h0 := hse.keep h5
  generalize hr0 : fval b = r at *
  clear hr0 hb
  unfold qv at *
  go_enter Tryz.func64, Tryz.ntmps64
  go_upto_region 1 with (fail)
  generalize World.alloc w _ = w3 at *
  have c0 : w3.cell? ⟨s, 0, none⟩ = some (.int .i64 0) := (cell_of_cells h0 0).trans rfl
  have H0 := Lib.hid (And.intro h0 (And.intro h3 (And.intro h4 h5)))
  clear h0 h3 h4 h5 hse
  ((try dsimp only); repeat (first | go_values | go_skip | go_guarded | go_step | go_upon))
  refine HC.out.mono ?_
  rintro e w4 ⟨E, F, rfl, hf, hb⟩
  clear c0
  have HK := Lib.hid (gKeep s E F r w4 (H0.out.1.keep hb))
  unfold qv at HK
  have HF := Lib.hid (And.intro hf hb)
  clear hf hb
  ((try dsimp only); repeat (first | go_values | go_skip | go_guarded | go_step | go_upon))
  refine HK.out.mono ?_
  rintro e w5 ⟨rfl, hb5⟩
  obtain ⟨q0, q1, q2, q3⟩ := H0.out
  obtain ⟨hf, hb⟩ := HF.out
  have s4 := hb.size
  have s5 := hb5.size
  have hr := (hb5.block _ (by omega)).trans ((hb.block w.heap.size (by omega)).trans q1)
  have hlt2 : w.heap.size < w5.heap.size := by omega
  obtain ⟨d0, d1, d2, g0, g1, g2⟩ := row3 (g := w.heap.size) hr
  have HG := Lib.hid (And.intro hr (And.intro (hf.keep (Keep.of hb5 (Nat.le_refl _)) (Nat.le_refl _)) (And.intro ((q3.trans (hb.mono (by omega))).trans (hb5.mono (by omega))) q2)))
  clear hr hf hb hb5 q0 q1 q3
  ((try dsimp only); repeat (first | go_values | go_skip | go_guarded | go_step | go_upon))
  obtain ⟨r1, r2, r3, r4⟩ := HG.out
  refine bodyPost_ret (results_cell_row rfl _ _ w.heap.size _ _ _ _ rfl (heap_set_three r1 _ _ _) rfl rfl rfl) rfl ?_
  have f1 := rat_three (x := .bool (decide (r.num < 0))) (y := .slice E (qn r).length (qn r).length) (z := .slice F (qd r).length (qd r).length) (show w.heap.size < w3.heap.size by omega) r2
  exact ⟨E, F, rfl, f1.wide (by omega), below_three (by omega) r3⟩
end Go.Proofs.YtfpofmifmapmfaaGreatDoor

namespace Go.Proofs.YtfpofmifmapmfaaGreatDoor
open Go.RowKit Go.Proofs.YtfpofmifmapmfaaGreatDoorW.PrintLast
set_option linter.unusedVariables false
set_option linter.unusedSimpArgs false
attribute [local go_sem] Oper.semAt_some
theorem postM_ret {F : Fence} {n : Nat} {P : Program} {fn : Func} {R : Ending → World → Prop} {a : Act} {w : World} {v : Value} (h : (results fn a.tmps).run P w = .ok v w) (hd : a.defers = []) (hR : R (.returned v) w) : bodyPostM F n P fn R .ret a w := by
  show LeavesInM F n P fn a.tmps R a.defers .returning w
  rw [hd]
  exact ⟨v, h, hR⟩
def windR (ps : List Pt) (p : Pt) : Int × Bool := if pcmpP (ps.getD 0 (0, 0)) p = 0 then (0, true) else if (edgesR ps).any (onE p) then (0, true) else (sumI (crossE p) (edgesR ps), false)
def windV (ps : List Pt) (p : Pt) : Int × Bool × Int := if chkE ps [p] ≠ 0 then (0, false, chkE ps [p]) else ((windR ps p).1, (windR ps p).2, 0)
theorem chk_ok {ps more : List Pt} (hu : ∀ q ∈ ps, PtU q) (hm : ∀ q ∈ more, PtU q) (h : chkE ps more = 0) : 0 < ps.length ∧ ps.length ≤ 512 ∧ (∀ q ∈ ps, FinP q) ∧ (∀ q ∈ more, FinP q) ∧ pcmpP (ps.getD 0 (0, 0)) (ps.getD (ps.length - 1) (0, 0)) = 0 := by
  unfold chkE at h
  split at h
  · omega
  · rename_i h1
    split at h
    · omega
    · rename_i h2
      split at h
      · omega
      · rename_i h3
        have h2' : (finB ps && finB more) = true := by simpa using h2
        rw [Bool.and_eq_true, finB_iff hu, finB_iff hm] at h2'
        exact ⟨by omega, by omega, h2'.1, h2'.2, by omega⟩
theorem quiet {P : Program} {c : Code} {K : Act → World → Prop} {Q : Exit → Act → World → Prop} {a : Act} {w : World} (h : Code.wp P c (Exit.then K (fun _ _ _ => False)) a w) : Code.wp P c (Exit.then K Q) a w :=
  Code.wp_mono (fun e a w h => by cases e <;> first | exact h | exact h.elim) h
theorem pts_one {w : World} {g : Nat} {p : Pt} {t : TypeId} {f : Nat × Nat} (h : w.heap[g]? = some (.cells #[.int .u64 p.1, .int .u64 p.2] t f)) : PtsAt w g 0 [p] := by
  intro i hi
  match i, hi with
  | 0, _ => exact ⟨by rw [cell_of_cells h]; rfl, by rw [cell_of_cells h]; rfl⟩
theorem results_cells3 {P : Program} {fn : Func} {p q r : Tmp} {t u v : TypeId} (h : fn.results = #[.cell p t, .cell q u, .cell r v]) {tmps : Array Value} {w : World} (a b c : Addr) (x y z : Value)
    (hp : tmps.getD p undef = .pointer (some a)) (hq : tmps.getD q undef = .pointer (some b)) (hr : tmps.getD r undef = .pointer (some c))
    (hx : (loadVar t a).run P w = .ok x w) (hy : (loadVar u b).run P w = .ok y w) (hz : (loadVar v c).run P w = .ok z w) : (results fn tmps).run P w = .ok (.tuple #[x, y, z]) w := by
  simp only [Array.getD_eq_getD_getElem?] at hp hq hr
  simp [results, h, Sem.run_bind, hp, hq, hr, asAddr, hx, hy, hz]
theorem load_int {w : World} {a : Addr} {v : Value} (h : w.cell? a = some v) : (loadVar 3 a).run Tryz.prog w = .ok v w ∧ (loadVar 4 a).run Tryz.prog w = .ok v w ∧ (loadVar 27 a).run Tryz.prog w = .ok v w := by
  simp [go_sem, h]
theorem fe_cmp (a b : Int) : qcmp a b = -1 ∨ qcmp a b = 0 ∨ qcmp a b = 1 := by
  rcases qcmp_cases (a : Rat) (b : Rat) with h | h | h
  · exact Or.inl h.1
  · exact Or.inr (Or.inl h.1)
  · exact Or.inr (Or.inr h.1)
theorem qcmp3 (a b : Rat) : qcmp a b = -1 ∨ qcmp a b = 0 ∨ qcmp a b = 1 := by
  rcases qcmp_cases a b with h | h | h
  · exact Or.inl h.1
  · exact Or.inr (Or.inl h.1)
  · exact Or.inr (Or.inr h.1)
theorem edgesU_any {r : List Pt} {k m : Nat} {f : Ed → Bool} (hk : k ≤ m) (h : (edgesU r k).any f = true) : (edgesU r m).any f = true := by
  rw [List.any_eq_true] at h ⊢
  obtain ⟨x, hx, hf⟩ := h
  unfold edgesU at hx ⊢
  obtain ⟨j, hj, rfl⟩ := List.mem_map.1 hx
  exact ⟨_, List.mem_map.2 ⟨j, List.mem_range.2 (by have := List.mem_range.1 hj; omega), rfl⟩, hf⟩
def LW (p : Pt) (n vs k : Nat) (sl r1 r2 r3 c : Value) : List (Nat × Obj) := [(n, .cells #[.int .u64 p.1, .int .u64 p.2] 38 (0, 0)), (n + 1, .cells #[r1] 3 (0, 0)), (n + 1 + 1, .cells #[r2] 4 (0, 0)), (n + 1 + 1 + 1, .cells #[r3] 27 (0, 0)),
  (vs, .cells #[.int .u64 p.1, .int .u64 p.2] 38 (0, 0)), (k, .cells #[c] 3 (0, 0)), (k + 1, .cells #[sl] 22 (0, 0))]
theorem pts_cells {w : World} {g : Nat} {p : Pt} {t : TypeId} (h : w.heap[g]? = some (.cells #[.int .u64 p.1, .int .u64 p.2] t (0, 0))) : w.cell? ⟨g, 0, none⟩ = some (.int .u64 p.1) ∧ w.cell? ⟨g, 1, none⟩ = some (.int .u64 p.2) := ⟨(rw2 h).1, (rw2 h).2.1⟩
theorem outG {α : Type} {B : Nat} {Kp : World → World → Prop} {I : List α → World → Prop} {Ix : Code → List α → World → Prop} {xs : List α} {W : World} : ¬ LetsOut (ownPostG B Kp I Ix xs W) := fun ⟨_, _, h⟩ => h
set_option maxRecDepth 100000 in
set_option maxHeartbeats 6400000 in
theorem gWinding (A : Option Addr) (c : Nat) (ps : List Pt) (p : Pt) (w : World) (hp : PtsIn w A ps) (hl : ps.length ≤ 1000000) (hu : ∀ q ∈ ps, PtU q) (hup : PtU p) :
    Calls Tryz.prog 27 #[.slice A ps.length c, .agg #[.int .u64 p.1, .int .u64 p.2]] w fun e w' => e = .returned (.tuple #[.int .i64 (windV ps p).1, .bool (windV ps p).2.1, .int .i64 (windV ps p).2.2]) ∧ Below w.heap.size w w' := by
  have HP := Lib.hid hp
  have HU := Lib.hid hu
  have hu1 : ∀ q ∈ [p], PtU q := fun q hq => by rw [List.mem_singleton.1 hq]; exact hup
  have HK := Lib.hid (fun h => chk_ok hu hu1 h)
  have hmm : Bx w.heap.size w ((((w.alloc (.cells #[.int .u64 p.1, .int .u64 p.2] 38)).alloc (.cells #[.int .i64 0] 3)).alloc (.cells #[.bool false] 4)).alloc (.cells #[.int .i64 0] 27)) _ _ :=
    ((((Bx.start w).alloc (.cells #[.int .u64 p.1, .int .u64 p.2] 38 (0, 0))).alloc (.cells #[.int .i64 0] 3 (0, 0))).alloc (.cells #[.bool false] 4 (0, 0))).alloc (.cells #[.int .i64 0] 27 (0, 0))
  simp only [List.nil_append, List.cons_append, World.size_alloc] at hmm
  have HL := Lib.hid (And.intro hl hup)
  clear hp hu hup
  refine (callsIn_wide (n := 10)).1 (callsIn_of_wp_marks Tryz.func27 rfl trivial ?_)
  simp only [Tryz.ntmps27, List.size_toArray, List.length_cons, List.length_nil, Nat.reduceAdd, Nat.reduceSub, Array.replicate_succ, Array.replicate_zero, List.push_toArray, List.append_toArray, List.nil_append, List.cons_append]
  refine wpIn_wide.2 ?_
  go_upto_region 1 with (fail)
  generalize World.alloc (World.alloc (World.alloc (World.alloc w _) _) _) _ = v at *
  have HM := Lib.hid hmm
  clear hmm
  obtain ⟨c0, c1, _, _⟩ := rw2 (HM.out.at 0 rfl)
  have h2 := HM.out.alloc (.cells #[.int .u64 p.1, .int .u64 p.2] 38 (0, 0))
  simp only [List.nil_append, List.cons_append] at h2
  have HC := Lib.hid (gCheck A (some ⟨v.heap.size, 0, none⟩) c 1 ps [p] (v.alloc (.cells #[.int .u64 p.1, .int .u64 p.2] 38)) (HP.out.keep h2.m.b) (Or.inr ⟨_, 0, rfl, by simp, pts_one (alloc_new _ _)⟩) HL.out.1 (by simp) HU.out hu1)
  have H2 := Lib.hid h2
  clear h2 hl hu1
  rw [show ([p] : List Pt).length = 1 from rfl] at HC
  have HE : Hid (windV ps p = if chkE ps [p] ≠ 0 then (0, false, chkE ps [p]) else ((windR ps p).1, (windR ps p).2, 0)) := Lib.hid rfl
  generalize chkE ps [p] = E at *
  ((try dsimp only); repeat (first | go_values | go_skip | go_guarded | go_step | go_upon))
  refine HC.out.mono ?_
  rintro e w6 ⟨rfl, hb6⟩
  have h6 := H2.out.keep hb6
  have HM6 := Lib.hid h6
  clear hb6 h6 HM H2 c0 c1 HC
  by_cases hE : E = 0
  · subst hE
    rw [if_neg (by decide)] at HE
    obtain ⟨k0, k1, k2, k3, k4⟩ := HK.out rfl
    obtain ⟨b, o, rfl, hb, hpa⟩ := HP.out.open k0
    have hF0 := k2 _ (getD_mem k0)
    have hFp := k3 p (by simp)
    have hcell : ∀ w', Below w6.heap.size w6 w' → (w'.cell? ⟨b, o, none⟩ = some (.int .u64 (ps.getD 0 (0, 0)).1) ∧ w'.cell? ⟨b, o + 1, none⟩ = some (.int .u64 (ps.getD 0 (0, 0)).2)) ∧ (w'.cell? ⟨w.heap.size, 0, none⟩ = some (.int .u64 p.1) ∧ w'.cell? ⟨w.heap.size, 1, none⟩ = some (.int .u64 p.2)) := fun w' h => by
      have m := HM6.out.keep h
      have q := hpa 0 k0
      rw [Nat.zero_mul, Nat.add_zero] at q
      obtain ⟨e0, e1, _, _⟩ := rw2 (m.at 0 rfl)
      exact ⟨⟨(m.m.b.cell (p := ⟨b, o, none⟩) hb).trans q.1, (m.m.b.cell (p := ⟨b, o + 1, none⟩) hb).trans q.2⟩, e0, e1⟩
    have HCE := Lib.hid hcell
    have HO := Lib.hid (fun wz => pOrderP (ps.getD 0 (0, 0)) p wz hF0 hFp)
    have HW : Hid (windR ps p = if pcmpP (ps.getD 0 (0, 0)) p = 0 then (0, true) else if (edgesR ps).any (onE p) then (0, true) else (sumI (crossE p) (edgesR ps), false)) := Lib.hid rfl
    have HPA := Lib.hid (And.intro hb (And.intro hpa (And.intro k1 (And.intro k2 hFp))))
    clear hcell hF0 hFp hb hpa k1 k2 k3 k4 HK HP
    generalize windR ps p = Wr at *
    generalize ps.getD 0 (0, 0) = r0 at *
    have hpc : pcmpP r0 p = -1 ∨ pcmpP r0 p = 0 ∨ pcmpP r0 p = 1 := pcmp_cases _ _
    generalize pcmpP r0 p = z at *
    go_upto_region 4 with (fail)
    refine quiet ?_
    refine start_ (n := 10) (S := fun w' => Below w6.heap.size w6 w') (ds := []) (bt 10 0) (by kernel_rfl) rfl rfl ((Below.refl _ _).drew) (fun hHeld => ?_)
    refine pv_ 0 29 ?_
    refine pv_ 1 30 ?_
    refine ld_ 2 31 ?_ hHeld ?_ ?_; rotate_left
    · rintro w' hs
      obtain ⟨⟨c0, c1⟩, c2, c3⟩ := HCE.out _ hs
      clear hs
      go_simp; with_reducible rfl
    refine ld_ 3 32 ?_ hHeld ?_ ?_; rotate_left
    · rintro w' hs
      obtain ⟨⟨c0, c1⟩, c2, c3⟩ := HCE.out _ hs
      clear hs
      go_simp; with_reducible rfl
    refine ca_ 4 33 Tryz.func78 #[.agg #[.int .u64 r0.1, .int .u64 r0.2], .agg #[.int .u64 p.1, .int .u64 p.2]] ?_
    with_reducible refine (HO.out _).mono ?_
    rintro e w' ⟨rfl, hb3⟩
    refine ⟨_, rfl, (by exact hHeld.trans (hb3.mono hHeld.size)), fun hHeld => ?_⟩
    refine nn ?_
    refine pv_ 5 28 ?_
    refine pv_ 6 34 ?_
    refine pv_ 7 35 ?_
    refine pv_ 8 8 ?_
    refine pv_ 9 9 ?_
    refine done_ (by kernel_rfl) ?_
    have HM7 := Lib.hid (HM6.out.keep hHeld)
    clear hb3 hHeld HM6 HCE HO
    generalize w' = w7 at *
    by_cases hz : z = 0
    · subst hz
      rw [if_pos rfl] at HW
      rw [HW.out] at HE
      obtain ⟨x0, x1⟩ := rw1 (HM7.out.at 1 rfl)
      obtain ⟨y0, y1⟩ := rw1 (HM7.out.at 2 rfl)
      obtain ⟨z0, z1⟩ := rw1 (HM7.out.at 3 rfl)
      ((try dsimp only); repeat (first | go_values | go_skip | go_guarded | go_step | go_upon))
      have hN := ((HM7.out.puts 1 rfl (by decide) [(0, .int .i64 0)]).puts 2 rfl (by decide) [(0, .bool true)]).puts 3 rfl (by decide) [(0, .int .i64 0)]
      simp only [putsC, puts, pB, pC, pD, List.set_cons_zero, List.set_cons_succ] at hN
      refine postM_ret (results_cells3 rfl ⟨w.heap.size + 1, 0, none⟩ ⟨w.heap.size + 1 + 1, 0, none⟩ ⟨w.heap.size + 1 + 1 + 1, 0, none⟩ _ _ _ rfl rfl rfl (load_int (rw1 (hN.at 1 rfl)).1).1 (load_int (rw1 (hN.at 2 rfl)).1).2.1 (load_int (rw1 (hN.at 3 rfl)).1).2.2) rfl ⟨by rw [HE.out], hN.m.b⟩
    · rw [if_neg hz] at HW
      have h8 := (HM7.out.alloc (.cells #[.int .i64 0] 3 (0, 0))).alloc (.cells #[.slice (some ⟨b, o, none⟩) ps.length c] 22 (0, 0))
      simp only [List.nil_append, List.cons_append, World.size_alloc] at h8
      ((try dsimp only); repeat (first | go_values | go_skip | go_guarded | go_step | go_upon))
      refine (gEdges (some ⟨b, o, none⟩) ps.length c _).mono ?_
      rintro e w8 ⟨rfl, rfl⟩
      simp only [World.size_alloc]
      have hs8 : (World.alloc (World.alloc w7 (.cells #[.int .i64 0] 3)) (.cells #[.slice (some ⟨b, o, none⟩) ps.length c] 22)).heap.size = w7.heap.size + 2 := by simp only [World.size_alloc]
      ((try dsimp only); repeat (first | go_values | go_skip | go_guarded | go_step | go_upon))
      generalize World.alloc (World.alloc w7 _) _ = W0 at *
      have h9 : Bx w.heap.size w W0 (LW p w.heap.size v.heap.size w7.heap.size (.slice (some ⟨b, o, none⟩) ps.length c) (.int .i64 0) (.bool false) (.int .i64 0) (.int .i64 0)) [] := h8
      clear h8 HM7
      obtain ⟨hb, hpa, k1, k2, hFp⟩ := HPA.out
      have hpa0 : PtsAt W0 b o ps := fun i hi => ⟨(h9.m.b.cell (p := ⟨b, o + i * 2, none⟩) hb).trans (hpa i hi).1, (h9.m.b.cell (p := ⟨b, o + i * 2 + 1, none⟩) hb).trans (hpa i hi).2⟩
      have hz7 := h9.m.z
      have hn7 : w.heap.size ≤ w7.heap.size := h9.g 5 _ _ rfl
      refine (wpIn_wide (n := 10)).1 ?_
      refine wpIn_rangeFunc_ownH (F := Fence.wide) (n := 10) rfl (by decide) (gf := 140) (lb := #[.pointer (some ⟨w7.heap.size + 1, 0, none⟩)]) rfl trivial (enters_of Tryz.func140 (by kernel_rfl) rfl)
        (gStops 9 w.heap.size (w7.heap.size + 1) b o c ps (by omega) k0 k2 W0 hb hz7 hpa0 (by omega) (rw1 (h9.at 6 rfl)).1) (fun h k => KpB.trans h k) (KpB.put hz7 (by omega)) (Below.refl _ _) (fun _ => rfl)
        (fun (pre : List FE) W => Bx w.heap.size w W (LW p w.heap.size v.heap.size w7.heap.size (.slice (some ⟨b, o, none⟩) ps.length c) (.int .i64 0) (.bool false) (.int .i64 0) (.int .i64 (sumI (crossE p) (vals pre)))) [] ∧ (vals pre).any (onE p) = false ∧ (-(pre.length : Int) ≤ sumI (crossE p) (vals pre) ∧ sumI (crossE p) (vals pre) ≤ pre.length))
        (fun d (pre : List FE) W => d = .ret ∧ (∃ k, Bx w.heap.size w W (LW p w.heap.size v.heap.size w7.heap.size (.slice (some ⟨b, o, none⟩) ps.length c) (.int .i64 0) (.bool true) (.int .i64 0) k) []) ∧ (vals pre).any (onE p) = true)
        (fun pre X Y row hs hg hr => ⟨hs.1.kept hg (fun r e => ⟨Nat.le_trans hz7 (hr r e).1, (hr r e).2⟩) rfl, hs.2⟩)
        (fun d pre X Y row hs hg hr => ⟨hs.1, hs.2.1.imp (fun k h => h.kept hg (fun r e => ⟨Nat.le_trans hz7 (hr r e).1, (hr r e).2⟩) rfl), hs.2.2⟩)
        ⟨h9, rfl, by simp [sumI, vals], by simp [sumI, vals]⟩
        (fun (x : FE) a' W => ∃ g1 g2, (w7.heap.size + 1 < g1 ∧ w7.heap.size + 1 < g2) ∧ W.heap[g1]? = some (.cells #[.int .u64 x.1.1.1, .int .u64 x.1.1.2] 38 (0, 0)) ∧ W.heap[g2]? = some (.cells #[.int .u64 x.1.2.1, .int .u64 x.1.2.2] 38 (0, 0)) ∧ a' = { tmps := #[.slice (some ⟨b, o, none⟩) ps.length c, .agg #[.int .u64 p.1, .int .u64 p.2], undef, .pointer (some ⟨w.heap.size, 0, none⟩), .pointer (some ⟨w.heap.size + 1, 0, none⟩), .pointer (some ⟨w.heap.size + 1 + 1, 0, none⟩), .pointer (some ⟨w.heap.size + 1 + 1 + 1, 0, none⟩), .int .i64 0, .int .i64 z, .int .i64 0, .pointer (some ⟨w7.heap.size, 0, none⟩), .pointer (some ⟨g1, 0, none⟩), .pointer (some ⟨g2, 0, none⟩), undef, undef, undef, undef, undef, undef, undef, undef, .slice (some ⟨b, o, none⟩) ps.length c, .agg #[.int .u64 p.1, .int .u64 p.2], .slice (some ⟨v.heap.size, 0, none⟩) 1 1, .int .i64 0, .int .i64 0, .bool false, undef, .tuple #[.int .i64 z, .int .i64 0], .slice (some ⟨b, o, none⟩) ps.length c, .pointer (some ⟨b, o, none⟩), .agg #[.int .u64 r0.1, .int .u64 r0.2], .agg #[.int .u64 p.1, .int .u64 p.2], .tuple #[.int .i64 z, .int .i64 0], .int .i64 z, .int .i64 0, .int .i64 z, .bool false, .slice (some ⟨b, o, none⟩) ps.length c, .func (.func 140) #[] #[.pointer (some ⟨w7.heap.size + 1, 0, none⟩)], .agg #[.int .u64 x.1.1.1, .int .u64 x.1.1.2], .agg #[.int .u64 x.1.2.1, .int .u64 x.1.2.2], undef, undef, undef, undef, undef, undef, undef, undef, undef, undef, undef, undef, undef, undef, undef, undef, undef, undef, undef, undef, undef, undef, undef, undef, undef, undef, undef, undef, undef, undef, undef, undef, undef, undef, undef, undef, undef, undef, undef, undef, undef, undef, undef, undef, undef, undef, undef, undef, undef, undef, undef, undef, undef, undef, undef, undef, undef, undef, undef, undef, undef, undef], defers := [] })
        (fun x a' _ X Y row hs hg hr => by
          obtain ⟨g1, g2, h1, h2, h3, h4⟩ := hs
          exact ⟨g1, g2, h1, (hg.block _ (heap_lt h2) (ne_row h2 rfl (fun r e => (hr r e).2))).trans h2, (hg.block _ (heap_lt h3) (ne_row h3 rfl (fun r e => (hr r e).2))).trans h3, h4⟩)
        ?assign ?body ?done ?stop
      case assign =>
        rintro l pre x W K ⟨hB, hI⟩ hK
        have s1 := hB.lt 6 rfl
        gi_wp2
        refine hK _ _ (((KeepsOthers.alloc _ _).trans (KeepsOthers.alloc _ _)).from _) ⟨((Below.refl _ W).alloc hB.m.z _).alloc (by simp; have := hB.m.z; omega) _, ?_⟩ ⟨?_, hI⟩ ⟨W.heap.size, W.heap.size + 1, ⟨s1, by omega⟩, alloc_old (alloc_new _ _), alloc_at _ (by simp), rfl⟩
        · exact (Below.heap_alloc _ _ _ (by simp; omega)).trans (Below.heap_alloc _ _ _ s1)
        · exact hB.keep (((Below.refl _ W).alloc (Nat.le_refl _) _).alloc (by simp) _)
      case body =>
        rintro l pre x a' W hl ⟨r, hr⟩ ⟨hB, hno, hrg⟩ ⟨g1, g2, hg, h1, h2, rfl⟩ hlt
        have hcell : ∀ w', Below W.heap.size W w' → ((w'.cell? ⟨g1, 0, none⟩ = some (.int .u64 x.1.1.1) ∧ w'.cell? ⟨g1, 1, none⟩ = some (.int .u64 x.1.1.2)) ∧ (w'.cell? ⟨g2, 0, none⟩ = some (.int .u64 x.1.2.1) ∧ w'.cell? ⟨g2, 1, none⟩ = some (.int .u64 x.1.2.2))) ∧ ((w'.cell? ⟨w.heap.size, 0, none⟩ = some (.int .u64 p.1) ∧ w'.cell? ⟨w.heap.size, 1, none⟩ = some (.int .u64 p.2))) := fun w' h =>
          ⟨⟨pts_cells (p := x.1.1) ((h.block _ (heap_lt h1)).trans h1), pts_cells (p := x.1.2) ((h.block _ (heap_lt h2)).trans h2)⟩, pts_cells ((hB.keep h).at 0 rfl)⟩
        have hres : ∀ w', Below W.heap.size W w' → ((w'.cell? ⟨w7.heap.size, 0, none⟩ = some (.int .i64 (sumI (crossE p) (vals pre))) ∧ w'.frozen? ⟨w7.heap.size, 0, none⟩ = false) ∧ (w'.cell? ⟨w.heap.size + 1, 0, none⟩ = some (.int .i64 0) ∧ w'.frozen? ⟨w.heap.size + 1, 0, none⟩ = false)) ∧ ((w'.cell? ⟨w.heap.size + 1 + 1, 0, none⟩ = some (.bool false) ∧ w'.frozen? ⟨w.heap.size + 1 + 1, 0, none⟩ = false) ∧ (w'.cell? ⟨w.heap.size + 1 + 1 + 1, 0, none⟩ = some (.int .i64 0) ∧ w'.frozen? ⟨w.heap.size + 1 + 1 + 1, 0, none⟩ = false)) := fun w' h =>
          ⟨⟨rw1 ((hB.keep h).at 5 rfl), rw1 ((hB.keep h).at 1 rfl)⟩, ⟨rw1 ((hB.keep h).at 2 rfl), rw1 ((hB.keep h).at 3 rfl)⟩⟩
        have HCE := Lib.hid hcell
        have HRE := Lib.hid hres
        have hWz := hB.m.z
        have hs7 : w7.heap.size + 1 < W.heap.size := hB.lt 6 rfl
        have K1 : ∀ w' v', Below W.heap.size W w' → KeepsFrom W0.heap.size W (w'.setCell ⟨w7.heap.size, 0, none⟩ v') := fun w' v' h => ((below_keeps h).trans (KeepsOthers.setCell _ _ _)).from _
        have K1' : ∀ w', Below W.heap.size W w' → KeepsFrom W0.heap.size W w' := fun w' h => (below_keeps h).from _
        have K2' : ∀ w', Below W.heap.size W w' → KpB w.heap.size (w7.heap.size + 1) W w' := fun w' h => ⟨h.mono hWz, h.block _ hs7⟩
        have K2 : ∀ w' v', Below W.heap.size W w' → KpB w.heap.size (w7.heap.size + 1) W (w'.setCell ⟨w7.heap.size, 0, none⟩ v') := fun w' v' h => ⟨(h.mono hWz).setCell (p := ⟨w7.heap.size, 0, none⟩) hn7 _, (Below.heap_setCell _ _ _ _ (show w7.heap.size + 1 ≠ w7.heap.size by omega)).trans (h.block _ hs7)⟩
        have hsn : sumI (crossE p) (vals (pre ++ [x])) = sumI (crossE p) (vals pre) + crossE p x.1 := by rw [vals_snoc, sumI_snoc]
        have K3 : ∀ w' S', S' = sumI (crossE p) (vals pre) + crossE p x.1 → Below W.heap.size W w' → Bx w.heap.size w (w'.setCell ⟨w7.heap.size, 0, none⟩ (.int .i64 S')) (LW p w.heap.size v.heap.size w7.heap.size (.slice (some ⟨b, o, none⟩) ps.length c) (.int .i64 0) (.bool false) (.int .i64 0) (.int .i64 (sumI (crossE p) (vals (pre ++ [x]))))) [] := fun w' S' e h => by
          rw [hsn, ← e]
          exact (hB.keep h).puts 5 rfl (by decide) [(0, .int .i64 S')]
        have K3' : ∀ w', crossE p x.1 = 0 → Below W.heap.size W w' → Bx w.heap.size w w' (LW p w.heap.size v.heap.size w7.heap.size (.slice (some ⟨b, o, none⟩) ps.length c) (.int .i64 0) (.bool false) (.int .i64 0) (.int .i64 (sumI (crossE p) (vals (pre ++ [x]))))) [] := fun w' e h => by
          rw [hsn, e, Int.add_zero]
          exact hB.keep h
        have hcr := crossE_range p x.1
        have K5 : -((pre ++ [x]).length : Int) ≤ sumI (crossE p) (vals (pre ++ [x])) ∧ sumI (crossE p) (vals (pre ++ [x])) ≤ ((pre ++ [x]).length : Int) := by
          rw [hsn, List.length_append, List.length_singleton]; omega
        have hany : (vals (pre ++ [x])).any (onE p) = btwP x.1.1 x.1.2 p := by rw [vals_snoc, List.any_append, hno, Bool.false_or, List.any_cons, List.any_nil, Bool.or_false]; rfl
        have K6 : ∀ w' : World, Below W.heap.size W w' → Bx w.heap.size w (((w'.setCell ⟨w.heap.size + 1, 0, none⟩ (.int .i64 0)).setCell ⟨w.heap.size + 1 + 1, 0, none⟩ (.bool true)).setCell ⟨w.heap.size + 1 + 1 + 1, 0, none⟩ (.int .i64 0)) (LW p w.heap.size v.heap.size w7.heap.size (.slice (some ⟨b, o, none⟩) ps.length c) (.int .i64 0) (.bool true) (.int .i64 0) (.int .i64 (sumI (crossE p) (vals pre)))) [] := fun w' h =>
          (((hB.keep h).puts 1 rfl (by decide) [(0, .int .i64 0)]).puts 2 rfl (by decide) [(0, .bool true)]).puts 3 rfl (by decide) [(0, .int .i64 0)]
        have K7 : ∀ w' : World, Below W.heap.size W w' → KeepsFrom W0.heap.size W (((w'.setCell ⟨w.heap.size + 1, 0, none⟩ (.int .i64 0)).setCell ⟨w.heap.size + 1 + 1, 0, none⟩ (.bool true)).setCell ⟨w.heap.size + 1 + 1 + 1, 0, none⟩ (.int .i64 0)) := fun w' h => ((((below_keeps h).trans (KeepsOthers.setCell _ _ _)).trans (KeepsOthers.setCell _ _ _)).trans (KeepsOthers.setCell _ _ _)).from _
        have HO := Lib.hid (fun wz => pOrient x.1.1 x.1.2 p wz x.2.1 x.2.2 hFp)
        have HBT := Lib.hid (fun wz => pBetween x.1.1 x.1.2 p wz x.2.1 x.2.2 hFp)
        have HC := Lib.hid (fun wz => And.intro (fCmp x.1.1.2 p.2 wz x.2.1.2 hFp.2) (fCmp x.1.2.2 p.2 wz x.2.2.2 hFp.2))
        have HX : Hid (crossE p x.1 = if qcmp (fval x.1.1.2) (fval p.2) ≤ 0 ∧ 0 < qcmp (fval x.1.2.2) (fval p.2) ∧ 0 < sideP x.1.1 x.1.2 p then 1 else if qcmp (fval x.1.2.2) (fval p.2) ≤ 0 ∧ 0 < qcmp (fval x.1.1.2) (fval p.2) ∧ sideP x.1.1 x.1.2 p < 0 then -1 else 0) := Lib.hid rfl
        have hbs : btwP x.1.1 x.1.2 p = true → sideP x.1.1 x.1.2 p = 0 := fun h => btw_side h
        have hS1 : wrap64 (sumI (crossE p) (vals pre) + 1) = sumI (crossE p) (vals pre) + 1 := by unfold wrap64; omega
        have hS2 : wrap64 (sumI (crossE p) (vals pre) - 1) = sumI (crossE p) (vals pre) - 1 := by unfold wrap64; omega
        have HKK := Lib.hid (And.intro (And.intro K1 (And.intro K1' (And.intro K2 K2'))) (And.intro (And.intro K3 K3') (And.intro (And.intro K5 hany) (And.intro K6 K7))))
        obtain ⟨⟨⟨c1, c2⟩, c3, c4⟩, c5, c6⟩ := hcell W (Below.refl _ _)
        clear hcell hres K1 K1' K2 K2' K3 K3' K5 K6 K7 hany hsn hcr hB h1 h2 h9 hpa hpa0 k2 hFp
        generalize sumI (crossE p) (vals pre) = S at *
        generalize crossE p x.1 = cr at *
        generalize sideP x.1.1 x.1.2 p = sd at *
        generalize btwP x.1.1 x.1.2 p = bt at *
        generalize qcmp (fval x.1.1.2) (fval p.2) = lo at *
        generalize qcmp (fval x.1.2.2) (fval p.2) = hi at *
        have HSW := Lib.hid (And.intro hS1 hS2)
        clear hS1 hS2
        ((try dsimp only); repeat (first | go_values | gi_guarded | gi_step | gi_upon))
        refine ⟨trivial, (callsR (HO.out _)).mono ?_⟩
        rintro e w1 ⟨rfl, hb1⟩
        have HB1 := Lib.hid hb1
        clear c1 c2 c3 c4 c5 c6 hb1
        obtain ⟨⟨⟨c1, c2⟩, c3, c4⟩, c5, c6⟩ := HCE.out w1 HB1.out
        ((try dsimp only); repeat (first | go_values | gi_guarded | gi_step | gi_upon))
        refine ⟨trivial, (callsR (HBT.out _)).mono ?_⟩
        rintro e w2 ⟨rfl, hb2⟩
        have HB2 := Lib.hid (HB1.out.trans (hb2.mono HB1.out.size))
        clear c1 c2 c3 c4 c5 c6 hb2 HB1
        obtain ⟨⟨⟨c1, c2⟩, c3, c4⟩, c5, c6⟩ := HCE.out w2 HB2.out
        obtain ⟨⟨⟨x0, x1⟩, y0, y1⟩, ⟨z0, z1⟩, t0, t1⟩ := HRE.out w2 HB2.out
        cases bt with
        | true =>
          obtain rfl := hbs rfl
          ((try dsimp only); repeat (first | go_values | gi_guarded | gi_step | gi_upon))
          exact ⟨HKK.out.2.2.2.2 _ HB2.out, rfl, ⟨_, HKK.out.2.2.2.1 _ HB2.out⟩, HKK.out.2.2.1.2⟩
        | false =>
          clear hbs
          by_cases hs0 : sd = 0
          · subst hs0
            ((try dsimp only); repeat (first | go_values | gi_guarded | gi_step | gi_upon))
            refine ⟨trivial, (callsR (HC.out _).1).mono ?_⟩
            rintro e w3 ⟨rfl, rfl⟩
            ((try dsimp only); repeat (first | go_values | gi_guarded | gi_step | gi_upon))
            refine ⟨trivial, (callsR (HC.out _).2).mono ?_⟩
            rintro e w4 ⟨rfl, rfl⟩
            obtain ⟨hS1, hS2⟩ := HSW.out
            ((try dsimp only); repeat' (first | go_values | gi_guarded | gi_step | gi_upon))
            all_goals clear hS1 hS2
            all_goals first
              | exact ⟨HKK.out.1.2.1 _ HB2.out, HKK.out.1.2.2.2 _ HB2.out, HKK.out.2.1.2 _ (by have e := HX.out; split at e <;> (try split at e) <;> omega) HB2.out, HKK.out.2.2.1.2, HKK.out.2.2.1.1⟩
              | exact ⟨HKK.out.1.1 _ _ HB2.out, HKK.out.1.2.2.1 _ _ HB2.out, HKK.out.2.1.1 _ _ (by have e := HX.out; split at e <;> (try split at e) <;> omega) HB2.out, HKK.out.2.2.1.2, HKK.out.2.2.1.1⟩
          · ((try dsimp only); repeat (first | go_values | gi_guarded | gi_step | gi_upon))
            refine ⟨trivial, (callsR (HC.out _).1).mono ?_⟩
            rintro e w3 ⟨rfl, rfl⟩
            ((try dsimp only); repeat (first | go_values | gi_guarded | gi_step | gi_upon))
            refine ⟨trivial, (callsR (HC.out _).2).mono ?_⟩
            rintro e w4 ⟨rfl, rfl⟩
            obtain ⟨hS1, hS2⟩ := HSW.out
            ((try dsimp only); repeat' (first | go_values | gi_guarded | gi_step | gi_upon))
            all_goals clear hS1 hS2
            all_goals first
              | exact ⟨HKK.out.1.2.1 _ HB2.out, HKK.out.1.2.2.2 _ HB2.out, HKK.out.2.1.2 _ (by have e := HX.out; split at e <;> (try split at e) <;> omega) HB2.out, HKK.out.2.2.1.2, HKK.out.2.2.1.1⟩
              | exact ⟨HKK.out.1.1 _ _ HB2.out, HKK.out.1.2.2.1 _ _ HB2.out, HKK.out.2.1.1 _ _ (by have e := HX.out; split at e <;> (try split at e) <;> omega) HB2.out, HKK.out.2.2.1.2, HKK.out.2.2.1.1⟩
      case done =>
        rintro D xs W hD hS ⟨hB, hno, hrg⟩ hK
        rw [hS] at hno hB hrg
        rw [hno] at HW
        generalize sumI (crossE p) (edgesR ps) = S at *
        obtain ⟨u0, u1⟩ := rw1 (hB.at 5 rfl)
        obtain ⟨x0, x1⟩ := rw1 (hB.at 1 rfl)
        obtain ⟨y0, y1⟩ := rw1 (hB.at 2 rfl)
        obtain ⟨z0, z1⟩ := rw1 (hB.at 3 rfl)
        have HBD := Lib.hid (And.intro hB (And.intro hK (And.intro hD (And.intro hz7 HW.out))))
        clear h9 hpa0 hpa k2 hB hK hno hrg hS HW HPA
        ((try dsimp only); repeat (first | go_values | go_skip | go_guarded | go_step | go_upon))
        obtain ⟨hB, hK, hD, hz7, hW⟩ := HBD.out
        rw [if_neg (by decide)] at hW
        have hN : Bx w.heap.size w _ (LW p w.heap.size v.heap.size w7.heap.size (.slice (some ⟨b, o, none⟩) ps.length c) (.int .i64 S) (.bool false) (.int .i64 0) (.int .i64 S)) [] := ((hB.puts 1 rfl (by decide) [(0, .int .i64 S)]).puts 2 rfl (by decide) [(0, .bool false)]).puts 3 rfl (by decide) [(0, .int .i64 0)]
        have hK' := (((KeepsOthers.setCell W ⟨w.heap.size + 1, 0, none⟩ (.int .i64 S)).trans (KeepsOthers.setCell _ ⟨w.heap.size + 1 + 1, 0, none⟩ (.bool false))).trans (KeepsOthers.setCell _ ⟨w.heap.size + 1 + 1 + 1, 0, none⟩ (.int .i64 0))).same D _ hK rfl
        have hN2 := hN.kept (grownBy_putObj' _ D (.deferred none)) (fun r e => by cases e; exact ⟨Nat.le_trans hz7 hD, _, hK', rfl⟩) rfl
        refine ⟨by simp, .inl ⟨_, _, rfl, run_takeDeferred hK', ?_⟩⟩
        exact ⟨_, results_cells3 rfl ⟨w.heap.size + 1, 0, none⟩ ⟨w.heap.size + 1 + 1, 0, none⟩ ⟨w.heap.size + 1 + 1 + 1, 0, none⟩ _ _ _ rfl rfl rfl (load_int (rw1 (hN2.at 1 rfl)).1).1 (load_int (rw1 (hN2.at 2 rfl)).1).2.1 (load_int (rw1 (hN2.at 3 rfl)).1).2.2, by rw [HE.out, hW], hN2.m.b⟩
      case stop =>
        rintro D d pre W hD hSp ⟨rfl, ⟨k, hB⟩, hyes⟩ hK
        refine wpIn_ret ?_
        simp only [Exit.inBlock, Exit.then]
        obtain ⟨j, hj, hv⟩ := hSp
        rw [hv] at hyes
        have hyes' : (edgesR ps).any (onE p) = true := edgesU_any hj hyes
        rw [hyes', if_pos rfl] at HW
        have hN2 := hB.kept (grownBy_putObj' _ D (.deferred none)) (fun r e => by cases e; exact ⟨Nat.le_trans hz7 hD, _, hK, rfl⟩) rfl
        refine ⟨by simp, .inl ⟨_, _, rfl, run_takeDeferred hK, ?_⟩⟩
        exact ⟨_, results_cells3 rfl ⟨w.heap.size + 1, 0, none⟩ ⟨w.heap.size + 1 + 1, 0, none⟩ ⟨w.heap.size + 1 + 1 + 1, 0, none⟩ _ _ _ rfl rfl rfl (load_int (rw1 (hN2.at 1 rfl)).1).1 (load_int (rw1 (hN2.at 2 rfl)).1).2.1 (load_int (rw1 (hN2.at 3 rfl)).1).2.2, by rw [HE.out, HW.out], hN2.m.b⟩
  · rw [if_pos hE] at HE
    obtain ⟨x0, x1⟩ := rw1 (HM6.out.at 1 rfl)
    obtain ⟨y0, y1⟩ := rw1 (HM6.out.at 2 rfl)
    obtain ⟨z0, z1⟩ := rw1 (HM6.out.at 3 rfl)
    ((try dsimp only); repeat (first | go_values | go_skip | go_guarded | go_step | go_upon))
    have hN := ((HM6.out.puts 1 rfl (by decide) [(0, .int .i64 0)]).puts 2 rfl (by decide) [(0, .bool false)]).puts 3 rfl (by decide) [(0, .int .i64 E)]
    simp only [putsC, puts, pB, pC, pD, List.set_cons_zero, List.set_cons_succ] at hN
    refine postM_ret (results_cells3 rfl ⟨w.heap.size + 1, 0, none⟩ ⟨w.heap.size + 1 + 1, 0, none⟩ ⟨w.heap.size + 1 + 1 + 1, 0, none⟩ _ _ _ rfl rfl rfl (load_int (rw1 (hN.at 1 rfl)).1).1 (load_int (rw1 (hN.at 2 rfl)).1).2.1 (load_int (rw1 (hN.at 3 rfl)).1).2.2) rfl ⟨by rw [HE.out], hN.m.b⟩
end Go.Proofs.YtfpofmifmapmfaaGreatDoor

namespace Go.Proofs.YtfpofmifmapmfaaGreatDoor
open Go.RowKit Go.Proofs.YtfpofmifmapmfaaGreatDoorW.PrintLast
set_option linter.unusedVariables false
set_option linter.unusedSimpArgs false
def qK (e : Ed) : Nat → Rat | 0 => fval e.1.1 | 1 => fval e.1.2 | 2 => fval e.2.1 | _ => fval e.2.2
def RBox (w : World) (g : Nat) : Prop := ∃ y0 y1 y2, w.heap[g]? = some (.cells #[y0, y1, y2] 26 (0, 0))
def QV (B : Nat) (q : Rat) (v : Value) (w : World) : Prop := ∃ E F, v = qv E F q ∧ RatFresh B w E F q
def PV (B : Nat) (v : Value) (w : World) : Prop := ∃ g, v = .pointer (some ⟨g, 0, none⟩) ∧ B ≤ g ∧ RBox w g
theorem QV.keep {B : Nat} {q : Rat} {v : Value} {w w' : World} (h : QV B q v w) (k : Below w.heap.size w w') : QV B q v w' := by
  obtain ⟨E, F, e, f⟩ := h
  exact ⟨E, F, e, f.keep (Keep.of k (Nat.le_refl _)) (Nat.le_refl _)⟩
theorem PV.keep {B : Nat} {v : Value} {w w' : World} (h : PV B v w) (k : Below w.heap.size w w') : PV B v w' := by
  obtain ⟨g, e, f, y0, y1, y2, r⟩ := h
  exact ⟨g, e, f, y0, y1, y2, (k.block _ (heap_lt r)).trans r⟩
def setR (g : Nat) (x0 x1 x2 : Value) (w : World) : World := ((w.setCell ⟨g, 0, none⟩ x0).setCell ⟨g, 1, none⟩ x1).setCell ⟨g, 2, none⟩ x2
theorem setR_other {g k : Nat} {x0 x1 x2 : Value} {w : World} (h : k ≠ g) : (setR g x0 x1 x2 w).heap[k]? = w.heap[k]? := heap_three_other k h
theorem setR_size (g : Nat) (x0 x1 x2 : Value) (w : World) : (setR g x0 x1 x2 w).heap.size = w.heap.size := by unfold setR; rw [setCell_size, setCell_size, setCell_size]
theorem setR_at {g : Nat} {x0 x1 x2 : Value} {w : World} (h : RBox w g) : (setR g x0 x1 x2 w).heap[g]? = some (.cells #[x0, x1, x2] 26 (0, 0)) := by
  obtain ⟨y0, y1, y2, h⟩ := h
  exact heap_set_three h _ _ _
theorem setR_below {B g : Nat} {x0 x1 x2 : Value} {w0 w : World} (hB : B ≤ g) (h : Below B w0 w) : Below B w0 (setR g x0 x1 x2 w) := below_three hB h
theorem QV.set {B g : Nat} {q : Rat} {v x0 x1 x2 : Value} {w : World} (h : QV B q v w) (hb : RBox w g) : QV B q v (setR g x0 x1 x2 w) := by
  obtain ⟨E, F, e, f⟩ := h
  obtain ⟨y0, y1, y2, r⟩ := hb
  exact ⟨E, F, e, f.off r (by decide) (fun i hi => setR_other hi)⟩
theorem PV.set {B g : Nat} {v x0 x1 x2 : Value} {w : World} (h : PV B v w) (hb : RBox w g) : PV B v (setR g x0 x1 x2 w) := by
  obtain ⟨k, e, f, y0, y1, y2, r⟩ := h
  by_cases hk : k = g
  · subst hk; exact ⟨k, e, f, _, _, _, setR_at hb⟩
  · exact ⟨k, e, f, y0, y1, y2, (setR_other hk).trans r⟩
def V5 (s g1 g2 B : Nat) (e : Ed) : Nat → Value → World → Prop
  | 0, v, _ => v = .pointer (some ⟨s, 0, none⟩)
  | 1, v, _ => v = .pointer (some ⟨g1, 0, none⟩)
  | 2, v, _ => v = .int .u64 e.1.1
  | 3, v, w => QV B (qK e 0) v w
  | 4, v, _ => v = .pointer (some ⟨s, 0, none⟩)
  | 5, v, _ => v = .pointer (some ⟨g1, 1, none⟩)
  | 6, v, _ => v = .int .u64 e.1.2
  | 7, v, w => QV B (qK e 1) v w
  | 8, v, _ => v = .pointer (some ⟨s, 0, none⟩)
  | 9, v, _ => v = .pointer (some ⟨g2, 0, none⟩)
  | 10, v, _ => v = .int .u64 e.2.1
  | 11, v, w => QV B (qK e 2) v w
  | 12, v, _ => v = .pointer (some ⟨s, 0, none⟩)
  | 13, v, _ => v = .pointer (some ⟨g2, 1, none⟩)
  | 14, v, _ => v = .int .u64 e.2.2
  | 15, v, w => QV B (qK e 3) v w
  | 16, v, w | 17, v, w | 18, v, w | 19, v, w => PV B v w
  | _, _, _ => True
theorem V5.keep {s g1 g2 B : Nat} {e : Ed} {w w' : World} (k : Below w.heap.size w w') (j : Nat) (u : Value) (h : V5 s g1 g2 B e j u w) : V5 s g1 g2 B e j u w' := by
  unfold V5 at h ⊢
  split at h <;> first | exact h | exact QV.keep h k | exact PV.keep h k
theorem V5.set {s g1 g2 B g : Nat} {e : Ed} {x0 x1 x2 : Value} {w : World} (hb : RBox w g) (j : Nat) (u : Value) (h : V5 s g1 g2 B e j u w) : V5 s g1 g2 B e j u (setR g x0 x1 x2 w) := by
  unfold V5 at h ⊢
  split at h <;> first | exact h | exact QV.set h hb | exact PV.set h hb
structure J5 (e : Ed) (l : Array Bool) (a : Act) (w : World) : Prop where
  ap : ∀ k k', k < 4 → k' < 4 → k ≠ k' → l.getD (16 + k) false = true → l.getD (16 + k') false = true → a.tmps.getD (14 + k) undef ≠ a.tmps.getD (14 + k') undef
  st : ∀ k, k < 4 → l.getD (20 + k) false = true → (l.getD (16 + k) false = true ∧ l.getD (3 + 4 * k) false = true) ∧ ∃ g E F, a.tmps.getD (14 + k) undef = .pointer (some ⟨g, 0, none⟩) ∧ a.tmps.getD (29 + 4 * k) undef = qv E F (qK e k) ∧ w.heap[g]? = some (qo E F (qK e k))
section
variable {e : Ed} {l : Array Bool} {a : Act} {w w' : World}
theorem J5.start (a : Act) (w : World) : J5 e (Array.replicate 24 false) a w := by
  have h : ∀ i, (Array.replicate 24 false).getD i false = false := by
    intro i
    simp only [Array.getD_eq_getD_getElem?, Array.getElem?_replicate]
    split <;> rfl
  exact ⟨fun k k' _ _ _ h1 => (by rw [h] at h1; cases h1), fun k _ h1 => (by rw [h] at h1; cases h1)⟩
theorem J5.step (h : J5 e l a w) {i d : Nat} {v : Value} (hs : l.size = 24) (hi : i < 16) (hn : l.getD i true = false) (hd : 18 ≤ d) (hds : d < a.tmps.size) (hc : ∀ k, d = 29 + 4 * k → i = 3 + 4 * k) (hw : ∀ (g : Nat) (o : Obj), w.heap[g]? = some o → w'.heap[g]? = some o) : J5 e (l.setIfInBounds i true) (a.put (some d) v) w' := by
  have hn' : l.getD i false = false := by
    simp only [Array.getD_eq_getD_getElem?] at hn ⊢
    rw [Array.getElem?_eq_getElem (by omega)] at hn ⊢
    simpa using hn
  have e1 : ∀ j, (l.setIfInBounds i true).getD j false = (decide (j = i) || l.getD j false) := fun j => getD_setT l i j (by omega)
  have e2 : ∀ j, (a.put (some d) v).tmps.getD j undef = if j = d then v else a.tmps.getD j undef := fun j => getD_setIf a.tmps d j v hds
  refine ⟨fun k k' hk hk' hne h1 h2 => ?_, fun k hk h1 => ?_⟩
  · rw [e1, decide_eq_false (by omega), Bool.false_or] at h1 h2
    rw [e2, e2, if_neg (by omega), if_neg (by omega)]
    exact h.ap k k' hk hk' hne h1 h2
  · rw [e1, decide_eq_false (by omega), Bool.false_or] at h1
    obtain ⟨⟨l1, l2⟩, g, E, F, c1, c2, c3⟩ := h.st k hk h1
    have hne : 3 + 4 * k ≠ i := fun q => by rw [q, hn'] at l2; cases l2
    refine ⟨⟨by rw [e1, l1, Bool.or_true], by rw [e1, l2, Bool.or_true]⟩, g, E, F, ?_, ?_, hw _ _ c3⟩
    · rw [e2, if_neg (by omega)]; exact c1
    · rw [e2, if_neg (fun q => hne (hc k q.symm).symm)]; exact c2
theorem J5.alloc (h : J5 e l a w) {k0 : Nat} (hs : l.size = 24) (hk0 : k0 < 4) (hn : l.getD (16 + k0) true = false) (hds : 18 ≤ a.tmps.size) (o : Obj)
    (hp : ∀ k, k < 4 → l.getD (16 + k) false = true → PV 0 (a.tmps.getD (14 + k) undef) w) : J5 e (l.setIfInBounds (16 + k0) true) (a.put (some (14 + k0)) (.pointer (some ⟨w.heap.size, 0, none⟩))) (w.alloc o) := by
  have hn' : l.getD (16 + k0) false = false := by
    simp only [Array.getD_eq_getD_getElem?] at hn ⊢
    rw [Array.getElem?_eq_getElem (by omega)] at hn ⊢
    simpa using hn
  have e1 : ∀ j, (l.setIfInBounds (16 + k0) true).getD j false = (decide (j = 16 + k0) || l.getD j false) := fun j => getD_setT l (16 + k0) j (by omega)
  have e2 : ∀ j, (a.put (some (14 + k0)) (.pointer (some ⟨w.heap.size, 0, none⟩))).tmps.getD j undef = if j = 14 + k0 then .pointer (some ⟨w.heap.size, 0, none⟩) else a.tmps.getD j undef := fun j => getD_setIf a.tmps (14 + k0) j _ (by omega)
  have old : ∀ k, k < 4 → l.getD (16 + k) false = true → a.tmps.getD (14 + k) undef ≠ .pointer (some ⟨w.heap.size, 0, none⟩) := by
    intro k hk hl he
    obtain ⟨g, e, _, y0, y1, y2, r⟩ := hp k hk hl
    rw [he] at e
    injection e with e
    injection e with e
    injection e with e
    have := heap_lt r
    omega
  refine ⟨fun k k' hk hk' hne h1 h2 => ?_, fun k hk h1 => ?_⟩
  · rw [e1] at h1 h2
    rw [e2, e2]
    by_cases q : k = k0
    · subst q
      have h2' : l.getD (16 + k') false = true := by rwa [decide_eq_false (by omega), Bool.false_or] at h2
      rw [if_pos rfl, if_neg (by omega)]
      exact fun x => old k' hk' h2' x.symm
    · have h1' : l.getD (16 + k) false = true := by rwa [decide_eq_false (by omega), Bool.false_or] at h1
      rw [if_neg (by omega)]
      by_cases q' : k' = k0
      · subst q'
        rw [if_pos rfl]
        exact old k hk h1'
      · have h2' : l.getD (16 + k') false = true := by rwa [decide_eq_false (by omega), Bool.false_or] at h2
        rw [if_neg (by omega)]
        exact h.ap k k' hk hk' hne h1' h2'
  · rw [e1, decide_eq_false (by omega), Bool.false_or] at h1
    obtain ⟨⟨l1, l2⟩, g, E, F, c1, c2, c3⟩ := h.st k hk h1
    have hne : k ≠ k0 := fun q => by rw [q, hn'] at l1; cases l1
    refine ⟨⟨by rw [e1, l1, Bool.or_true], by rw [e1, l2, Bool.or_true]⟩, g, E, F, ?_, ?_, alloc_old c3⟩
    · rw [e2, if_neg (by omega)]; exact c1
    · rw [e2, if_neg (by omega)]; exact c2
theorem J5.store (h : J5 e l a w) {k0 g : Nat} {E F : Option Addr} (hs : l.size = 24) (hk0 : k0 < 4) (la : l.getD (16 + k0) false = true) (lc : l.getD (3 + 4 * k0) false = true) (hg : a.tmps.getD (14 + k0) undef = .pointer (some ⟨g, 0, none⟩)) (hb : RBox w g) (hv : a.tmps.getD (29 + 4 * k0) undef = qv E F (qK e k0)) (u : Value) :
    J5 e (l.setIfInBounds (20 + k0) true) (a.put none u) (setR g (.bool (decide ((qK e k0).num < 0))) (.slice E (qn (qK e k0)).length (qn (qK e k0)).length) (.slice F (qd (qK e k0)).length (qd (qK e k0)).length) w) := by
  have e1 : ∀ j, (l.setIfInBounds (20 + k0) true).getD j false = (decide (j = 20 + k0) || l.getD j false) := fun j => getD_setT l (20 + k0) j (by omega)
  have e2 : a.put none u = a := rfl
  rw [e2]
  refine ⟨fun k k' hk hk' hne h1 h2 => ?_, fun k hk h1 => ?_⟩
  · rw [e1, decide_eq_false (by omega), Bool.false_or] at h1 h2
    exact h.ap k k' hk hk' hne h1 h2
  · by_cases q : k = k0
    · subst q
      exact ⟨⟨by rw [e1, la, Bool.or_true], by rw [e1, lc, Bool.or_true]⟩, g, E, F, hg, hv, setR_at hb⟩
    · rw [e1, decide_eq_false (by omega), Bool.false_or] at h1
      obtain ⟨⟨l1, l2⟩, g', E', F', c1, c2, c3⟩ := h.st k hk h1
      refine ⟨⟨by rw [e1, l1, Bool.or_true], by rw [e1, l2, Bool.or_true]⟩, g', E', F', c1, c2, (setR_other ?_).trans c3⟩
      rintro rfl
      exact h.ap k k0 hk hk0 q l1 la (c1.trans hg.symm)
end
theorem apart4 {b0 b1 b2 b3 : Nat} {o0 o1 o2 o3 : Obj} (n01 : b0 ≠ b1) (n02 : b0 ≠ b2) (n03 : b0 ≠ b3) (n12 : b1 ≠ b2) (n13 : b1 ≠ b3) (n23 : b2 ≠ b3) (i j g : Nat) (o o' : Obj) (h : [(b0, o0), (b1, o1), (b2, o2), (b3, o3)][i]? = some (g, o)) (k : [(b0, o0), (b1, o1), (b2, o2), (b3, o3)][j]? = some (g, o')) : i = j := by
  match i, h, j, k with
  | 0, h, 0, k | 1, h, 1, k | 2, h, 2, k | 3, h, 3, k => rfl
  | 0, h, 1, k | 1, h, 0, k => cases h; cases k; exact absurd rfl n01
  | 0, h, 2, k | 2, h, 0, k => cases h; cases k; exact absurd rfl n02
  | 0, h, 3, k | 3, h, 0, k => cases h; cases k; exact absurd rfl n03
  | 1, h, 2, k | 2, h, 1, k => cases h; cases k; exact absurd rfl n12
  | 1, h, 3, k | 3, h, 1, k => cases h; cases k; exact absurd rfl n13
  | 2, h, 3, k | 3, h, 2, k => cases h; cases k; exact absurd rfl n23
theorem qK_sz {e : Ed} (h : FinE e) (k : Nat) : Sz 1075 (qK e k) := by
  unfold qK
  split
  · exact fval_sz h.1.1
  · exact fval_sz h.1.2
  · exact fval_sz h.2.1
  · exact fval_sz h.2.2
theorem Sz.zero (n : Nat) (hn : 0 < n := by omega) : Sz n 0 := by
  have := ipow_lt hn
  exact ⟨by show (0 : Int) < _; omega, by show (1 : Int) < _; simpa using this⟩
theorem vals_fin (l : List FE) : ∀ e ∈ vals l, FinE e := by
  intro e he
  obtain ⟨y, _, rfl⟩ := List.mem_map.1 he
  exact y.2
theorem below_via {n : Nat} {w W V : World} (h : Below n w W) (k : Below n w V) (hs : W.heap.size ≤ V.heap.size) : Below n W V :=
  ⟨k.os.trans h.os.symm, k.tape.trans h.tape.symm, k.output.trans h.output.symm, hs, fun i hi => (k.block i hi).trans (h.block i hi).symm⟩
theorem kpb_via {n Bs : Nat} {w W V : World} {L L' : List (Nat × Obj)} {R R' : List (Option Addr × Option Addr × Rat)} {o : Obj} (h : Bx n w W L R) (k : Bx n w V L' R') (hs : W.heap.size ≤ V.heap.size) (h8 : L[8]? = some (Bs, o)) (k8 : L'[8]? = some (Bs, o)) : KpB n Bs W V :=
  ⟨below_via h.m.b k.m.b hs, (k.m.l 8 _ _ k8).trans (h.m.l 8 _ _ h8).symm⟩
theorem pre_get {α : Type} {L L' : List α} (h : L <+: L') {i : Nat} {x : α} (e : L[i]? = some x) : L'[i]? = some x := by
  obtain ⟨t, rfl⟩ := h
  rw [List.getElem?_append_left (List.getElem?_eq_some_iff.1 e).1]; exact e
theorem mem3 {α : Type} {R : List α} {a b c : α} (i j k : Nat) (h1 : R[i]? = some a) (h2 : R[j]? = some b) (h3 : R[k]? = some c) : ∀ x, x ∈ [a, b, c] → x ∈ R := by
  intro x hx
  simp only [List.mem_cons, List.not_mem_nil, or_false] at hx
  rcases hx with rfl | rfl | rfl
  · exact List.mem_of_getElem? h1
  · exact List.mem_of_getElem? h2
  · exact List.mem_of_getElem? h3
end Go.Proofs.YtfpofmifmapmfaaGreatDoor
