/- The law RingRound of package plumblaw24 answers true at every round of points, every point, whichever side is asked for, and changes nothing that it was handed: the tied card, for every input, no condition. -/
import Derived.Test.YtfpofmifmapmfaaGreatDoorRK
import Derived.Test.YtfpofmifmapmfaaGreatDoorRD
import Derived.Test.YtfpofmifmapmfaaGreatDoorRA
import Derived.Test.YtfpofmifmapmfaaGreatDoorRows
import Derived.Test.YtfpofmifmapmfaaGreatDoorCards
import Derived.Test.YtfpofmifmapmfaaGreatDoorTie
import Derived.ProofKit
import Derived.LaidMore
import Derived.OpenShut
import Derived.Stop.Joined
import Derived.Below
import Derived.ChangeSame
import Derived.SevenTiedAt
import Derived.Deep.Slices
import Derived.SizedLaws
import Derived.Test.YtfpofmifmapmfaaGreatDoorRM
import Derived.Test.YtfpofmifmapmfaaGreatDoorNF
namespace Go.Proofs.YtfpofmifmapmfaaGreatDoor
open Go.RowKit Go.Proofs.YtfpofmifmapmfaaGreatDoorW.PrintLast
set_option linter.unusedVariables false
set_option linter.unusedSimpArgs false
theorem lSign24 (n : Int) (b : Bool) (w : World) (h : -1000000 ≤ n ∧ n ≤ 1000000) : Calls Tryz.prog 45 #[.int .i64 n, .bool b] w fun e w' => e = .returned (.int .i64 (if b = true then -n else n)) ∧ Below w.heap.size w w' := by
  go_enter Tryz.func45, Tryz.ntmps45
  cases b
  · ((try dsimp only); repeat (first | go_values | go_skip | go_guarded | go_step | go_upon))
    go_ret
    exact ⟨rfl, Below.refl _ _⟩
  · ((try dsimp only); repeat (first | go_values | go_skip | go_guarded | go_step | go_upon))
    go_ret
    exact ⟨rfl, Below.refl _ _⟩
theorem own_box {w w' : World} {v : Value} {N : Nat} {l : List Pt} (hown : w'.ownsRow w.heap.size 38 2 v N (ptC l)) (hl : l.length = N) (h0 : 0 < N) (hb : Below w.heap.size w w') :
    ∃ g c O, v = .slice (some ⟨g, 0, none⟩) N c ∧ N ≤ c ∧ Bx w.heap.size w w' [(g, O)] [] ∧ (∀ wz : World, wz.heap[g]? = some O → PtsIn wz (some ⟨g, 0, none⟩) l) := by
  obtain ⟨g, c, rfl, hg, hlt, hc⟩ := own_value hown h0
  have hp := own_pts hown hl
  obtain ⟨O, hO⟩ : ∃ O, w'.heap[g]? = some O := ⟨_, Array.getElem?_eq_getElem hlt⟩
  refine ⟨g, c, O, rfl, hc, ⟨⟨hb, hb.size, fun i g' o e => ?_, fun i A B q e => by simp at e⟩, fun i g' o e => ?_, fun i j g' o o' e1 e2 => ?_⟩, fun wz hz => ?_⟩
  · cases i with
    | zero => cases e; exact hO
    | succ i => simp at e
  · cases i with
    | zero => cases e; exact hg
    | succ i => simp at e
  · cases i with
    | zero =>
      cases j with
      | zero => rfl
      | succ j => simp at e2
    | succ i => simp at e1
  · rcases hp with h | ⟨b, o, e, h1, h2⟩
    · exact Or.inl h
    · cases e
      exact Or.inr ⟨_, _, rfl, heap_lt hz, fun i hi => ⟨(cell_of_heap (hz.trans hO.symm) _).trans (h2 i hi).1, (cell_of_heap (hz.trans hO.symm) _).trans (h2 i hi).2⟩⟩
theorem cClosedX (A : Option Addr) (c : Nat) (l : List Pt) (h0 : 0 < l.length) (hl : l.length ≤ 511) (w : World) (hp : PtsIn w A l) :
    Calls Tryz.prog 32 #[.slice A l.length c] w fun e w' => ∃ g c1 O, e = .returned (.slice (some ⟨g, 0, none⟩) (l.length + 1) c1) ∧ l.length + 1 ≤ c1 ∧ Bx w.heap.size w w' [(g, O)] [] ∧ (∀ wz : World, wz.heap[g]? = some O → PtsIn wz (some ⟨g, 0, none⟩) (closedL l)) := by
  refine (lClosed A c l w hp (by omega)).mono ?_
  rintro e w' ⟨v, rfl, hown, hb⟩
  have e := closedL_len h0
  rw [e] at hown
  obtain ⟨g, c1, O, rfl, h1, h2, h3⟩ := own_box hown e (by omega) hb
  exact ⟨g, c1, O, rfl, h1, h2, h3⟩
theorem cArea (A : Option Addr) (c : Nat) (m : List Pt) (h : 0 < m.length) (hl : m.length ≤ 511) (hf : finB m = true) (hu : ∀ q ∈ m, PtU q) (w : World) (hp : PtsIn w A (closedL m)) :
    Calls Tryz.prog 16 #[.slice A (m.length + 1) c] w fun e w' => ∃ E F, e = .returned (.tuple #[qv E F (sumE crs (pthE (closedL m))), .int .i64 0]) ∧ RatFresh w.heap.size w' E F (sumE crs (pthE (closedL m))) ∧ Below w.heap.size w w' := by
  have := gArea2 A c (closedL m) w hp (by rw [closedL_len h]; omega) (fun q hq => hu q (closedL_mem.1 hq))
  rw [closedL_len h] at this
  refine this.mono ?_
  rintro e w' ⟨⟨_, h2⟩, hb⟩
  obtain ⟨E, F, e1, e2⟩ := h2 (closed_chk0 h hl hf)
  rw [edgesR_pth] at e1 e2
  exact ⟨E, F, e1, e2, hb⟩
theorem qnd_neg (q : Rat) : qn (-q) = qn q ∧ qd (-q) = qd q := by
  unfold qn qd
  rw [Rat.neg_num, Int.natAbs_neg, Rat.neg_den]
  exact ⟨rfl, rfl⟩
theorem carea_sz (m : List Pt) (h : 0 < m.length) (hl : m.length ≤ 511) (hf : finB m = true) (hu : ∀ q ∈ m, PtU q) : Sz 4210 (sumE crs (pthE (closedL m))) := by
  have hu2 : ∀ q ∈ closedL m, PtU q := fun q hq => hu q (closedL_mem.1 hq)
  obtain ⟨k0, k1, k2, _, _⟩ := chk_ok hu2 no_more (closed_chk0 h hl hf)
  have := area_szE (edges_fin k2) (by rw [show (edgesR (closedL m)).length = (closedL m).length - 1 from edgesU_len _ _]; omega)
  rwa [edgesR_pth] at this
theorem wind_range {l : List Pt} (h0 : 0 < l.length) (hl : l.length ≤ 511) (p : Pt) : -1000000 ≤ (windV (closedL l) p).1 ∧ (windV (closedL l) p).1 ≤ 1000000 := by
  have hr := sumI_range p (closedL l) ((closedL l).length - 1)
  rw [show edgesU (closedL l) ((closedL l).length - 1) = edgesR (closedL l) from rfl, closedL_len h0] at hr
  unfold windV windR
  split
  · exact ⟨show (-1000000 : Int) ≤ 0 by decide, show (0 : Int) ≤ 1000000 by decide⟩
  · split
    · exact ⟨show (-1000000 : Int) ≤ 0 by decide, show (0 : Int) ≤ 1000000 by decide⟩
    · split
      · exact ⟨show (-1000000 : Int) ≤ 0 by decide, show (0 : Int) ≤ 1000000 by decide⟩
      · constructor
        · show -1000000 ≤ sumI (crossE p) (edgesR (closedL l)); omega
        · show sumI (crossE p) (edgesR (closedL l)) ≤ 1000000; omega
theorem side_guards (ps : List Pt) (p : Pt) : ((windV ps p).2.2 = 0 → (((sideV ps p).1 == 1) != ((windV ps p).1.tmod 2 != 0)) = false) ∧ ((windV ps p).2.2 = 0 → (((sideV ps p).1 == 0) != (windV ps p).2.1) = false) := by
  have h := wind_cases ps p
  unfold sideV
  constructor <;> intro h0
  · rw [if_neg (by omega)]
    split
    · rename_i hon
      have hz : (windV ps p).1 = 0 := by
        unfold windV at hon h0 ⊢
        split
        · rfl
        · rename_i hc
          rw [if_neg hc] at hon
          unfold windR at hon ⊢
          split
          · rfl
          · rename_i h1
            rw [if_neg h1] at hon
            split
            · rfl
            · rename_i h2
              rw [if_neg h2] at hon
              exact absurd hon (by simp)
      rw [hz]; rfl
    · split
      · rename_i h2
        have : ((windV ps p).1.tmod 2 != 0) = true := bne_iff_ne.2 h2
        rw [this]; rfl
      · rename_i h2
        have : ((windV ps p).1.tmod 2 != 0) = false := by rw [show (windV ps p).1.tmod 2 = 0 by omega]; rfl
        rw [this]; rfl
  · rw [if_neg (by omega)]
    split
    · rename_i hon
      rw [hon]; rfl
    · rename_i hon
      have : (windV ps p).2.1 = false := by simpa using hon
      rw [this]
      split <;> rfl
set_option maxRecDepth 100000 in
set_option maxHeartbeats 6400000 in
theorem lRoundYes (A : Option Addr) (c : Nat) (l : List Pt) (kk : Int) (back left : Bool) (p : Pt) (w : World) (hp : PtsIn w A l) (h0 : 0 < l.length) (hl : l.length ≤ 511) (hu : ∀ q ∈ l, PtU q) (hup : PtU p) (hf : finB l = true) (hst : Stays w) :
    Calls Tryz.prog 10 #[.agg #[.slice A l.length c, .int .i64 kk, .bool back], .agg #[.int .u64 p.1, .int .u64 p.2], .bool left] w fun e w' => e = .returned (.bool true) ∧ Below w.heap.size w w' := by
  obtain ⟨j0, hj, hjk⟩ : ∃ j0 : Nat, j0 < l.length ∧ wrap64 ((IntKind.u64.wrap kk).tmod (l.length : Int)) = (j0 : Int) := by
    have e1 : 0 ≤ IntKind.u64.wrap kk := by rw [IntKind.wrap_u64]; exact Int.emod_nonneg _ (by decide)
    have e2 := Int.emod_nonneg (IntKind.u64.wrap kk) (show (l.length : Int) ≠ 0 by omega)
    have e3 := Int.emod_lt_of_pos (IntKind.u64.wrap kk) (show 0 < (l.length : Int) by omega)
    refine ⟨((IntKind.u64.wrap kk) % (l.length : Int)).toNat, by omega, ?_⟩
    rw [Int.tmod_eq_emod_of_nonneg e1, Int.toNat_of_nonneg e2]
    generalize (IntKind.u64.wrap kk) % (l.length : Int) = x at *
    clear e1
    unfold wrap64
    omega
  have hlm := bgn_len l j0 back
  have hm0 : 0 < (bgnL l j0 back).length := by omega
  have hml : (bgnL l j0 back).length ≤ 511 := by omega
  have hmu : ∀ q ∈ bgnL l j0 back, PtU q := fun q hq => hu q (bgn_memI.1 hq)
  have hmf : finB (bgnL l j0 back) = true := by rw [finB_same (fun q => bgn_memI)]; exact hf
  have hcf : finB (closedL l) = true := by rw [finB_same (fun q => closedL_mem)]; exact hf
  have HAl := Lib.hid (fun wz => lAlive24 wz)
  have HP := Lib.hid hp
  have HSt := Lib.hid hst
  have HCl := Lib.hid (cClosedX A c l h0 hl)
  have HBg : Hid (∀ wz, PtsIn wz A l → Calls Tryz.prog 43 #[.slice A l.length c, .int .i64 kk, .bool back] wz fun e w' => ∃ A1 c1, e = .returned (.slice A1 l.length c1) ∧ PtsIn w' A1 (bgnL l j0 back) ∧ Below wz.heap.size wz w') := Lib.hid (fun wz hz => by
    refine (lBegun A c l kk j0 back wz hz (by omega) hj hjk).mono ?_
    rintro e w' ⟨v, rfl, hown, hb⟩
    obtain ⟨A1, c1, rfl⟩ := own_form hown
    exact ⟨A1, c1, rfl, own_pts hown (bgn_len _ _ _), hb⟩)
  have HCm := Lib.hid (fun A1 c1 => cClosedX A1 c1 (bgnL l j0 back) hm0 hml)
  have HAr := Lib.hid (fun A1 c1 => cArea A1 c1 l h0 hl hf hu)
  have HAm := Lib.hid (fun A1 c1 => cArea A1 c1 (bgnL l j0 back) hm0 hml hmf hmu)
  have hqb : sumE crs (pthE (closedL (bgnL l j0 back))) = if back = true then -sumE crs (pthE (closedL l)) else sumE crs (pthE (closedL l)) := bgn_sumE crs_rev l j0 back
  have za := carea_sz l h0 hl hf hu
  have zb := carea_sz _ hm0 hml hmf hmu
  have HTr := Lib.hid (fun A1 c1 => cTurn A1 c1 l h0 hl hf hu)
  have HTm := Lib.hid (fun A1 c1 => cTurn A1 c1 (bgnL l j0 back) hm0 hml hmf hmu)
  have hta : turnP l = qsgn (sumE crs (pthE (closedL l))) := rfl
  have htb : turnP (bgnL l j0 back) = qsgn (sumE crs (pthE (closedL (bgnL l j0 back)))) := rfl
  have htt : turnP l = if back = true then -turnP (bgnL l j0 back) else turnP (bgnL l j0 back) := by rw [turn_bgn]; cases back <;> simp
  have hlr := closedL_len h0
  have hlmm := closedL_len hm0
  have hur : ∀ q ∈ closedL l, PtU q := fun q hq => hu q (closedL_mem.1 hq)
  have hurm : ∀ q ∈ closedL (bgnL l j0 back), PtU q := fun q hq => hmu q (closedL_mem.1 hq)
  have HWr := Lib.hid (fun A1 c1 wz hz => gWinding A1 c1 (closedL l) p wz hz (by rw [hlr]; omega) hur hup)
  have HWm := Lib.hid (fun A1 c1 wz hz => gWinding A1 c1 (closedL (bgnL l j0 back)) p wz hz (by rw [hlmm]; omega) hurm hup)
  have HDr := Lib.hid (fun A1 c1 wz hz => gSide A1 c1 (closedL l) p wz hz (by rw [hlr]; omega) hur hup)
  have HDm := Lib.hid (fun A1 c1 wz hz => gSide A1 c1 (closedL (bgnL l j0 back)) p wz hz (by rw [hlmm]; omega) hurm hup)
  have HCr := Lib.hid (fun A1 c1 wz hz hs => gCentreS A1 c1 (closedL l) wz hz (by rw [hlr]; omega) hur (closed_chk0 h0 hl hf) hs)
  have HCn := Lib.hid (fun A1 c1 wz hz hs => gCentreS A1 c1 (closedL (bgnL l j0 back)) wz hz (by rw [hlmm]; omega) hurm (closed_chk0 hm0 hml hmf) hs)
  rw [cent_bgn j0 back h0 hcf] at HCn
  have hwn := wind_bgn j0 back p h0 hl
  have hsn := side_bgn j0 back p h0 hl
  rw [hsn] at HDm
  have hsg := side_guards (closedL l) p
  have hse : (sideV (closedL l) p).2 = (windV (closedL l) p).2.2 := by
    unfold sideV
    split
    · rfl
    · rename_i h; have : (windV (closedL l) p).2.2 = 0 := by omega
      rw [this]; split
      · rfl
      · split <;> rfl
  have hr1 := wind_range h0 hl p
  have hr2 : -1000000 ≤ (windV (closedL (bgnL l j0 back)) p).1 ∧ (windV (closedL (bgnL l j0 back)) p).1 ≤ 1000000 := wind_range hm0 hml p
  have hn : (windV (closedL l) p).1 = if back = true then -(windV (closedL (bgnL l j0 back)) p).1 else (windV (closedL (bgnL l j0 back)) p).1 := by rw [hwn]; cases back <;> simp
  have ho2 : (windV (closedL (bgnL l j0 back)) p).2 = (windV (closedL l) p).2 := by rw [hwn]
  rw [ho2] at HWm
  rw [hlr] at HWr HDr HCr
  rw [hlmm, hlm] at HWm HDm HCn
  rw [hse] at HDr HDm
  have hSt1 := fun A1 c1 hc => cStart A1 c1 l left h0 hl hc hf hu
  have HS1 := Lib.hid hSt1
  have hSt2 := fun A1 c1 hc => cStart A1 c1 (bgnL l j0 back) left hm0 hml hc hmf hmu
  rw [hlm] at hSt2
  have HS2 := Lib.hid hSt2
  have hss : ∀ y, StartOf (bgnL l j0 back) left (turnP (bgnL l j0 back)) y ↔ StartOf l left (turnP l) y := fun y => start_same (Nat.le_of_lt hj) y
  have HSS := Lib.hid hss
  have HU := Lib.hid (And.intro hu (And.intro hf (And.intro h0 hl)))
  have HGd := Lib.hid hsg
  rw [hlm] at HCm HAm HTm
  have hc2 := turn_cases (bgnL l j0 back)
  have HSa : Hid (∀ A1 B1 (wz : World), RatIn 0 wz.heap.size wz A1 B1 (sumE crs (pthE (closedL l))) → Calls Tryz.prog 44 #[qv A1 B1 (sumE crs (pthE (closedL l)))] wz fun e w' => e = .returned (.int .i64 (turnP l)) ∧ Below wz.heap.size wz w') :=
    Lib.hid (fun A1 B1 wz h => rSignQ A1 B1 0 wz.heap.size _ wz h (Nat.le_refl _) (za.lens (by omega)).1)
  have HSb : Hid (∀ A1 B1 (wz : World), RatIn 0 wz.heap.size wz A1 B1 (sumE crs (pthE (closedL (bgnL l j0 back)))) → Calls Tryz.prog 44 #[qv A1 B1 (sumE crs (pthE (closedL (bgnL l j0 back))))] wz fun e w' => e = .returned (.int .i64 (turnP (bgnL l j0 back))) ∧ Below wz.heap.size wz w') :=
    Lib.hid (fun A1 B1 wz h => rSignQ A1 B1 0 wz.heap.size _ wz h (Nat.le_refl _) (zb.lens (by omega)).1)
  have hqn : qn (sumE crs (pthE (closedL (bgnL l j0 back)))) = qn (sumE crs (pthE (closedL l))) ∧ qd (sumE crs (pthE (closedL (bgnL l j0 back)))) = qd (sumE crs (pthE (closedL l))) := by
    rw [hqb]; cases back
    · exact ⟨rfl, rfl⟩
    · exact qnd_neg _
  have HSm : Hid (∀ A1 B1 A2 B2 (wz : World), RatIn 0 wz.heap.size wz A1 B1 (sumE crs (pthE (closedL l))) → RatIn 0 wz.heap.size wz A2 B2 (sumE crs (pthE (closedL (bgnL l j0 back)))) →
      Calls Tryz.prog 23 #[qv A1 B1 (sumE crs (pthE (closedL l))), .agg #[.bool (decide ((sumE crs (pthE (closedL l))).num < 0)), .slice A2 (qn (sumE crs (pthE (closedL (bgnL l j0 back))))).length (qn (sumE crs (pthE (closedL (bgnL l j0 back))))).length, .slice B2 (qd (sumE crs (pthE (closedL (bgnL l j0 back))))).length (qd (sumE crs (pthE (closedL (bgnL l j0 back))))).length]] wz fun e w' => e = .returned (.bool true) ∧ Below wz.heap.size wz w') :=
    Lib.hid (fun A1 B1 A2 B2 wz h1 h2 => by
      rw [hqn.1, hqn.2]
      exact lSameRat A1 B1 A2 B2 0 wz.heap.size 0 wz.heap.size _ wz h1 ⟨hqn.1 ▸ h2.n, hqn.2 ▸ h2.d⟩ (Nat.le_refl _) (Nat.le_refl _) (za.lens (by omega)))
  have HSi := Lib.hid (fun n wz hn => lSign24 n back wz hn)
  have hc3 : -1000000 ≤ turnP (bgnL l j0 back) ∧ turnP (bgnL l j0 back) ≤ 1000000 := by omega
  have HT := Lib.hid (And.intro (And.intro hc3 hr2) (And.intro htt hn))
  have l0 : ((l.length : Int) == 0) = false := beq_eq_false_iff_ne.2 (by omega)
  have l1 : ¬ (511 : Int) < (l.length : Int) := by omega
  have l2 : ¬ 511 < l.length := by omega
  clear hp hu hf hst hup hjk hlm hm0 hml hmu hmf hcf hqb za zb hta htb htt hlr hlmm hur hurm hwn hsn hsg hse hr1 hr2 hn ho2 hSt1 hSt2 hss hc2 hc3 hqn
  generalize sumE crs (pthE (closedL l)) = qa at *
  generalize sumE crs (pthE (closedL (bgnL l j0 back))) = qb at *
  generalize (windV (closedL (bgnL l j0 back)) p).1 = n2 at *
  generalize windV (closedL l) p = wv1 at *
  obtain ⟨n1, on, er⟩ := wv1
  generalize (sideV (closedL l) p).1 = sd at *
  generalize centV (closedL l) = cv at *
  obtain ⟨⟨ex, ey⟩, ec⟩ := cv
  have HG := Lib.hid HGd.out
  clear HGd
  dsimp only at HWr HWm HDr HDm HCr HCn HG HT
  unfold qv at HSa HSb HSm
  have hmm : Bx w.heap.size w ((w.alloc (.cells #[.slice A l.length c, .int .i64 kk, .bool back] 80)).alloc (.cells #[.int .u64 p.1, .int .u64 p.2] 38)) _ _ := ((Bx.start w).alloc (.cells #[.slice A l.length c, .int .i64 kk, .bool back] 80 (0, 0))).alloc (.cells #[.int .u64 p.1, .int .u64 p.2] 38 (0, 0))
  go_enter Tryz.func10, Tryz.ntmps10
  go_upto_region 1 with (fail)
  generalize (World.alloc (World.alloc w _) _) = v at *
  (try simp only [List.nil_append, List.cons_append, World.size_alloc, List.set_cons_zero, List.set_cons_succ, putsC, pB, pC, pD] at hmm)
  have HM := Lib.hid hmm
  clear hmm
  have HK := Lib.hid (HAl.out v)
  ((try dsimp only); repeat (first | go_values | go_skip | go_guarded | go_step | go_upon))
  refine HK.out.mono ?_
  rintro e w20 ⟨rfl, hb⟩
  have hm := (HM.out.keep hb)
  clear HK HM hb 
  (try simp only [List.nil_append, List.cons_append, World.size_alloc, List.set_cons_zero, List.set_cons_succ, putsC, pB, pC, pD] at hm)
  have HM := Lib.hid hm
  clear hm
  obtain ⟨c0_0, c0_1, c0_2, c0_3, c0_4, c0_5⟩ := rw3 (HM.out.at 0 rfl)
  go_upto_region 3 with (fail)
  clear c0_0 c0_1 c0_2 c0_3 c0_4 c0_5
  obtain ⟨c0_0, c0_1, c0_2, c0_3, c0_4, c0_5⟩ := rw3 (HM.out.at 0 rfl)
  have HK := Lib.hid (HCl.out w20 (HP.out.keep HM.out.m.b))
  ((try dsimp only); repeat (first | go_values | go_skip | go_guarded | go_step | go_upon))
  refine HK.out.mono ?_
  rintro e w21 ⟨g21, c21, O21, rfl, hc, hx, hpt⟩
  have HL21 := Lib.hid (And.intro hc hpt)
  clear hc hpt
  have hm := (HM.out.join hx)
  clear HK HM hx c0_0 c0_1 c0_2 c0_3 c0_4 c0_5
  (try simp only [List.nil_append, List.cons_append, World.size_alloc, List.set_cons_zero, List.set_cons_succ, putsC, pB, pC, pD] at hm)
  have HM := Lib.hid hm
  clear hm
  go_upto_region 4 with (fail)
  obtain ⟨c0_0, c0_1, c0_2, c0_3, c0_4, c0_5⟩ := rw3 (HM.out.at 0 rfl)
  have HK := Lib.hid (HBg.out w21 (HP.out.keep HM.out.m.b))
  ((try dsimp only); repeat (first | go_values | go_skip | go_guarded | go_step | go_upon))
  refine HK.out.mono ?_
  rintro e w22 ⟨A22, c22, rfl, hp2, hb⟩
  have HPb := Lib.hid hp2
  clear hp2
  have hm := (HM.out.keep hb)
  clear HK HM hb c0_0 c0_1 c0_2 c0_3 c0_4 c0_5
  (try simp only [List.nil_append, List.cons_append, World.size_alloc, List.set_cons_zero, List.set_cons_succ, putsC, pB, pC, pD] at hm)
  have HM := Lib.hid hm
  clear hm
  have HK := Lib.hid (HCm.out _ c22 w22 HPb.out)
  ((try dsimp only); repeat (first | go_values | go_skip | go_guarded | go_step | go_upon))
  refine HK.out.mono ?_
  rintro e w23 ⟨g23, c23, O23, rfl, hc, hx, hpt⟩
  have HL23 := Lib.hid (And.intro hc hpt)
  clear hc hpt
  have hm := (HM.out.join hx)
  clear HK HM hx 
  (try simp only [List.nil_append, List.cons_append, World.size_alloc, List.set_cons_zero, List.set_cons_succ, putsC, pB, pC, pD] at hm)
  have HM := Lib.hid hm
  clear hm
  go_upto_region 5 with (fail)
  have HK := Lib.hid (HAr.out _ c21 w23 (HL21.out.2 _ (HM.out.at 2 rfl)))
  ((try dsimp only); repeat (first | go_values | go_skip | go_guarded | go_step | go_upon))
  refine HK.out.mono ?_
  rintro e w24 ⟨P24, Q24, rfl, hf, hb⟩
  unfold qv
  have hm : Bx w.heap.size w (World.alloc w24 (.cells #[.bool (decide (qa.num < 0)), .slice P24 (qn qa).length (qn qa).length, .slice Q24 (qd qa).length (qd qa).length] 26)) _ _ := ((HM.out.call hf hb).alloc (.cells #[.bool (decide (qa.num < 0)), .slice P24 (qn qa).length (qn qa).length, .slice Q24 (qd qa).length (qd qa).length] 26 (0, 0)))
  clear HK HM hf hb 
  go_upto_region 6 with (fail)
  generalize (World.alloc w24 _) = v25 at *
  (try simp only [List.nil_append, List.cons_append, World.size_alloc, List.set_cons_zero, List.set_cons_succ, putsC, pB, pC, pD] at hm)
  have HM := Lib.hid hm
  clear hm
  have HK := Lib.hid (HAm.out _ c23 v25 (HL23.out.2 _ (HM.out.at 3 rfl)))
  ((try dsimp only); repeat (first | go_values | go_skip | go_guarded | go_step | go_upon))
  refine HK.out.mono ?_
  rintro e w26 ⟨P26, Q26, rfl, hf, hb⟩
  unfold qv
  have hm : Bx w.heap.size w (World.alloc w26 (.cells #[.bool (decide (qb.num < 0)), .slice P26 (qn qb).length (qn qb).length, .slice Q26 (qd qb).length (qd qb).length] 26)) _ _ := ((HM.out.call hf hb).alloc (.cells #[.bool (decide (qb.num < 0)), .slice P26 (qn qb).length (qn qb).length, .slice Q26 (qd qb).length (qd qb).length] 26 (0, 0)))
  clear HK HM hf hb 
  go_upto_region 9 with (fail)
  generalize (World.alloc w26 _) = v27 at *
  (try simp only [List.nil_append, List.cons_append, World.size_alloc, List.set_cons_zero, List.set_cons_succ, putsC, pB, pC, pD] at hm)
  have HM := Lib.hid hm
  clear hm
  refine start_ (n := 8) (S := fun w' => w'.heap[w.heap.size]? = v27.heap[w.heap.size]? ∧ w'.heap[w24.heap.size]? = v27.heap[w24.heap.size]? ∧ w'.heap[w26.heap.size]? = v27.heap[w26.heap.size]?) (ds := []) (bt 8 0) (by kernel_rfl) rfl rfl ((And.intro rfl (And.intro rfl rfl))) (fun hHeld => ?_)
  refine ld_ 0 93 ?_ hHeld ?_ ?_; rotate_left
  · rintro w' hs
    obtain ⟨q0, q1, q2, q3, q4, q5⟩ := rw3 ((hs.2.1).trans (HM.out.at 4 rfl))
    clear hs
    go_simp; with_reducible rfl
  refine ld_ 2 95 ?_ hHeld ?_ ?_; rotate_left
  · rintro w' hs
    obtain ⟨q0, q1, q2, q3, q4, q5⟩ := rw3 ((hs.2.2).trans (HM.out.at 5 rfl))
    clear hs
    go_simp; with_reducible rfl
  refine pv_ 4 97 ?_
  refine ld_ 5 98 ?_ hHeld ?_ ?_; rotate_left
  · rintro w' hs
    obtain ⟨q0, q1, q2, q3, q4, q5⟩ := rw3 ((hs.1).trans (HM.out.at 0 rfl))
    clear hs
    go_simp; with_reducible rfl
  refine join_ (σ := Unit) 0 (bt 8 255) (fun s => [(94, .int .i64 (turnP l)), (96, .int .i64 (turnP (bgnL l j0 back))), (99, .int .i64 (if back = true then -(turnP (bgnL l j0 back)) else (turnP (bgnL l j0 back)))), (100, .bool ((turnP l) != (if back = true then -(turnP (bgnL l j0 back)) else (turnP (bgnL l j0 back)))))]) (fun s w' => Bx v27.heap.size v27 w' [] []) ?_ ?_
  rotate_left
  · intro J0
    refine join_ (σ := Unit) 1 (bt 8 127) (fun s => [(94, .int .i64 (turnP l)), (96, .int .i64 (turnP (bgnL l j0 back))), (99, .int .i64 (if back = true then -(turnP (bgnL l j0 back)) else (turnP (bgnL l j0 back))))]) (fun s w' => Bx v27.heap.size v27 w' [] []) ?_ ?_
    · rintro _ wj hF
      try dsimp only at hF ⊢
      refine nx ?_
      refine pv_ 7 100 ?_
      exact nj (J0 () _ hF)
    intro J1
    refine join_ (σ := Unit) 2 (bt 8 63) (fun s => [(94, .int .i64 (turnP l)), (96, .int .i64 (turnP (bgnL l j0 back)))]) (fun s w' => Bx v27.heap.size v27 w' [] []) ?_ ?_
    · rintro _ wj hF
      try dsimp only at hF ⊢
      refine nx ?_
      refine o1 6 99 (bt 8 127) ?_
      · intro K hK
        refine go_ Tryz.func45 #[.int .i64 (turnP (bgnL l j0 back)), .bool back] ?_
        refine (HSi.out (turnP (bgnL l j0 back)) wj HT.out.1.1).mono ?_
        rintro e w' ⟨rfl, hb⟩
        refine ⟨_, rfl, ?_⟩
        have hN := hF.keep hb
        refine hK.out _ _ (by exact (And.intro (hN.m.b.block _ (HM.out.lt 0 rfl)) (And.intro (hN.m.b.block _ (HM.out.lt 4 rfl)) (hN.m.b.block _ (HM.out.lt 5 rfl))))) (fun hHeld => ?_)
        exact nj (J1 () _ hN)
    intro J2
    refine join_ (σ := Unit) 3 (bt 8 55) (fun s => [(94, .int .i64 (turnP l))]) (fun s w' => Bx v27.heap.size v27 w' [] []) ?_ ?_
    · rintro _ wj hF
      try dsimp only at hF ⊢
      refine nx ?_
      refine o1 3 96 (bt 8 63) ?_
      · intro K hK
        refine go_ Tryz.func44 #[.agg #[.bool (decide (qb.num < 0)), .slice P26 (qn qb).length (qn qb).length, .slice Q26 (qd qb).length (qd qb).length]] ?_
        refine (HSb.out _ _ wj ((HM.out.keep hF.m.b).ins 1 rfl)).mono ?_
        rintro e w' ⟨rfl, hb⟩
        refine ⟨_, rfl, ?_⟩
        have hN := hF.keep hb
        refine hK.out _ _ (by exact (And.intro (hN.m.b.block _ (HM.out.lt 0 rfl)) (And.intro (hN.m.b.block _ (HM.out.lt 4 rfl)) (hN.m.b.block _ (HM.out.lt 5 rfl))))) (fun hHeld => ?_)
        exact nj (J2 () _ hN)
    intro J3
    refine join_ (σ := Unit) 4 (bt 8 53) (fun s => []) (fun s w' => Bx v27.heap.size v27 w' [] []) ?_ ?_
    · rintro _ wj hF
      try dsimp only at hF ⊢
      refine nx ?_
      refine o1 1 94 (bt 8 55) ?_
      · intro K hK
        refine go_ Tryz.func44 #[.agg #[.bool (decide (qa.num < 0)), .slice P24 (qn qa).length (qn qa).length, .slice Q24 (qd qa).length (qd qa).length]] ?_
        refine (HSa.out _ _ wj ((HM.out.keep hF.m.b).ins 0 rfl)).mono ?_
        rintro e w' ⟨rfl, hb⟩
        refine ⟨_, rfl, ?_⟩
        have hN := hF.keep hb
        refine hK.out _ _ (by exact (And.intro (hN.m.b.block _ (HM.out.lt 0 rfl)) (And.intro (hN.m.b.block _ (HM.out.lt 4 rfl)) (hN.m.b.block _ (HM.out.lt 5 rfl))))) (fun hHeld => ?_)
        exact nj (J3 () _ hN)
    intro J4
    exact nj (J4 () _ ((Bx.start _).drew))
  rintro _ wj hF
  try dsimp only at hF ⊢
  refine nx ?_
  have hG := HM.out.join hF
  (try simp only [List.nil_append, List.cons_append, World.size_alloc, List.set_cons_zero, List.set_cons_succ, putsC, pB, pC, pD] at hG)
  have hHeld := And.intro True.intro (And.intro (hF.m.b.block _ (HM.out.lt 0 rfl)) (And.intro (hF.m.b.block _ (HM.out.lt 4 rfl)) (hF.m.b.block _ (HM.out.lt 5 rfl))))
  clear HM hF
  refine done_ (by kernel_rfl) ?_
  (try simp only [List.nil_append, List.cons_append, World.size_alloc, List.set_cons_zero, List.set_cons_succ, putsC, pB, pC, pD] at hG)
  have HM := Lib.hid hG
  clear hG hHeld
  have hne : ((turnP l) != (if back = true then -(turnP (bgnL l j0 back)) else (turnP (bgnL l j0 back)))) = false := by rw [HT.out.2.1]; simp
  go_upto_region 11 with (fail)
  clear hne
  obtain ⟨c4_0, c4_1, c4_2, c4_3, c4_4, c4_5⟩ := rw3 (HM.out.at 4 rfl)
  obtain ⟨c5_0, c5_1, c5_2, c5_3, c5_4, c5_5⟩ := rw3 (HM.out.at 5 rfl)
  have hm : Bx w.heap.size w (World.setCell wj ⟨w26.heap.size, 0, none⟩ (.bool (decide (qa.num < 0)))) _ _ := (HM.out.puts 5 rfl (by decide) [(0, .bool (decide (qa.num < 0)))])
  go_upto_region 12 with (fail)
  generalize (World.setCell wj _ _) = v29 at *
  clear HM c4_0 c4_1 c4_2 c4_3 c4_4 c4_5 c5_0 c5_1 c5_2 c5_3 c5_4 c5_5
  (try simp only [List.nil_append, List.cons_append, World.size_alloc, List.set_cons_zero, List.set_cons_succ, putsC, pB, pC, pD] at hm)
  have HM := Lib.hid hm
  clear hm
  have HK := Lib.hid (HTr.out _ c21 v29 (HL21.out.2 _ (HM.out.at 2 rfl)))
  ((try dsimp only); repeat (first | go_values | go_skip | go_guarded | go_step | go_upon))
  refine HK.out.mono ?_
  rintro e w30 ⟨rfl, hb⟩
  have hm := (HM.out.keep hb)
  clear HK HM hb 
  (try simp only [List.nil_append, List.cons_append, World.size_alloc, List.set_cons_zero, List.set_cons_succ, putsC, pB, pC, pD] at hm)
  have HM := Lib.hid hm
  clear hm
  go_upto_region 13 with (fail)
  have HK := Lib.hid (HTm.out _ c23 w30 (HL23.out.2 _ (HM.out.at 3 rfl)))
  ((try dsimp only); repeat (first | go_values | go_skip | go_guarded | go_step | go_upon))
  refine HK.out.mono ?_
  rintro e w31 ⟨rfl, hb⟩
  have hm := (HM.out.keep hb)
  clear HK HM hb 
  (try simp only [List.nil_append, List.cons_append, World.size_alloc, List.set_cons_zero, List.set_cons_succ, putsC, pB, pC, pD] at hm)
  have HM := Lib.hid hm
  clear hm
  go_upto_region 14 with (fail)
  obtain ⟨c1_0, c1_1, c1_2, c1_3⟩ := rw2 (HM.out.at 1 rfl)
  have HK := Lib.hid (HWr.out _ c21 w31 (HL21.out.2 _ (HM.out.at 2 rfl)))
  ((try dsimp only); repeat (first | go_values | go_skip | go_guarded | go_step | go_upon))
  refine HK.out.mono ?_
  rintro e w32 ⟨rfl, hb⟩
  have hm := (HM.out.keep hb)
  clear HK HM hb c1_0 c1_1 c1_2 c1_3
  (try simp only [List.nil_append, List.cons_append, World.size_alloc, List.set_cons_zero, List.set_cons_succ, putsC, pB, pC, pD] at hm)
  have HM := Lib.hid hm
  clear hm
  go_upto_region 15 with (fail)
  obtain ⟨c1_0, c1_1, c1_2, c1_3⟩ := rw2 (HM.out.at 1 rfl)
  have HK := Lib.hid (HWm.out _ c23 w32 (HL23.out.2 _ (HM.out.at 3 rfl)))
  ((try dsimp only); repeat (first | go_values | go_skip | go_guarded | go_step | go_upon))
  refine HK.out.mono ?_
  rintro e w33 ⟨rfl, hb⟩
  have hm := (HM.out.keep hb)
  clear HK HM hb c1_0 c1_1 c1_2 c1_3
  (try simp only [List.nil_append, List.cons_append, World.size_alloc, List.set_cons_zero, List.set_cons_succ, putsC, pB, pC, pD] at hm)
  have HM := Lib.hid hm
  clear hm
  go_upto_region 16 with (fail)
  obtain ⟨c1_0, c1_1, c1_2, c1_3⟩ := rw2 (HM.out.at 1 rfl)
  have HK := Lib.hid (HDr.out _ c21 w33 (HL21.out.2 _ (HM.out.at 2 rfl)))
  ((try dsimp only); repeat (first | go_values | go_skip | go_guarded | go_step | go_upon))
  refine HK.out.mono ?_
  rintro e w34 ⟨rfl, hb⟩
  have hm := (HM.out.keep hb)
  clear HK HM hb c1_0 c1_1 c1_2 c1_3
  (try simp only [List.nil_append, List.cons_append, World.size_alloc, List.set_cons_zero, List.set_cons_succ, putsC, pB, pC, pD] at hm)
  have HM := Lib.hid hm
  clear hm
  go_upto_region 17 with (fail)
  obtain ⟨c1_0, c1_1, c1_2, c1_3⟩ := rw2 (HM.out.at 1 rfl)
  have HK := Lib.hid (HDm.out _ c23 w34 (HL23.out.2 _ (HM.out.at 3 rfl)))
  ((try dsimp only); repeat (first | go_values | go_skip | go_guarded | go_step | go_upon))
  refine HK.out.mono ?_
  rintro e w35 ⟨rfl, hb⟩
  have hm := (HM.out.keep hb)
  clear HK HM hb c1_0 c1_1 c1_2 c1_3
  (try simp only [List.nil_append, List.cons_append, World.size_alloc, List.set_cons_zero, List.set_cons_succ, putsC, pB, pC, pD] at hm)
  have HM := Lib.hid hm
  clear hm
  go_upto_region 18 with (fail)
  have hne1 : ((turnP l) != (if back = true then -(turnP (bgnL l j0 back)) else (turnP (bgnL l j0 back)))) = false := by rw [HT.out.2.1]; simp
  have hne2 : (n1 != (if back = true then -n2 else n2)) = false := by rw [HT.out.2.2]; simp
  obtain ⟨c4_0, c4_1, c4_2, c4_3, c4_4, c4_5⟩ := rw3 (HM.out.at 4 rfl)
  obtain ⟨c5_0, c5_1, c5_2, c5_3, c5_4, c5_5⟩ := rw3 (HM.out.at 5 rfl)
  have HK := Lib.hid (HSm.out _ _ _ _ w35 (HM.out.ins 0 rfl) (HM.out.ins 1 rfl))
  ((try dsimp only); repeat (first | go_values | go_skip | go_guarded | go_step | go_upon))
  refine HK.out.mono ?_
  rintro e w36 ⟨rfl, hb⟩
  have hm := (HM.out.keep hb)
  clear HK HM hb c4_0 c4_1 c4_2 c4_3 c4_4 c4_5 c5_0 c5_1 c5_2 c5_3 c5_4 c5_5
  (try simp only [List.nil_append, List.cons_append, World.size_alloc, List.set_cons_zero, List.set_cons_succ, putsC, pB, pC, pD] at hm)
  have HM := Lib.hid hm
  clear hm
  obtain ⟨c4_0, c4_1, c4_2, c4_3, c4_4, c4_5⟩ := rw3 (HM.out.at 4 rfl)
  have HK := Lib.hid (HSa.out _ _ w36 (HM.out.ins 0 rfl))
  ((try dsimp only); repeat (first | go_values | go_skip | go_guarded | go_step | go_upon))
  refine HK.out.mono ?_
  rintro e w37 ⟨rfl, hb⟩
  have hm := (HM.out.keep hb)
  clear HK HM hb c4_0 c4_1 c4_2 c4_3 c4_4 c4_5
  (try simp only [List.nil_append, List.cons_append, World.size_alloc, List.set_cons_zero, List.set_cons_succ, putsC, pB, pC, pD] at hm)
  have HM := Lib.hid hm
  clear hm
  obtain ⟨c0_0, c0_1, c0_2, c0_3, c0_4, c0_5⟩ := rw3 (HM.out.at 0 rfl)
  have HK := Lib.hid (HSi.out (turnP (bgnL l j0 back)) w37 HT.out.1.1)
  ((try dsimp only); repeat (first | go_values | go_skip | go_guarded | go_step | go_upon))
  refine HK.out.mono ?_
  rintro e w38 ⟨rfl, hb⟩
  have hm := (HM.out.keep hb)
  clear HK HM hb c0_0 c0_1 c0_2 c0_3 c0_4 c0_5
  (try simp only [List.nil_append, List.cons_append, World.size_alloc, List.set_cons_zero, List.set_cons_succ, putsC, pB, pC, pD] at hm)
  have HM := Lib.hid hm
  clear hm
  obtain ⟨c0_0, c0_1, c0_2, c0_3, c0_4, c0_5⟩ := rw3 (HM.out.at 0 rfl)
  have HK := Lib.hid (HSi.out n2 w38 HT.out.1.2)
  ((try dsimp only); repeat (first | go_values | go_skip | go_guarded | go_step | go_upon))
  refine HK.out.mono ?_
  rintro e w39 ⟨rfl, hb⟩
  have hm := (HM.out.keep hb)
  clear HK HM hb c0_0 c0_1 c0_2 c0_3 c0_4 c0_5
  (try simp only [List.nil_append, List.cons_append, World.size_alloc, List.set_cons_zero, List.set_cons_succ, putsC, pB, pC, pD] at hm)
  have HM := Lib.hid hm
  clear hm
  go_upto_region 20 with (fail)
  clear hne1 hne2
  go_cut [210] (fun b wx => b = .bool false ∧ wx = w39)
  case first =>
    obtain ⟨h1, h2⟩ := HG.out
    by_cases h0 : er = 0
    · have hb0 : (er == 0) = true := beq_iff_eq.2 h0
      have h3 : ((sd == 1) == (n1.tmod 2 != 0)) = true := by have := h1 h0; revert this; cases (sd == 1) <;> cases (n1.tmod 2 != 0) <;> decide
      have h4 : ((sd == 0) == on) = true := by have := h2 h0; revert this; cases (sd == 0) <;> cases on <;> decide
      clear h0 h1 h2
      ((try dsimp only); repeat (first | go_values | go_skip | go_guarded | go_step | go_upon))
      go_meet
      exact ⟨rfl, rfl⟩
    · have hb0 : (er == 0) = false := beq_eq_false_iff_ne.2 h0
      clear h0 h1 h2
      ((try dsimp only); repeat (first | go_values | go_skip | go_guarded | go_step | go_upon))
      go_meet
      exact ⟨rfl, rfl⟩
  case rest =>
  obtain ⟨rfl, rfl⟩ := hcut
  go_upto_region 22 with (fail)
  have HK := Lib.hid (HCr.out _ c21 wc (HL21.out.2 _ (HM.out.at 2 rfl)) (HSt.out.keep HM.out.m.b))
  ((try dsimp only); repeat (first | go_values | go_skip | go_guarded | go_step | go_upon))
  refine HK.out.mono ?_
  rintro e w40 ⟨rfl, hb⟩
  have hm : Bx w.heap.size w (World.alloc w40 (.cells #[.int .u64 ex, .int .u64 ey] 38)) _ _ := ((HM.out.keep hb).alloc (.cells #[.int .u64 ex, .int .u64 ey] 38 (0, 0)))
  clear HK HM hb 
  go_upto_region 23 with (fail)
  generalize (World.alloc w40 _) = v41 at *
  (try simp only [List.nil_append, List.cons_append, World.size_alloc, List.set_cons_zero, List.set_cons_succ, putsC, pB, pC, pD] at hm)
  have HM := Lib.hid hm
  clear hm
  have HK := Lib.hid (HCn.out _ c23 v41 (HL23.out.2 _ (HM.out.at 3 rfl)) (HSt.out.keep HM.out.m.b))
  ((try dsimp only); repeat (first | go_values | go_skip | go_guarded | go_step | go_upon))
  refine HK.out.mono ?_
  rintro e w42 ⟨rfl, hb⟩
  have hm : Bx w.heap.size w (World.alloc w42 (.cells #[.int .u64 ex, .int .u64 ey] 38)) _ _ := ((HM.out.keep hb).alloc (.cells #[.int .u64 ex, .int .u64 ey] 38 (0, 0)))
  clear HK HM hb 
  go_upto_region 24 with (fail)
  generalize (World.alloc w42 _) = v43 at *
  (try simp only [List.nil_append, List.cons_append, World.size_alloc, List.set_cons_zero, List.set_cons_succ, putsC, pB, pC, pD] at hm)
  have HM := Lib.hid hm
  clear hm
  clear HAl HP HCl HBg HCm HAr HAm HTr HTm HWr HWm HDr HDm HCr HCn HSa HSb HSm HSi HT HG HSt
  have HR1 := Lib.hid (HL21.out.2 _ (HM.out.at 2 rfl))
  ((try dsimp only); repeat (first | go_values | go_skip | go_guarded | go_step | go_upon))
  refine (HS1.out _ _ HL21.out.1 _ HR1.out).mono ?_
  rintro e y1 ⟨g5, c5, m1, rfl, hml1, hc5, hL1, hp5, hb5⟩
  have H5 := Lib.hid (And.intro hml1 (And.intro hc5 (And.intro hL1 hp5)))
  have hm := HM.out.keep hb5
  clear hml1 hc5 hL1 hp5 hb5 HM HR1 HS1
  have HM := Lib.hid hm
  clear hm
  have HR1 := Lib.hid (HL23.out.2 _ (HM.out.at 3 rfl))
  ((try dsimp only); repeat (first | go_values | go_skip | go_guarded | go_step | go_upon))
  refine (HS2.out _ _ HL23.out.1 _ HR1.out).mono ?_
  rintro e y2 ⟨g6, c6, m2, rfl, hml2, hc6, hL2, hp6, hb6⟩
  have hp5 := H5.out.2.2.2.keep hb6
  have H6 := Lib.hid (And.intro hml2 (And.intro hL2 (And.intro hp5 hp6)))
  have hm := HM.out.keep hb6
  clear hml2 hc6 hL2 hp6 hb6 hp5 HM HR1 HS2
  have HM := Lib.hid hm
  clear hm
  have hm1u : ∀ q ∈ m1, PtU q := fun q hq => HU.out.1 q ((start_mem H5.out.2.2.1.1 q).1 hq)
  have hm1f : finB m1 = true := by rw [finB_same (fun q => start_mem H5.out.2.2.1.1 q)]; exact HU.out.2.1
  have hm1l : m1.length = l.length := H5.out.1
  have HS3 := Lib.hid (cStart (some ⟨g5, 0, none⟩) c5 m1 left (by omega) (by omega) (by rw [hm1l]; exact H5.out.2.1) hm1f hm1u y2 H6.out.2.2.1)
  rw [hm1l] at HS3
  ((try dsimp only); repeat (first | go_values | go_skip | go_guarded | go_step | go_upon))
  refine HS3.out.mono ?_
  rintro e y3 ⟨g7, c7, m3, rfl, hml3, hc7, hL3, hp7, hb7⟩
  have hp5 := H6.out.2.2.1.keep hb7
  have hp6 := H6.out.2.2.2.keep hb7
  have hm := HM.out.keep hb7
  have hLu : ∀ x, StartOf l left (turnP l) x → ∀ q ∈ x, PtU q := fun x hx q hq => HU.out.1 q ((start_mem hx q).1 hq)
  have e2 : m2 = m1 := (H6.out.2.1.congr HSS.out).unique H5.out.2.2.1 hLu
  have e3 : m3 = m1 := (hL3.congr (fun y => start_again H5.out.2.2.1.1 y)).unique H5.out.2.2.1 hLu
  subst e2 e3
  have hcl := closedL_len (l := m3) (by omega)
  have hcu : ∀ q ∈ closedL m3, PtU q := fun q hq => hm1u q (closedL_mem.1 hq)
  have HE1 := Lib.hid (fun wz (hz : Below y3.heap.size y3 wz) => lEq24 _ _ c5 c6 _ _ wz (hp5.keep hz) (hp6.keep hz) (by omega) (by omega) hcu hcu)
  have HE2 := Lib.hid (fun wz (hz : Below y3.heap.size y3 wz) => lEq24 _ _ c7 c5 _ _ wz (hp7.keep hz) (hp5.keep hz) (by omega) (by omega) hcu hcu)
  rw [hcl, hm1l] at HE1 HE2
  have hd : decide (closedL m3 = closedL m3) = true := decide_eq_true rfl
  rw [hd] at HE1 HE2
  have HB := Lib.hid hm.m.b
  obtain ⟨c0, c1, f0, f1⟩ := rw2 (hm.at 6 rfl)
  obtain ⟨d0, d1, f2, f3⟩ := rw2 (hm.at 7 rfl)
  clear hp5 hp6 hp7 hm hLu hL3 hb7 hml3 hc7 H5 H6 HM HS3 hcl hcu hd hm1u hm1f hm1l HU HSS
  ((try dsimp only); repeat (first | go_values | go_skip | go_guarded | go_step | go_upon))
  refine (HE1.out _ (Below.refl _ _)).mono ?_
  rintro e y4 ⟨rfl, hb8⟩
  have HB8 := Lib.hid hb8
  clear hb8 HE1
  ((try dsimp only); repeat (first | go_values | go_skip | go_guarded | go_step | go_upon))
  refine (HE2.out _ HB8.out).mono ?_
  rintro e y5 ⟨rfl, hb9⟩
  have HB9 := Lib.hid ((HB.out.trans (HB8.out.mono HB.out.size)).trans (hb9.mono (Nat.le_trans HB.out.size HB8.out.size)))
  clear hb9 HE2 HB8 HB
  ((try dsimp only); repeat (first | go_values | go_skip | go_guarded | go_step | go_upon))
  go_ret
  exact ⟨rfl, HB9.out⟩
end Go.Proofs.YtfpofmifmapmfaaGreatDoor

namespace Go.Proofs.YtfpofmifmapmfaaGreatDoor
open Go.RowKit Go.Proofs.YtfpofmifmapmfaaGreatDoorW.PrintLast
set_option linter.unusedVariables false
set_option linter.unusedSimpArgs false
set_option maxRecDepth 100000 in
set_option maxHeartbeats 3200000 in
theorem lRoundNo (A : Option Addr) (c : Nat) (l : List Pt) (kk : Int) (back left : Bool) (p : Pt) (w : World) (hl : l.length ≤ 9223372036854775807) (hn : l.length = 0 ∨ 511 < l.length) :
    Calls Tryz.prog 10 #[.agg #[.slice A l.length c, .int .i64 kk, .bool back], .agg #[.int .u64 p.1, .int .u64 p.2], .bool left] w fun e w' => e = .returned (.bool true) ∧ Below w.heap.size w w' := by
  have HAl := Lib.hid (fun wz => lAlive24 wz)
  have hmm : Bx w.heap.size w ((w.alloc (.cells #[.slice A l.length c, .int .i64 kk, .bool back] 80)).alloc (.cells #[.int .u64 p.1, .int .u64 p.2] 38)) _ _ := ((Bx.start w).alloc (.cells #[.slice A l.length c, .int .i64 kk, .bool back] 80 (0, 0))).alloc (.cells #[.int .u64 p.1, .int .u64 p.2] 38 (0, 0))
  go_enter Tryz.func10, Tryz.ntmps10
  go_upto_region 1 with (fail)
  generalize World.alloc (World.alloc w _) _ = v at *
  simp only [List.nil_append, List.cons_append, World.size_alloc] at hmm
  have HM := Lib.hid hmm
  clear hmm
  ((try dsimp only); repeat (first | go_values | go_skip | go_guarded | go_step | go_upon))
  refine (HAl.out _).mono ?_
  rintro e w1 ⟨rfl, hb1⟩
  have hm := HM.out.keep hb1
  clear HM hb1
  obtain ⟨c0, c1, c2, f0, f1, f2⟩ := rw3 (hm.at 0 rfl)
  have HB := Lib.hid hm.m.b
  clear hm
  by_cases h0 : l.length = 0
  · have l0 : ((l.length : Int) == 0) = true := by rw [h0]; rfl
    clear h0 hn
    ((try dsimp only); repeat (first | go_values | go_skip | go_guarded | go_step | go_upon))
    refine (HAl.out _).mono ?_
    rintro e w2 ⟨rfl, hb2⟩
    have HB2 := Lib.hid (HB.out.trans (hb2.mono HB.out.size))
    clear hb2 HB
    ((try dsimp only); repeat (first | go_values | go_skip | go_guarded | go_step | go_upon))
    go_ret
    exact ⟨rfl, HB2.out⟩
  · have l0 : ((l.length : Int) == 0) = false := beq_eq_false_iff_ne.2 (by omega)
    have l1 : (511 : Int) < (l.length : Int) := by omega
    have l2 : 511 < l.length := by omega
    clear hn
    ((try dsimp only); repeat (first | go_values | go_skip | go_guarded | go_step | go_upon))
    refine (HAl.out _).mono ?_
    rintro e w2 ⟨rfl, hb2⟩
    have HB2 := Lib.hid (HB.out.trans (hb2.mono HB.out.size))
    clear hb2 HB
    ((try dsimp only); repeat (first | go_values | go_skip | go_guarded | go_step | go_upon))
    go_ret
    exact ⟨rfl, HB2.out⟩
-- printed behind this by gen_ring54.py
set_option maxRecDepth 100000 in
set_option maxHeartbeats 3200000 in
theorem lRoundBad (A : Option Addr) (c : Nat) (l : List Pt) (kk : Int) (back left : Bool) (p : Pt) (w : World) (hp : PtsIn w A l) (h0 : 0 < l.length) (hl : l.length ≤ 511) (hu : ∀ q ∈ l, PtU q) (hf : finB l = false) :
    Calls Tryz.prog 10 #[.agg #[.slice A l.length c, .int .i64 kk, .bool back], .agg #[.int .u64 p.1, .int .u64 p.2], .bool left] w fun e w' => e = .returned (.bool true) ∧ Below w.heap.size w w' := by
  obtain ⟨j0, hj, hjk⟩ : ∃ j0 : Nat, j0 < l.length ∧ wrap64 ((IntKind.u64.wrap kk).tmod (l.length : Int)) = (j0 : Int) := by
    have e1 : 0 ≤ IntKind.u64.wrap kk := by rw [IntKind.wrap_u64]; exact Int.emod_nonneg _ (by decide)
    have e2 := Int.emod_nonneg (IntKind.u64.wrap kk) (show (l.length : Int) ≠ 0 by omega)
    have e3 := Int.emod_lt_of_pos (IntKind.u64.wrap kk) (show 0 < (l.length : Int) by omega)
    refine ⟨((IntKind.u64.wrap kk) % (l.length : Int)).toNat, by omega, ?_⟩
    rw [Int.tmod_eq_emod_of_nonneg e1, Int.toNat_of_nonneg e2]
    generalize (IntKind.u64.wrap kk) % (l.length : Int) = x at *
    clear e1
    unfold wrap64
    omega
  have hlm := bgn_len l j0 back
  have hm0 : 0 < (bgnL l j0 back).length := by omega
  have hml : (bgnL l j0 back).length ≤ 511 := by omega
  have hmu : ∀ q ∈ bgnL l j0 back, PtU q := fun q hq => hu q (bgn_memI.1 hq)
  have hmf : finB (bgnL l j0 back) = false := by rw [finB_same (fun q => bgn_memI)]; exact hf
  have HAl := Lib.hid (fun wz => lAlive24 wz)
  have HP := Lib.hid hp
  have HCl := Lib.hid (cClosedX A c l h0 hl)
  have HBg : Hid (∀ wz, PtsIn wz A l → Calls Tryz.prog 43 #[.slice A l.length c, .int .i64 kk, .bool back] wz fun e w' => ∃ A1 c1, e = .returned (.slice A1 l.length c1) ∧ PtsIn w' A1 (bgnL l j0 back) ∧ Below wz.heap.size wz w') := Lib.hid (fun wz hz => by
    refine (lBegun A c l kk j0 back wz hz (by omega) hj hjk).mono ?_
    rintro e w' ⟨v, rfl, hown, hb⟩
    obtain ⟨A1, c1, rfl⟩ := own_form hown
    exact ⟨A1, c1, rfl, own_pts hown (bgn_len _ _ _), hb⟩)
  have HCm := Lib.hid (fun A1 c1 => cClosedX A1 c1 (bgnL l j0 back) hm0 hml)
  have hno : ∀ (m : List Pt) (A1 : Option Addr) (c1 : Nat) (wz : World), 0 < m.length → m.length ≤ 511 → finB m = false → (∀ q ∈ m, PtU q) → PtsIn wz A1 (closedL m) → Calls Tryz.prog 16 #[.slice A1 (m.length + 1) c1] wz fun e w' => e = .returned (.tuple #[.agg #[.bool false, .slice none 0 0, .slice none 0 0], .int .i64 220]) ∧ Below wz.heap.size wz w' := by
    intro m A1 c1 wz g0 gl gf gu gp
    have := gArea2 A1 c1 (closedL m) wz gp (by rw [closedL_len g0]; omega) (fun q hq => gu q (closedL_mem.1 hq))
    rw [closedL_len g0] at this
    refine this.mono ?_
    rintro e w' ⟨⟨h1, _⟩, hb⟩
    have hk := closed_chkN g0 gl gf
    rw [hk] at h1
    exact ⟨h1 (by decide), hb⟩
  have HAr := Lib.hid (fun A1 c1 wz hz => hno l A1 c1 wz h0 hl hf hu hz)
  have HAm := Lib.hid (fun A1 c1 wz hz => hno (bgnL l j0 back) A1 c1 wz hm0 hml hmf hmu hz)
  have HF := Lib.hid (fun wz hz => f24Finite A c l wz hz (by omega) hu)
  rw [hf] at HF
  rw [hlm] at HCm HAm
  have l0 : ((l.length : Int) == 0) = false := beq_eq_false_iff_ne.2 (by omega)
  have l1 : ¬ (511 : Int) < (l.length : Int) := by omega
  have l2 : ¬ 511 < l.length := by omega
  clear hp hu hf hjk hlm hm0 hml hmu hmf hno
  have hmm : Bx w.heap.size w ((w.alloc (.cells #[.slice A l.length c, .int .i64 kk, .bool back] 80)).alloc (.cells #[.int .u64 p.1, .int .u64 p.2] 38)) _ _ := ((Bx.start w).alloc (.cells #[.slice A l.length c, .int .i64 kk, .bool back] 80 (0, 0))).alloc (.cells #[.int .u64 p.1, .int .u64 p.2] 38 (0, 0))
  go_enter Tryz.func10, Tryz.ntmps10
  go_upto_region 1 with (fail)
  generalize (World.alloc (World.alloc w _) _) = v at *
  (try simp only [List.nil_append, List.cons_append, World.size_alloc, List.set_cons_zero, List.set_cons_succ, putsC, pB, pC, pD] at hmm)
  have HM := Lib.hid hmm
  clear hmm
  have HK := Lib.hid (HAl.out v)
  ((try dsimp only); repeat (first | go_values | go_skip | go_guarded | go_step | go_upon))
  refine HK.out.mono ?_
  rintro e w20 ⟨rfl, hb⟩
  have hm := (HM.out.keep hb)
  clear HK HM hb 
  (try simp only [List.nil_append, List.cons_append, World.size_alloc, List.set_cons_zero, List.set_cons_succ, putsC, pB, pC, pD] at hm)
  have HM := Lib.hid hm
  clear hm
  obtain ⟨c0_0, c0_1, c0_2, c0_3, c0_4, c0_5⟩ := rw3 (HM.out.at 0 rfl)
  go_upto_region 3 with (fail)
  clear c0_0 c0_1 c0_2 c0_3 c0_4 c0_5
  obtain ⟨c0_0, c0_1, c0_2, c0_3, c0_4, c0_5⟩ := rw3 (HM.out.at 0 rfl)
  have HK := Lib.hid (HCl.out w20 (HP.out.keep HM.out.m.b))
  ((try dsimp only); repeat (first | go_values | go_skip | go_guarded | go_step | go_upon))
  refine HK.out.mono ?_
  rintro e w21 ⟨g21, c21, O21, rfl, hc, hx, hpt⟩
  have HL21 := Lib.hid (And.intro hc hpt)
  clear hc hpt
  have hm := (HM.out.join hx)
  clear HK HM hx c0_0 c0_1 c0_2 c0_3 c0_4 c0_5
  (try simp only [List.nil_append, List.cons_append, World.size_alloc, List.set_cons_zero, List.set_cons_succ, putsC, pB, pC, pD] at hm)
  have HM := Lib.hid hm
  clear hm
  go_upto_region 4 with (fail)
  obtain ⟨c0_0, c0_1, c0_2, c0_3, c0_4, c0_5⟩ := rw3 (HM.out.at 0 rfl)
  have HK := Lib.hid (HBg.out w21 (HP.out.keep HM.out.m.b))
  ((try dsimp only); repeat (first | go_values | go_skip | go_guarded | go_step | go_upon))
  refine HK.out.mono ?_
  rintro e w22 ⟨A22, c22, rfl, hp2, hb⟩
  have HPb := Lib.hid hp2
  clear hp2
  have hm := (HM.out.keep hb)
  clear HK HM hb c0_0 c0_1 c0_2 c0_3 c0_4 c0_5
  (try simp only [List.nil_append, List.cons_append, World.size_alloc, List.set_cons_zero, List.set_cons_succ, putsC, pB, pC, pD] at hm)
  have HM := Lib.hid hm
  clear hm
  have HK := Lib.hid (HCm.out _ c22 w22 HPb.out)
  ((try dsimp only); repeat (first | go_values | go_skip | go_guarded | go_step | go_upon))
  refine HK.out.mono ?_
  rintro e w23 ⟨g23, c23, O23, rfl, hc, hx, hpt⟩
  have HL23 := Lib.hid (And.intro hc hpt)
  clear hc hpt
  have hm := (HM.out.join hx)
  clear HK HM hx 
  (try simp only [List.nil_append, List.cons_append, World.size_alloc, List.set_cons_zero, List.set_cons_succ, putsC, pB, pC, pD] at hm)
  have HM := Lib.hid hm
  clear hm
  go_upto_region 5 with (fail)
  have HK := Lib.hid (HAr.out _ c21 w23 (HL21.out.2 _ (HM.out.at 2 rfl)))
  ((try dsimp only); repeat (first | go_values | go_skip | go_guarded | go_step | go_upon))
  refine HK.out.mono ?_
  rintro e w24 ⟨rfl, hb⟩
  have hm : Bx w.heap.size w (World.alloc w24 (.cells #[.bool false, .slice none 0 0, .slice none 0 0] 26)) _ _ := ((HM.out.keep hb).alloc (.cells #[.bool false, .slice none 0 0, .slice none 0 0] 26 (0, 0)))
  clear HK HM hb 
  go_upto_region 6 with (fail)
  generalize (World.alloc w24 _) = v25 at *
  (try simp only [List.nil_append, List.cons_append, World.size_alloc, List.set_cons_zero, List.set_cons_succ, putsC, pB, pC, pD] at hm)
  have HM := Lib.hid hm
  clear hm
  have HK := Lib.hid (HAm.out _ c23 v25 (HL23.out.2 _ (HM.out.at 3 rfl)))
  ((try dsimp only); repeat (first | go_values | go_skip | go_guarded | go_step | go_upon))
  refine HK.out.mono ?_
  rintro e w26 ⟨rfl, hb⟩
  have hm : Bx w.heap.size w (World.alloc w26 (.cells #[.bool false, .slice none 0 0, .slice none 0 0] 26)) _ _ := ((HM.out.keep hb).alloc (.cells #[.bool false, .slice none 0 0, .slice none 0 0] 26 (0, 0)))
  clear HK HM hb 
  go_upto_region 7 with (fail)
  generalize (World.alloc w26 _) = v27 at *
  (try simp only [List.nil_append, List.cons_append, World.size_alloc, List.set_cons_zero, List.set_cons_succ, putsC, pB, pC, pD] at hm)
  have HM := Lib.hid hm
  clear hm
  obtain ⟨c0, c1, c2, f0, f1, f2⟩ := rw3 (HM.out.at 0 rfl)
  have HFi := Lib.hid (HF.out _ (HP.out.keep HM.out.m.b))
  have HB := Lib.hid HM.out.m.b
  ((try dsimp only); repeat (first | go_values | go_skip | go_guarded | go_step | go_upon))
  refine HFi.out.mono ?_
  rintro e y1 ⟨rfl, hb⟩
  have HB1 := Lib.hid (HB.out.trans (hb.mono HB.out.size))
  clear hb HFi HB
  ((try dsimp only); repeat (first | go_values | go_skip | go_guarded | go_step | go_upon))
  go_ret
  exact ⟨rfl, HB1.out⟩
theorem lRound (A : Option Addr) (c : Nat) (l : List Pt) (kk : Int) (back left : Bool) (p : Pt) (w : World) (hp : PtsIn w A l) (hl : l.length ≤ 9223372036854775807) (hu : ∀ q ∈ l, PtU q) (hup : PtU p) (hst : Stays w) :
    Calls Tryz.prog 10 #[.agg #[.slice A l.length c, .int .i64 kk, .bool back], .agg #[.int .u64 p.1, .int .u64 p.2], .bool left] w fun e w' => e = .returned (.bool true) ∧ Below w.heap.size w w' := by
  by_cases h : l.length = 0 ∨ 511 < l.length
  · exact lRoundNo A c l kk back left p w hl h
  · by_cases hf : finB l = true
    · exact lRoundYes A c l kk back left p w hp (by omega) (by omega) hu hup hf hst
    · exact lRoundBad A c l kk back left p w hp (by omega) (by omega) hu (by simpa using hf)
end Go.Proofs.YtfpofmifmapmfaaGreatDoor

namespace Go.Proofs.YtfpofmifmapmfaaGreatDoor
open Go Go.ChangeShapes Go.WideShapes Go.ChangeAt Go.RowKit
set_option linter.unusedVariables false
set_option linter.unusedSimpArgs false
set_option maxRecDepth 100000
theorem row_own : ownKnob Tryz.prog.godebug = none := by kernel_rfl
theorem row_laidOut : laidOutB Tryz.prog = true := by kernel_rfl
theorem door_met (os : Os) (args : Array Value) : laidMetH Tryz.prog [("plumb/near.stays", Rows.laid_plumb_near_stays)] ((World.doorLaid Tryz.prog 400 os).forCall (fun _ _ => 0) ⟨#[], args, []⟩).memory :=
  laidMetH_of_parts3 (fuel := 8) (laidMet_of_run' 8 (by kernel_rfl) (by kernel_rfl)) (by kernel_rfl) (by kernel_rfl)
section
variable {H : Type} {enc : TypeId × Value → H} {w : World} {base : Nat} {spare : Nat → Bool} {held : Bool} {fuel : Nat}
theorem open_word {cs : List Value} {x : DataW H × List MemPlace} (h : DataW.trod enc Tryz.prog w base spare held fuel 36 cs = some x) : ∃ n, cs = [.int .u64 n] ∧ U64 n := by
  obtain ⟨n, h1, h2, h3⟩ := DataW.trod_int Tryz.underlying36 h
  refine ⟨n, h1, ?_⟩
  unfold Lit.wf at h3
  simp only [Bool.and_eq_true, decide_eq_true_eq] at h3
  exact h3
theorem open_point {cs : List Value} {x : DataW H × List MemPlace} (h : DataW.trod enc Tryz.prog w base spare held fuel 38 cs = some x) : ∃ p : Pt, cs = [.int .u64 p.1, .int .u64 p.2] ∧ PtU p := by
  obtain ⟨xs, n, _, _, hl, hx, hf⟩ := DataW.trod_struct Tryz.underlying38 h
  have c1 : Tryz.prog.cellsOf 38 = 2 := by kernel_rfl
  have c2 : Tryz.prog.cellsOf 36 = 1 := by kernel_rfl
  rw [c1] at hl
  match cs, hl with
  | [u, v], _ =>
    match xs, hx with
    | [y0, y1], _ =>
      have h0 : DataW.trod enc Tryz.prog w base spare held n 36 (List.take (Tryz.prog.cellsOf 36) (List.drop 0 [u, v])) = some y0 := hf 0 _ rfl
      have h1 : DataW.trod enc Tryz.prog w base spare held n 36 (List.take (Tryz.prog.cellsOf 36) (List.drop 1 [u, v])) = some y1 := hf 1 _ rfl
      rw [c2] at h0 h1
      obtain ⟨a, ha, ua⟩ := open_word (show DataW.trod enc Tryz.prog w base spare held n 36 [u] = some y0 from h0)
      obtain ⟨b, hb, ub⟩ := open_word (show DataW.trod enc Tryz.prog w base spare held n 36 [v] = some y1 from h1)
      cases ha
      cases hb
      exact ⟨(a, b), rfl, ua, ub⟩
theorem open_int {cs : List Value} {x : DataW H × List MemPlace} (h : DataW.trod enc Tryz.prog w base spare held fuel 3 cs = some x) : ∃ n : Int, cs = [.int .i64 n] ∧ -9223372036854775808 ≤ n ∧ n ≤ 9223372036854775807 := by
  obtain ⟨n, h1, h2, h3⟩ := DataW.trod_int Tryz.underlying3 h
  refine ⟨n, h1, ?_⟩
  unfold Lit.wf at h3
  simp only [Bool.and_eq_true, decide_eq_true_eq] at h3
  exact h3
theorem open_ptv {r : Reach} {b0 : Nat} {v : Value} {d : DataW H} {p : List MemPlace} (hv : Value.okWide Tryz.prog w r b0 38 v) (h : DataW.Trod enc Tryz.prog w base spare held 38 v d p) :
    ∃ a : Pt, v = .agg #[.int .u64 a.1, .int .u64 a.2] ∧ PtU a := by
  obtain ⟨cs, rfl, hsz⟩ := okWide_struct Tryz.underlying38 hv
  obtain ⟨l⟩ := cs
  have c1 : Tryz.prog.cellsOf 38 = 2 := by kernel_rfl
  obtain ⟨fuel, hf⟩ := h
  rw [c1] at hsz
  match l, hsz with
  | [v0, v1], _ =>
    obtain ⟨a, ha, ua⟩ := open_point (show DataW.trod enc Tryz.prog w base spare held fuel 38 [v0, v1] = some (d, p) from hf)
    cases ha
    exact ⟨a, rfl, ua⟩
theorem open_pts {r : Reach} {b0 : Nat} {v : Value} {d : DataW H} {p : List MemPlace} (hv : Value.okWide Tryz.prog w r b0 22 v) (h : DataW.Trod enc Tryz.prog w base spare held 22 v d p) :
    ∃ (A : Option Addr) (c : Nat) (qs : List Pt), v = .slice A qs.length c ∧ PtsIn w A qs ∧ qs.length ≤ 9223372036854775807 ∧ (∀ p ∈ qs, PtU p) ∧ (qs.length = 0 ∨ ∃ es sp, d = .slice es sp ∧ es.length = qs.length) := by
  obtain ⟨A, len, cap, rfl⟩ := okWide_slice Tryz.underlying22 hv
  have c2 : Tryz.prog.cellsOf 38 = 2 := by kernel_rfl
  obtain ⟨fuel, hf⟩ := h
  rcases Deep.open_slice Tryz.underlying22 (show DataW.trod enc Tryz.prog w base spare held fuel 22 [.slice A len cap] = some (d, p) from hf) with ⟨e, _⟩ | ⟨a, len', cap', m, n, D, Pl, e, hb, hl, hm, hmm, hxe, hx⟩
  · cases e
    exact ⟨none, 0, [], rfl, Or.inl rfl, by decide, (fun p hp => by cases hp), Or.inl rfl⟩
  · cases e
    have hlm : len ≤ m := by rw [hmm]; split <;> omega
    have hpt : ∀ i, i < len → ∃ q : Pt, w.cells? base (a.add (i * 2)) 2 = some [.int .u64 q.1, .int .u64 q.2] ∧ PtU q := by
      intro i hi
      obtain ⟨cs', h1, h2⟩ := hx i (by omega)
      rw [c2] at h1
      obtain ⟨q, rfl, hq⟩ := open_point h2
      exact ⟨q, h1, hq⟩
    obtain ⟨f, hf⟩ := Deep.choose_lt hpt
    have hlen : ((List.range len).map f).length = len := by simp
    have hget : ∀ i, i < len → ((List.range len).map f).getD i (0, 0) = f i := by
      intro i hi
      rw [List.getD_eq_getElem?_getD]
      simp [hi]
    refine ⟨some a, cap, (List.range len).map f, by rw [hlen], ?_, ?_, ?_, Or.inr ⟨_, _, (Prod.mk.inj hxe).1, by simp⟩⟩
    · by_cases h0 : len = 0
      · left; exact List.eq_nil_of_length_eq_zero (by rw [hlen, h0])
      · right
        have h1 := (World.cells?_some (hf 0 (by omega)).1).2.2 0 (by decide)
        have ha : a.add (0 * 2) = a := by simp [Addr.add]
        rw [ha] at h1
        have ha0 : a.add 0 = a := by simp [Addr.add]
        rw [ha0] at h1
        obtain ⟨b, o, s⟩ := a
        cases s with
        | some s =>
          exfalso
          simp only [World.cell?] at h1
          split at h1
          · simp at h1
          · cases h1
        | none =>
          refine ⟨b, o, rfl, ?_, fun i hi => ?_⟩
          · have hh : w.cell? ⟨b, o, none⟩ ≠ none := by rw [h1]; simp
            refine Nat.lt_of_not_le fun hge => hh ?_
            simp only [World.cell?]
            rw [Array.getElem?_eq_none hge]
          · rw [hlen] at hi
            have k := (World.cells?_some (hf i hi).1).2.2
            have k0 := k 0 (by decide)
            have k1 := k 1 (by decide)
            rw [Deep.add_add] at k0 k1
            have e : ∀ j, (⟨b, o, none⟩ : Addr).add j = ⟨b, o + j, none⟩ := by
              intro j
              unfold Addr.add
              split
              · rename_i h; simp [h]
              · rfl
            rw [e] at k0 k1
            rw [hget i hi]
            exact ⟨k0, by rw [Nat.add_assoc]; exact k1⟩
    · rw [hlen]
      unfold maxLen at hm
      omega
    · intro q hq
      obtain ⟨i, hi, rfl⟩ := List.mem_map.1 hq
      exact (hf i (List.mem_range.1 hi)).2
theorem open_boolv {w : World} {r : Reach} {b0 : Nat} {v : Value} (hv : Value.okWide Tryz.prog w r b0 4 v) : ∃ y : Bool, v = .bool y := by
  have ht := Tryz.underlying4
  simp only [Value.okWide, ht] at hv
  cases v <;> simp [Cell.okWide, Cell.ok, ht] at hv ⊢
theorem pts_len {ts : List TypeId} {ds : List (DataW H)} (h : (DataW.weightsEach Tryz.prog ts ds).all (· ≤ reachBytes) = true) {j : Nat} {d : DataW H} {qs : List Pt} (ht : ts[j]? = some 22) (hd : ds[j]? = some d)
    (hs : qs.length = 0 ∨ ∃ es sp, d = .slice es sp ∧ es.length = qs.length) : qs.length ≤ 8796093021952 := by
  rcases hs with e | ⟨es, sp, rfl, e⟩
  · omega
  · have := sized_slice h ht hd Tryz.underlying22
    have hb : Tryz.prog.bytesOf 38 = 16 := by kernel_rfl
    rw [hb] at this
    simp only [reachBytes] at this
    omega
end
theorem post_true {H : Type} {enc : TypeId × Value → H} {f : Func} {s : ChangeSpec} {apart fresh handsOn : Bool} {W W' : World} {args : Array Value} {ds : List (DataW H)} {before : List MemPlace}
    (hv : s.vars = []) (hs : s.fn H ds = { results := [.lit (.bool true)], args := ds }) (hr : f.resultTypes = #[4])
    (hW : DataW.Whole enc Tryz.prog f.params.toList s.vars apart W args.toList ds [] before) (hb : Below W.heap.size W W')
    (hst : ∀ sp : Nat → Bool, (∀ p ∈ before, sp p.block = true) → DataW.TrodAll enc Tryz.prog W' 0 sp true f.params.toList args.toList ds before) :
    s.post enc Tryz.prog f apart fresh handsOn false W args (.bool true) W' := by
  have below : ∀ p ∈ before, p.block < W.heap.size := fun p hp => hW.lt p hp
  have kept := hb.frame (· ∈ before)
  have fn0 : s.fn H (ds ++ []) = { results := [.lit (.bool true)], args := ds } := by rw [List.append_nil]; exact hs
  have res : ∀ (b : Nat) (sp : Nat → Bool) (hd : Bool), DataW.TrodAll enc Tryz.prog W' b sp hd f.resultTypes.toList ((Value.bool true).resultList f.resultTypes.size) (s.fn H (ds ++ [])).results [] := by
    intro b sp hd
    rw [fn0, hr]
    exact trodAll_mk1 (shut_bool Tryz.underlying4 _)
  have arg : ∀ sp : Nat → Bool, (∀ p ∈ before, sp p.block = true) → DataW.TrodAll enc Tryz.prog W' 0 sp true f.params.toList args.toList (s.fn H (ds ++ [])).args before := by
    intro sp h
    rw [fn0]
    exact hst sp h
  have vars : ∀ sp : Nat → Bool, DataW.TrodVars enc Tryz.prog W' sp s.vars (s.fn H (ds ++ [])).vars [] := by
    intro sp
    rw [fn0, hv]
    trivial
  refine ⟨ds, [], before, [], before, [], hW, res _ _ _, arg _ (fun p hp => by simpa using below p hp), vars _, World.keptBut_mono (fun p hp => ⟨hp, Or.inr (Or.inl hp)⟩) kept, fun h => by cases h⟩
end Go.Proofs.YtfpofmifmapmfaaGreatDoor

namespace Go.Proofs.YtfpofmifmapmfaaGreatDoor
open Go Go.ChangeShapes Go.WideShapes Go.ChangeAt Go.RowKit
set_option linter.unusedVariables false
set_option linter.unusedSimpArgs false
set_option maxRecDepth 100000
section
variable {H : Type} {enc : TypeId × Value → H} {w : World} {base : Nat} {spare : Nat → Bool} {held : Bool} {fuel : Nat}
theorem open_ptsC {cs : List Value} {d : DataW H} {p : List MemPlace} (h : DataW.trod enc Tryz.prog w base spare held fuel 22 cs = some (d, p)) :
    ∃ (A : Option Addr) (c : Nat) (qs : List Pt), cs = [.slice A qs.length c] ∧ PtsIn w A qs ∧ qs.length ≤ 9223372036854775807 ∧ (∀ p ∈ qs, PtU p) ∧ (qs.length = 0 ∨ ∃ es sp, d = .slice es sp ∧ es.length = qs.length) := by
  have c2 : Tryz.prog.cellsOf 38 = 2 := by kernel_rfl
  rcases Deep.open_slice Tryz.underlying22 h with ⟨e, _⟩ | ⟨a, len, cap, m, n, D, Pl, e, hb, hl, hm, hmm, hxe, hx⟩
  · subst e
    exact ⟨none, 0, [], rfl, Or.inl rfl, by decide, (fun p hp => by cases hp), Or.inl rfl⟩
  · subst e
    have hlm : len ≤ m := by rw [hmm]; split <;> omega
    have hpt : ∀ i, i < len → ∃ q : Pt, w.cells? base (a.add (i * 2)) 2 = some [.int .u64 q.1, .int .u64 q.2] ∧ PtU q := by
      intro i hi
      obtain ⟨cs', h1, h2⟩ := hx i (by omega)
      rw [c2] at h1
      obtain ⟨q, rfl, hq⟩ := open_point h2
      exact ⟨q, h1, hq⟩
    obtain ⟨f, hf⟩ := Deep.choose_lt hpt
    have hlen : ((List.range len).map f).length = len := by simp
    have hget : ∀ i, i < len → ((List.range len).map f).getD i (0, 0) = f i := by
      intro i hi
      rw [List.getD_eq_getElem?_getD]
      simp [hi]
    refine ⟨some a, cap, (List.range len).map f, by rw [hlen], ?_, ?_, ?_, Or.inr ⟨_, _, (Prod.mk.inj hxe).1, by simp⟩⟩
    · by_cases h0 : len = 0
      · left; exact List.eq_nil_of_length_eq_zero (by rw [hlen, h0])
      · right
        have h1 := (World.cells?_some (hf 0 (by omega)).1).2.2 0 (by decide)
        have ha : a.add (0 * 2) = a := by simp [Addr.add]
        rw [ha] at h1
        have ha0 : a.add 0 = a := by simp [Addr.add]
        rw [ha0] at h1
        obtain ⟨b, o, s⟩ := a
        cases s with
        | some s =>
          exfalso
          simp only [World.cell?] at h1
          split at h1
          · simp at h1
          · cases h1
        | none =>
          refine ⟨b, o, rfl, ?_, fun i hi => ?_⟩
          · have hh : w.cell? ⟨b, o, none⟩ ≠ none := by rw [h1]; simp
            refine Nat.lt_of_not_le fun hge => hh ?_
            simp only [World.cell?]
            rw [Array.getElem?_eq_none hge]
          · rw [hlen] at hi
            have k := (World.cells?_some (hf i hi).1).2.2
            have k0 := k 0 (by decide)
            have k1 := k 1 (by decide)
            rw [Deep.add_add] at k0 k1
            have e : ∀ j, (⟨b, o, none⟩ : Addr).add j = ⟨b, o + j, none⟩ := by
              intro j
              unfold Addr.add
              split
              · rename_i h; simp [h]
              · rfl
            rw [e] at k0 k1
            rw [hget i hi]
            exact ⟨k0, by rw [Nat.add_assoc]; exact k1⟩
    · rw [hlen]
      unfold maxLen at hm
      omega
    · intro q hq
      obtain ⟨i, hi, rfl⟩ := List.mem_map.1 hq
      exact (hf i (List.mem_range.1 hi)).2
theorem open_boolC {cs : List Value} {x : DataW H × List MemPlace} (h : DataW.trod enc Tryz.prog w base spare held fuel 4 cs = some x) : ∃ b : Bool, cs = [.bool b] ∧ x = (.lit (.bool b), []) := DataW.trod_bool Tryz.underlying4 h
theorem open_round {r : Reach} {b0 : Nat} {v : Value} {d : DataW H} {p : List MemPlace} (hv : Value.okWide Tryz.prog w r b0 80 v) (h : DataW.Trod enc Tryz.prog w base spare held 80 v d p) :
    ∃ (A : Option Addr) (c : Nat) (qs : List Pt) (k : Int) (b : Bool), v = .agg #[.slice A qs.length c, .int .i64 k, .bool b] ∧ PtsIn w A qs ∧ qs.length ≤ 9223372036854775807 ∧ (∀ p ∈ qs, PtU p) ∧ I64 k := by
  obtain ⟨cs, rfl, hsz⟩ := okWide_struct Tryz.underlying80 hv
  obtain ⟨l⟩ := cs
  have c0 : Tryz.prog.cellsOf 80 = 3 := by kernel_rfl
  have c1 : Tryz.prog.cellsOf 3 = 1 := by kernel_rfl
  have c2 : Tryz.prog.cellsOf 22 = 1 := by kernel_rfl
  have c3 : Tryz.prog.cellsOf 4 = 1 := by kernel_rfl
  obtain ⟨fuel, hf⟩ := h
  obtain ⟨xs, n, _, _, hl, hx, hg⟩ := DataW.trod_struct Tryz.underlying80 hf
  rw [c0] at hsz
  match l, hsz with
  | [v0, v1, v2], _ =>
    match xs, hx with
    | [y0, y1, y2], _ =>
      have h0 : DataW.trod enc Tryz.prog w base spare held n 22 (List.take (Tryz.prog.cellsOf 22) (List.drop 0 [v0, v1, v2])) = some y0 := hg 0 _ rfl
      have h1 : DataW.trod enc Tryz.prog w base spare held n 3 (List.take (Tryz.prog.cellsOf 3) (List.drop 1 [v0, v1, v2])) = some y1 := hg 1 _ rfl
      have h2 : DataW.trod enc Tryz.prog w base spare held n 4 (List.take (Tryz.prog.cellsOf 4) (List.drop 2 [v0, v1, v2])) = some y2 := hg 2 _ rfl
      rw [c2] at h0
      rw [c1] at h1
      rw [c3] at h2
      obtain ⟨A, c, qs, e0, p1, p2, p3, _⟩ := open_ptsC (show DataW.trod enc Tryz.prog w base spare held n 22 [v0] = some (y0.1, y0.2) from h0)
      obtain ⟨k, e1, uk⟩ := open_int (show DataW.trod enc Tryz.prog w base spare held n 3 [v1] = some y1 from h1)
      obtain ⟨b, e2, _⟩ := open_boolC (show DataW.trod enc Tryz.prog w base spare held n 4 [v2] = some y2 from h2)
      cases e0
      cases e1
      cases e2
      exact ⟨A, c, qs, k, b, rfl, p1, p2, p3, uk⟩
end
theorem stays_of {W : World} (h : laidMetH Tryz.prog [("plumb/near.stays", Rows.laid_plumb_near_stays)] W) : Stays W := by
  have h' : laidMet Tryz.prog [("plumb/near.stays", Rows.laid_plumb_near_stays)] W := h
  obtain ⟨ps, ⟨g, t, cs, fuel, p, q, hg, ht, hv, htr, _, _⟩, _, _⟩ := h'
  obtain rfl : g = 0 := Option.some.inj (hg.symm.trans (show Tryz.prog.globalNamed "plumb/near.stays" = some 0 by kernel_rfl))
  obtain rfl : t = 277 := Option.some.inj (ht.symm.trans (show (Tryz.prog.globals[0]?).map (·.type) = some 277 by kernel_rfl))
  have c1 : Tryz.prog.cellsOf 4 = 1 := by kernel_rfl
  have c2 : Tryz.prog.cellsOf 276 = 2 := by kernel_rfl
  have c3 : Tryz.prog.cellsOf 277 = 10 := by kernel_rfl
  obtain ⟨xs, n, _, hxe, hl, hx, hf⟩ := DataW.trod_array Tryz.underlying277 htr
  have h0 := hf 0 (by decide)
  rw [c2] at h0
  have hw : ∃ ty fz, W.heap[0]? = some (.cells cs ty fz) := by
    unfold World.var? at hv
    rw [hg] at hv
    simp only [Option.bind_some] at hv
    split at hv
    · rename_i c2 ty fz hh
      cases hv
      exact ⟨ty, fz, hh⟩
    · cases hv
  obtain ⟨ty, fz, hh⟩ := hw
  rw [c3] at hl
  obtain ⟨l⟩ := cs
  match l, hl, h0, hh with
  | [v0, v1, v2, v3, v4, v5, v6, v7, v8, v9], _, h0, hh =>
    match xs, hx, h0, hxe with
    | [y0, y1, y2, y3, y4], _, h0, hxe =>
      obtain ⟨zs, n2, _, hze, hl2, hz, hf2⟩ := DataW.trod_array Tryz.underlying276 (show DataW.trod _ Tryz.prog W 0 _ _ n 276 [v0, v1] = some y0 from h0)
      have k0 := hf2 0 (by decide)
      have k1 := hf2 1 (by decide)
      rw [c1] at k0 k1
      match zs, hz with
      | [z0, z1], _ =>
        obtain ⟨b0, e0, g0⟩ := open_boolC (show DataW.trod _ Tryz.prog W 0 _ _ n2 4 [v0] = some z0 from k0)
        obtain ⟨b1, e1, g1⟩ := open_boolC (show DataW.trod _ Tryz.prog W 0 _ _ n2 4 [v1] = some z1 from k1)
        cases e0
        cases e1
        subst g0 g1
        have d0 : y0.1 = .agg [.lit (.bool b0), .lit (.bool b1)] := by rw [hze]; rfl
        have d1 := congrArg (·.1) hxe
        simp only [Rows.laid_plumb_near_stays, List.map_cons, d0, DataW.agg.injEq, List.cons.injEq, DataW.lit.injEq, Lit.bool.injEq] at d1
        obtain ⟨⟨rfl, rfl, _⟩, _⟩ := d1
        exact ⟨by unfold World.cell?; rw [hh]; rfl, by unfold World.cell?; rw [hh]; rfl, heap_lt hh⟩
end Go.Proofs.YtfpofmifmapmfaaGreatDoor

namespace Go.Proofs.YtfpofmifmapmfaaGreatDoor
open Go Go.ChangeShapes Go.WideShapes Go.ChangeAt Go.RowKit
set_option linter.unusedVariables false
set_option linter.unusedSimpArgs false
set_option maxRecDepth 100000 in
theorem ringRound_lifted (os : Os) (started : os.Started) (H : Type) (enc : TypeId × Value → H) :
    ReturnsInHanded {} Tryz.checked os 10 .any (fun w args => (Rows.ringRoundSpec.pre enc Tryz.prog Tryz.f10 [] false w args ∧ laidMetH Tryz.prog [("plumb/near.stays", Rows.laid_plumb_near_stays)] w) ∧ sizedMet enc Tryz.prog Tryz.f10 (OpenSpec.ofChange Rows.ringRoundSpec) false w args)
      (Rows.ringRoundSpec.post enc Tryz.prog Tryz.f10 false true false false) := by
  refine returnsInHanded_of_change_and (C := Tryz.checked) (X := fun w _ => laidMetH Tryz.prog [("plumb/near.stays", Rows.laid_plumb_near_stays)] w) (fun _ _ _ hh h => h.of_heap hh) row_own started (by kernel_rfl) Tryz.func10
    (ChangeSpec.witness_shaped (enc := enc) (C := Tryz.checked) (os := os) (X := fun w _ => laidMetH Tryz.prog [("plumb/near.stays", Rows.laid_plumb_near_stays)] w) false (World.doorLaid Tryz.prog 400 os) #[.agg #[.slice none 0 0, .int .i64 0, .bool false], .agg #[.int .u64 0, .int .u64 0], .bool false] 8 rfl (World.shaped_of_RefB (by kernel_rfl) (by kernel_rfl)) (by kernel_rfl) (by kernel_rfl) (by kernel_rfl) (door_met os _)) ?_
  intro W base args ds gs before hval0 hW _ hsz0 hL _
  have hsz : (DataW.weightsEach Tryz.prog (Tryz.f10.params.toList ++ Rows.ringRoundSpec.plain.varTypes Tryz.prog) (ds ++ gs)).all (· ≤ reachBytes) = true := hsz0
  have hval : ∀ (j : Nat) t v, Tryz.f10.params[j]? = some t → args[j]? = some v → Value.okWide Tryz.prog W .any base t v := hval0
  have hW' := hW
  obtain ⟨p, q, hA0, hV, rfl, hfz, hnd⟩ := hW
  have hA : DataW.TrodAll enc Tryz.prog W 0 (fun _ => true) true Tryz.f10.params.toList args.toList ds p := hA0
  rw [Tryz.params10] at hA hval hsz
  obtain ⟨v0, v1, v2, d0, d1, d2, p0, p1, p2, hargs, hds, hps, h0, h1, h2⟩ := trodAll_three hA
  obtain ⟨rfl, rfl⟩ := trodVars_none hV
  subst hargs hds hps
  obtain ⟨A0, c0, q0, k0, b0, rfl, hp0, hl0, hu0, hk0⟩ := open_round (hval 0 80 v0 rfl rfl) h0
  obtain ⟨q1, rfl, hu1⟩ := open_ptv (hval 1 38 v1 rfl rfl) h1
  obtain ⟨y2, rfl⟩ := open_boolv (hval 2 4 v2 rfl rfl)
  simp only [List.append_nil] at hW'
  refine (lRound A0 c0 q0 k0 b0 y2 q1 W hp0 hl0 hu0 hu1 (stays_of hL)).mono fun x W' ⟨hx, hb⟩ => ?_
  subst hx
  refine ⟨_, rfl, post_true rfl rfl rfl hW' hb (fun sp hsp => ?_)⟩
  rw [Tryz.params10]
  have hlt : ∀ x ∈ p0 ++ p1 ++ p2, x.block < W.heap.size := fun x hx => hW'.lt x hx
  have hmk := trodAll_mk3
    (WideElems.Trod_stays row_laidOut (by kernel_rfl) (of_decide_eq_true (by kernel_rfl)) h0 (fun x hx => hb.same (hlt x (List.mem_append_left _ (List.mem_append_left _ hx)))) (fun x hx => hsp x (List.mem_append_left _ (List.mem_append_left _ hx))))
    (WideElems.Trod_stays row_laidOut (by kernel_rfl) (of_decide_eq_true (by kernel_rfl)) h1 (fun x hx => hb.same (hlt x (List.mem_append_left _ (List.mem_append_right _ hx)))) (fun x hx => hsp x (List.mem_append_left _ (List.mem_append_right _ hx))))
    (WideElems.Trod_stays row_laidOut (by kernel_rfl) (of_decide_eq_true (by kernel_rfl)) h2 (fun x hx => hb.same (hlt x (List.mem_append_right _ hx))) (fun x hx => hsp x (List.mem_append_right _ hx)))
  simpa only [List.append_assoc] using hmk
theorem ringRound_said : Rows.RingRoundSaid :=
  OpenClaim.holds_of_wide 10 Tryz.f10 rfl rfl rfl rfl rfl rfl rfl ⟨rfl, rfl, rfl, rfl, rfl⟩ rfl rfl rfl rfl rfl (by kernel_rfl) Tryz.func10 (by kernel_rfl)
    (of_decide_eq_true (by kernel_rfl)) (by unfold Func.isWrapper; first | (rw [if_pos (by decide +kernel)]; kernel_rfl) | (rw [if_neg (by decide +kernel)]; exact ⟨rfl, rfl⟩))
    (fun os started H enc _ => ringRound_lifted os started H enc)
theorem ringRound_holds : Rows.RingRoundCardSaid :=
  Claim7.holds_tied_plain_at .later [] [.data] true (true, "f777712a3cb00256777b380c3964cedb2e32d925b7296fdfab4ba2994e78b29d") true
    ringRound_said (fun _ h => by cases h) (by kernel_rfl) (fun _ h => by cases h) ringRound_row_tie rfl ⟨rfl, rfl⟩ (by kernel_rfl) rfl
    (fun f fn hf hfn => by
      obtain rfl : f = 10 := Option.some.inj ((show Tryz.prog.funcNamed "plumb/plumblaw24.RingRound" = some 10 by kernel_rfl).symm.trans hf) |>.symm
      obtain rfl : fn = Tryz.f10 := (Option.some.inj (Tryz.func10.symm.trans hfn)).symm
      exact ⟨by kernel_rfl, fun j t ht => by
        rw [Tryz.params10] at ht
        have hm : t ∈ [80, 38, 4] := by simpa using Array.mem_of_getElem? ht
        have hall : ([80, 38, 4].all fun u => !Tryz.prog.wantsStandIn u) = true := by kernel_rfl
        exact (show Tryz.prog.wantsStandIn t = false by simpa using List.all_eq_true.1 hall t hm)⟩)
    (by kernel_rfl)
end Go.Proofs.YtfpofmifmapmfaaGreatDoor
