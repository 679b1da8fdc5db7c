/- The law RingParts of package plumblaw24 answers true at every two lists of points and every point, and changes nothing that it was handed: the tied card, for every input, no condition. -/
import Derived.Test.YtfpofmifmapmfaaGreatDoorRD
import Derived.Test.YtfpofmifmapmfaaGreatDoorRA
import Derived.Test.YtfpofmifmapmfaaGreatDoorRows
import Derived.Test.YtfpofmifmapmfaaGreatDoorCards
import Derived.Test.YtfpofmifmapmfaaGreatDoorTie
import Derived.ProofKit
import Derived.LaidMore
import Derived.OpenShut
import Derived.Stop.Joined
import Derived.Below
import Derived.ChangeSame
import Derived.SevenTiedAt
import Derived.Deep.Slices
import Derived.SizedLaws
namespace Go.Proofs.YtfpofmifmapmfaaGreatDoor
open Go.RowKit Go.Proofs.YtfpofmifmapmfaaGreatDoorW.PrintLast
set_option linter.unusedVariables false
set_option linter.unusedSimpArgs false
theorem windV_range (ps : List Pt) (p : Pt) (h : ps.length ≤ 1000000) : -1000000 ≤ (windV ps p).1 ∧ (windV ps p).1 ≤ 1000000 := by
  have r := sumI_range p ps (ps.length - 1)
  unfold windV
  split
  · exact ⟨show (-1000000 : Int) ≤ 0 by decide, show (0 : Int) ≤ 1000000 by decide⟩
  · unfold windR
    split
    · exact ⟨show (-1000000 : Int) ≤ 0 by decide, show (0 : Int) ≤ 1000000 by decide⟩
    · split
      · exact ⟨show (-1000000 : Int) ≤ 0 by decide, show (0 : Int) ≤ 1000000 by decide⟩
      · unfold edgesR
        dsimp only
        omega
set_option maxRecDepth 100000 in
set_option maxHeartbeats 6400000 in
theorem lParts (A B : Option Addr) (c d : Nat) (a b : List Pt) (p : Pt) (w : World) (ha : PtsIn w A a) (hb : PtsIn w B b) (hla : a.length ≤ 4611686018427387903) (hlb : b.length ≤ 4611686018427387903) (hua : ∀ q ∈ a, PtU q) (hub : ∀ q ∈ b, PtU q) (hup : PtU p) :
    Calls Tryz.prog 7 #[.slice A a.length c, .slice B b.length d, .agg #[.int .u64 p.1, .int .u64 p.2]] w fun e w' => e = .returned (.bool true) ∧ Below w.heap.size w w' := by
  have HA := Lib.hid ha
  have HB := Lib.hid hb
  have HUA := Lib.hid hua
  have HUB := Lib.hid hub
  have HUP := Lib.hid hup
  have hAl : Hid (∀ wz : World, Calls Tryz.prog 22 #[] wz fun e w' => e = .returned (.bool true) ∧ Below wz.heap.size wz w') := Lib.hid (fun wz => lAlive24 wz)
  clear ha hb hua hub hup
  by_cases hg : a.length < 2 ∨ 400 < a.length + b.length
  · go_enter Tryz.func7, Tryz.ntmps7
    ((try dsimp only); repeat (first | go_values | go_skip | go_guarded | go_step | go_upon))
    have hb1 : Below w.heap.size w (w.alloc (.cells #[.int .u64 p.1, .int .u64 p.2] 38)) := (Below.refl _ _).alloc (Nat.le_refl _) _
    have hn1 := alloc_new w (.cells #[.int .u64 p.1, .int .u64 p.2] 38)
    generalize World.alloc w _ = w1 at *
    have hsz := hb1.size
    have hlt := heap_lt hn1
    have HB1 := Lib.hid hb1
    have HN1 := Lib.hid hn1
    clear hb1 hn1
    refine (hAl.out _).mono ?_
    rintro e w2 ⟨rfl, hb2⟩
    have HB2 := Lib.hid (HB1.out.trans (hb2.mono hsz))
    have hs2 := HB2.out.size
    clear hb2
    by_cases h2 : a.length < 2
    · have l1 : (a.length : Int) < 2 := by omega
      ((try dsimp only); repeat (first | go_values | go_skip | go_guarded | go_step | go_upon))
      refine (hAl.out _).mono ?_
      rintro e w3 ⟨rfl, hb3⟩
      ((try dsimp only); repeat (first | go_values | go_skip | go_guarded | go_step | go_upon))
      go_ret
      exact ⟨rfl, HB2.out.trans (hb3.mono hs2)⟩
    · have l1 : ¬ (a.length : Int) < 2 := by omega
      have hw : wrap64 ((a.length : Int) + (b.length : Int)) = (a.length : Int) + (b.length : Int) := by clear HA HB HUA HUB HUP HB1 HB2 hAl; unfold wrap64; omega
      have l2 : (400 : Int) < (a.length : Int) + (b.length : Int) := by omega
      ((try dsimp only); repeat (first | go_values | go_skip | go_guarded | go_step | go_upon))
      refine (hAl.out _).mono ?_
      rintro e w3 ⟨rfl, hb3⟩
      ((try dsimp only); repeat (first | go_values | go_skip | go_guarded | go_step | go_upon))
      go_ret
      exact ⟨rfl, HB2.out.trans (hb3.mono hs2)⟩
  · have hg2 : 2 ≤ a.length ∧ a.length + b.length ≤ 400 := by omega
    have HG := Lib.hid hg2
    have l1 : ¬ (a.length : Int) < 2 := by omega
    have hw : wrap64 ((a.length : Int) + (b.length : Int)) = (a.length : Int) + (b.length : Int) := by clear HA HB HUA HUB HUP hAl HG; unfold wrap64; omega
    have l2 : ¬ (400 : Int) < (a.length : Int) + (b.length : Int) := by omega
    have l3 : 0 < a.length := by omega
    have l4 : ¬ a.length + b.length > 400 := by omega
    have l5 : ((a.length : Int) - 1).toNat = a.length - 1 := by omega
    have l6 : a.length - 1 < a.length := by omega
    have l7 : wrap64 ((a.length : Int) - 1) = (a.length : Int) - 1 := by clear HA HB HUA HUB HUP hAl HG; unfold wrap64; omega
    obtain ⟨ba, oa, rfl, hba, hpa⟩ := HA.out.open l3
    have HR : Hid (∀ wz, Below w.heap.size w wz → (wz.cell? ⟨ba, oa, none⟩ = some (.int .u64 (a.getD 0 (0, 0)).1) ∧ wz.cell? ⟨ba, oa + 1, none⟩ = some (.int .u64 (a.getD 0 (0, 0)).2)) ∧
        wz.cell? ⟨ba, oa + (a.length - 1) * 2, none⟩ = some (.int .u64 (a.getD (a.length - 1) (0, 0)).1) ∧ wz.cell? ⟨ba, oa + (a.length - 1) * 2 + 1, none⟩ = some (.int .u64 (a.getD (a.length - 1) (0, 0)).2)) :=
      Lib.hid (fun wz h => ⟨⟨(h.cell (p := ⟨ba, oa, none⟩) hba).trans (hpa 0 (by omega)).1, (h.cell (p := ⟨ba, oa + 1, none⟩) hba).trans (by have := (hpa 0 (by omega)).2; rwa [Nat.zero_mul, Nat.add_zero] at this)⟩,
        (h.cell (p := ⟨ba, oa + (a.length - 1) * 2, none⟩) hba).trans (hpa (a.length - 1) l6).1, (h.cell (p := ⟨ba, oa + (a.length - 1) * 2 + 1, none⟩) hba).trans (hpa (a.length - 1) l6).2⟩)
    generalize hx : a.getD 0 (0, 0) = x at *
    generalize hy : a.getD (a.length - 1) (0, 0) = y at *
    have HX := Lib.hid hx
    have HY := Lib.hid hy
    clear hx hy hpa hg hg2
    go_enter Tryz.func7, Tryz.ntmps7
    ((try dsimp only); repeat (first | go_values | go_skip | go_guarded | go_step | go_upon))
    have hb1 : Below w.heap.size w (w.alloc (.cells #[.int .u64 p.1, .int .u64 p.2] 38)) := (Below.refl _ _).alloc (Nat.le_refl _) _
    have hn1 := alloc_new w (.cells #[.int .u64 p.1, .int .u64 p.2] 38)
    generalize World.alloc w _ = w1 at *
    have hsz := hb1.size
    have hlt := heap_lt hn1
    have HB1 := Lib.hid hb1
    have HN1 := Lib.hid hn1
    clear hb1 hn1
    refine (hAl.out _).mono ?_
    rintro e w2 ⟨rfl, hb2⟩
    have HB2 := Lib.hid (HB1.out.trans (hb2.mono hsz))
    have HN2 := Lib.hid ((hb2.block _ hlt).trans HN1.out)
    have hs2 := HB2.out.size
    have hl2 := Nat.lt_of_lt_of_le hlt hb2.size
    obtain ⟨⟨x0, x1⟩, y0, y1⟩ := HR.out _ HB2.out
    have hb3 := HB2.out.alloc hs2 (.cells #[.int .u64 x.1, .int .u64 x.2] 38)
    have hb4 := hb3.alloc hb3.size (.cells #[.int .u64 y.1, .int .u64 y.2] 38)
    obtain ⟨_, y2, y3⟩ := HR.out _ hb3
    have hk3 := (Below.refl w2.heap.size w2).alloc (Nat.le_refl _) (.cells #[.int .u64 x.1, .int .u64 x.2] 38)
    have hk4 := hk3.alloc hk3.size (.cells #[.int .u64 y.1, .int .u64 y.2] 38)
    have hn3 := alloc_new w2 (.cells #[.int .u64 x.1, .int .u64 x.2] 38)
    have hn4 := alloc_new (w2.alloc (.cells #[.int .u64 x.1, .int .u64 x.2] 38)) (.cells #[.int .u64 y.1, .int .u64 y.2] 38)
    have hn5 := (((Below.refl _ _).alloc (Nat.le_refl _) (.cells #[.int .u64 y.1, .int .u64 y.2] 38)).block w2.heap.size (heap_lt hn3)).trans hn3
    have hn6 := (hk4.block _ hl2).trans HN2.out
    rw [World.size_alloc] at hn4
    have HB4 := Lib.hid hb4
    have HN4 := Lib.hid (And.intro hn6 (And.intro hn5 hn4))
    clear hb2 HB1 HN1 hlt hsz hk3 hk4 hn3 hn4 hn5 hn6 hb3 hb4
    ((try dsimp only); repeat (first | go_values | go_skip | go_guarded | go_step | go_upon))
    generalize World.alloc (World.alloc w2 _) _ = w4 at *
    refine (lClosed (some ⟨ba, oa, none⟩) c a _ (HA.out.keep HB4.out) (by have := HG.out; omega)).mono ?_
    rintro e w6 ⟨v9, rfl, hown9, hb5⟩
    have hC : closedL a = oneR a := by unfold closedL oneR; rw [if_neg (by omega)]
    rw [hC] at hown9
    generalize w2.heap.size = g7 at *
    have hZ : RPz w g7 p x y a v9 w6 := ⟨HB4.out.trans (hb5.mono HB4.out.size), (hb5.block _ (heap_lt HN4.out.1)).trans HN4.out.1, (hb5.block _ (heap_lt HN4.out.2.1)).trans HN4.out.2.1, (hb5.block _ (heap_lt HN4.out.2.2)).trans HN4.out.2.2, own_lower hown9 HB4.out.size⟩
    have HZ := Lib.hid hZ
    have HBk : Hid (∀ wz, Below w6.heap.size w6 wz → Below w.heap.size w wz) := Lib.hid (fun wz h => hZ.bel.trans (h.mono hZ.bel.size))
    have HL4 : Hid (b.length ≤ 100000) := Lib.hid (by have := HG.out; omega)
    have HE4 : Hid (1 + b.length = ([y] ++ b).length) := Lib.hid (by rw [List.length_append]; rfl)
    have HP4 : Hid (0 < ([y] ++ b).length ∧ ([y] ++ b).length ≤ 1000000) := Lib.hid (by have := HG.out; rw [List.length_append]; simp only [List.length_cons, List.length_nil]; omega)
    have HP5 : Hid (1 + ([y] ++ b).length ≤ 1000000) := Lib.hid (by have := HG.out; rw [List.length_append]; simp only [List.length_cons, List.length_nil]; omega)
    clear hC hown9 hb5 hZ HB4 HN4 HB2 HN2 hs2 hl2 x0 x1 y0 y1 y2 y3
    go_upto_region 6 with (fail)
    -- region 6
    refine start_ (n := 10) (S := fun w' => Below w6.heap.size w6 w') (ds := []) (bt 10 0) (by kernel_rfl) rfl rfl ((Below.refl _ _).drew) (fun hHeld => ?_)
    refine ld_ 0 56 ?_ hHeld ?_ ?_; rotate_left
    · rintro w' hs
      obtain ⟨c0, c1, _, _⟩ := rw2 (HZ.out.keep hs).c7
      obtain ⟨e0, e1, _, _⟩ := rw2 (HZ.out.keep hs).c8
      clear hs
      go_simp; with_reducible rfl
    refine ld_ 2 58 ?_ hHeld ?_ ?_; rotate_left
    · rintro w' hs
      obtain ⟨c0, c1, _, _⟩ := rw2 (HZ.out.keep hs).c7
      obtain ⟨e0, e1, _, _⟩ := rw2 (HZ.out.keep hs).c8
      clear hs
      go_simp; with_reducible rfl
    refine pv_ 3 59 ?_
    refine ld_ 6 62 ?_ hHeld ?_ ?_; rotate_left
    · rintro w' hs
      obtain ⟨c0, c1, _, _⟩ := rw2 (HZ.out.keep hs).c7
      obtain ⟨e0, e1, _, _⟩ := rw2 (HZ.out.keep hs).c8
      clear hs
      go_simp; with_reducible rfl
    refine join_ (σ := Nat × Option Addr × Nat × Value × Nat) 2 (bt 10 255) (fun s => [(57, .slice (some ⟨s.1, 0, none⟩) 1 1), (60, .slice s.2.1 ([y] ++ b).length s.2.2.1), (61, s.2.2.2.1), (63, .slice (some ⟨s.2.2.2.2, 0, none⟩) 1 1)]) (fun s w' => R6z (fun w' => Below w6.heap.size w6 w') w6.heap.size x y b true true true true s w') ?_ ?_
    rotate_left
    · intro J0
      refine join_ (σ := Nat × Option Addr × Nat × Value × Nat) 3 (bt 10 127) (fun s => [(57, .slice (some ⟨s.1, 0, none⟩) 1 1), (60, .slice s.2.1 ([y] ++ b).length s.2.2.1), (61, s.2.2.2.1)]) (fun s w' => R6z (fun w' => Below w6.heap.size w6 w') w6.heap.size x y b true true true false s w') ?_ ?_
      · rintro ⟨s1, s4, c4, s5, s7⟩ wj hF
        try dsimp only at hF ⊢
        refine na ?_
        refine o1 7 63 (bt 10 255) ?_
        · intro K hK
          refine value_ (v := .slice (some ⟨wj.heap.size, 0, none⟩) 1 1) (w1 := wj.alloc (.cells #[.int .u64 x.1, .int .u64 x.2] 38)) (by rfl) rfl ?_ ?_
          · go_simp; (try rfl)
          have hk := (Below.refl wj.heap.size wj).alloc (Nat.le_refl _) (.cells #[.int .u64 x.1, .int .u64 x.2] 38)
          have hN := hF.go7 hk (hF.h.trans (hk.mono hF.h.size)) _ (alloc_new _ _)
          refine hK.out (Act.put _ (some 63) (.slice (some ⟨wj.heap.size, 0, none⟩) 1 1)) _ (by exact hN.h) (fun hHeld => ?_)
          exact nj (J0 (s1, s4, c4, s5, wj.heap.size) _ hN)
      intro J1
      refine join_ (σ := Nat × Option Addr × Nat × Value × Nat) 3 (bt 10 223) (fun s => [(57, .slice (some ⟨s.1, 0, none⟩) 1 1), (60, .slice s.2.1 ([y] ++ b).length s.2.2.1), (63, .slice (some ⟨s.2.2.2.2, 0, none⟩) 1 1)]) (fun s w' => R6z (fun w' => Below w6.heap.size w6 w') w6.heap.size x y b true true false true s w') ?_ ?_
      · rintro ⟨s1, s4, c4, s5, s7⟩ wj hF
        try dsimp only at hF ⊢
        refine na ?_
        refine o1 5 61 (bt 10 255) ?_
        · intro K hK
          rw [if_pos (by rfl)]
          refine wp_app_new (.tmp 57) (.tmp 60) rfl rfl w6.heap.size s1 c4 x ([y] ++ b) s4 rfl rfl (hF.f1 rfl).1 (hF.f1 rfl).2 (hF.f4 rfl) HP4.out.1 HP4.out.2 hF.h.size ?_
          intro v5 w5n hown5 hk
          have hN := hF.go5 hk (hF.h.trans (hk.mono hF.h.size)) v5 hown5
          refine hK.out (Act.put _ (some 61) (v5)) _ (by exact hN.h) (fun hHeld => ?_)
          exact nj (J0 (s1, s4, c4, v5, s7) _ hN)
      intro J2
      refine join_ (σ := Nat × Option Addr × Nat × Value × Nat) 4 (bt 10 95) (fun s => [(57, .slice (some ⟨s.1, 0, none⟩) 1 1), (60, .slice s.2.1 ([y] ++ b).length s.2.2.1)]) (fun s w' => R6z (fun w' => Below w6.heap.size w6 w') w6.heap.size x y b true true false false s w') ?_ ?_
      · rintro ⟨s1, s4, c4, s5, s7⟩ wj hF
        try dsimp only at hF ⊢
        refine na ?_
        refine o2 5 61 7 63 (bt 10 127) (bt 10 223) ?_ ?_
        · intro K hK
          rw [if_pos (by rfl)]
          refine wp_app_new (.tmp 57) (.tmp 60) rfl rfl w6.heap.size s1 c4 x ([y] ++ b) s4 rfl rfl (hF.f1 rfl).1 (hF.f1 rfl).2 (hF.f4 rfl) HP4.out.1 HP4.out.2 hF.h.size ?_
          intro v5 w5n hown5 hk
          have hN := hF.go5 hk (hF.h.trans (hk.mono hF.h.size)) v5 hown5
          refine hK.out (Act.put _ (some 61) (v5)) _ (by exact hN.h) (fun hHeld => ?_)
          exact nj (J1 (s1, s4, c4, v5, s7) _ hN)
        · intro K hK
          refine value_ (v := .slice (some ⟨wj.heap.size, 0, none⟩) 1 1) (w1 := wj.alloc (.cells #[.int .u64 x.1, .int .u64 x.2] 38)) (by rfl) rfl ?_ ?_
          · go_simp; (try rfl)
          have hk := (Below.refl wj.heap.size wj).alloc (Nat.le_refl _) (.cells #[.int .u64 x.1, .int .u64 x.2] 38)
          have hN := hF.go7 hk (hF.h.trans (hk.mono hF.h.size)) _ (alloc_new _ _)
          refine hK.out (Act.put _ (some 63) (.slice (some ⟨wj.heap.size, 0, none⟩) 1 1)) _ (by exact hN.h) (fun hHeld => ?_)
          exact nj (J2 (s1, s4, c4, s5, wj.heap.size) _ hN)
      intro J3
      refine join_ (σ := Nat × Option Addr × Nat × Value × Nat) 4 (bt 10 207) (fun s => [(57, .slice (some ⟨s.1, 0, none⟩) 1 1), (63, .slice (some ⟨s.2.2.2.2, 0, none⟩) 1 1)]) (fun s w' => R6z (fun w' => Below w6.heap.size w6 w') w6.heap.size x y b true false false true s w') ?_ ?_
      · rintro ⟨s1, s4, c4, s5, s7⟩ wj hF
        try dsimp only at hF ⊢
        refine na ?_
        refine o1 4 60 (bt 10 223) ?_
        · intro K hK
          refine go_ Tryz.func36 #[.agg #[.int .u64 y.1, .int .u64 y.2], .slice B b.length d] ?_
          with_reducible refine (lClosedWith B d b y _ (HB.out.keep (HBk.out _ hF.h)) HL4.out).mono ?_
          rintro e w' ⟨v, rfl, hown4, hk⟩
          rw [HE4.out] at hown4
          obtain ⟨A4, k4, rfl⟩ := own_form hown4
          refine ⟨_, rfl, ?_⟩
          have hN := hF.go4 hk (hF.h.trans (hk.mono hF.h.size)) A4 k4 (own_pts hown4 rfl)
          refine hK.out _ _ (by exact hN.h) (fun hHeld => ?_)
          exact nj (J2 (s1, A4, k4, s5, s7) _ hN)
      intro J4
      refine join_ (σ := Nat × Option Addr × Nat × Value × Nat) 4 (bt 10 221) (fun s => [(60, .slice s.2.1 ([y] ++ b).length s.2.2.1), (63, .slice (some ⟨s.2.2.2.2, 0, none⟩) 1 1)]) (fun s w' => R6z (fun w' => Below w6.heap.size w6 w') w6.heap.size x y b false true false true s w') ?_ ?_
      · rintro ⟨s1, s4, c4, s5, s7⟩ wj hF
        try dsimp only at hF ⊢
        refine na ?_
        refine o1 1 57 (bt 10 223) ?_
        · intro K hK
          refine value_ (v := .slice (some ⟨wj.heap.size, 0, none⟩) 1 1) (w1 := wj.alloc (.cells #[.int .u64 x.1, .int .u64 x.2] 38)) (by rfl) rfl ?_ ?_
          · go_simp; (try rfl)
          have hk := (Below.refl wj.heap.size wj).alloc (Nat.le_refl _) (.cells #[.int .u64 x.1, .int .u64 x.2] 38)
          have hN := hF.go1 hk (hF.h.trans (hk.mono hF.h.size)) _ (alloc_new _ _) hF.h.size
          refine hK.out (Act.put _ (some 57) (.slice (some ⟨wj.heap.size, 0, none⟩) 1 1)) _ (by exact hN.h) (fun hHeld => ?_)
          exact nj (J2 (wj.heap.size, s4, c4, s5, s7) _ hN)
      intro J5
      refine join_ (σ := Nat × Option Addr × Nat × Value × Nat) 5 (bt 10 79) (fun s => [(57, .slice (some ⟨s.1, 0, none⟩) 1 1)]) (fun s w' => R6z (fun w' => Below w6.heap.size w6 w') w6.heap.size x y b true false false false s w') ?_ ?_
      · rintro ⟨s1, s4, c4, s5, s7⟩ wj hF
        try dsimp only at hF ⊢
        refine na ?_
        refine o2 4 60 7 63 (bt 10 95) (bt 10 207) ?_ ?_
        · intro K hK
          refine go_ Tryz.func36 #[.agg #[.int .u64 y.1, .int .u64 y.2], .slice B b.length d] ?_
          with_reducible refine (lClosedWith B d b y _ (HB.out.keep (HBk.out _ hF.h)) HL4.out).mono ?_
          rintro e w' ⟨v, rfl, hown4, hk⟩
          rw [HE4.out] at hown4
          obtain ⟨A4, k4, rfl⟩ := own_form hown4
          refine ⟨_, rfl, ?_⟩
          have hN := hF.go4 hk (hF.h.trans (hk.mono hF.h.size)) A4 k4 (own_pts hown4 rfl)
          refine hK.out _ _ (by exact hN.h) (fun hHeld => ?_)
          exact nj (J3 (s1, A4, k4, s5, s7) _ hN)
        · intro K hK
          refine value_ (v := .slice (some ⟨wj.heap.size, 0, none⟩) 1 1) (w1 := wj.alloc (.cells #[.int .u64 x.1, .int .u64 x.2] 38)) (by rfl) rfl ?_ ?_
          · go_simp; (try rfl)
          have hk := (Below.refl wj.heap.size wj).alloc (Nat.le_refl _) (.cells #[.int .u64 x.1, .int .u64 x.2] 38)
          have hN := hF.go7 hk (hF.h.trans (hk.mono hF.h.size)) _ (alloc_new _ _)
          refine hK.out (Act.put _ (some 63) (.slice (some ⟨wj.heap.size, 0, none⟩) 1 1)) _ (by exact hN.h) (fun hHeld => ?_)
          exact nj (J4 (s1, s4, c4, s5, wj.heap.size) _ hN)
      intro J6
      refine join_ (σ := Nat × Option Addr × Nat × Value × Nat) 5 (bt 10 93) (fun s => [(60, .slice s.2.1 ([y] ++ b).length s.2.2.1)]) (fun s w' => R6z (fun w' => Below w6.heap.size w6 w') w6.heap.size x y b false true false false s w') ?_ ?_
      · rintro ⟨s1, s4, c4, s5, s7⟩ wj hF
        try dsimp only at hF ⊢
        refine na ?_
        refine o2 1 57 7 63 (bt 10 95) (bt 10 221) ?_ ?_
        · intro K hK
          refine value_ (v := .slice (some ⟨wj.heap.size, 0, none⟩) 1 1) (w1 := wj.alloc (.cells #[.int .u64 x.1, .int .u64 x.2] 38)) (by rfl) rfl ?_ ?_
          · go_simp; (try rfl)
          have hk := (Below.refl wj.heap.size wj).alloc (Nat.le_refl _) (.cells #[.int .u64 x.1, .int .u64 x.2] 38)
          have hN := hF.go1 hk (hF.h.trans (hk.mono hF.h.size)) _ (alloc_new _ _) hF.h.size
          refine hK.out (Act.put _ (some 57) (.slice (some ⟨wj.heap.size, 0, none⟩) 1 1)) _ (by exact hN.h) (fun hHeld => ?_)
          exact nj (J3 (wj.heap.size, s4, c4, s5, s7) _ hN)
        · intro K hK
          refine value_ (v := .slice (some ⟨wj.heap.size, 0, none⟩) 1 1) (w1 := wj.alloc (.cells #[.int .u64 x.1, .int .u64 x.2] 38)) (by rfl) rfl ?_ ?_
          · go_simp; (try rfl)
          have hk := (Below.refl wj.heap.size wj).alloc (Nat.le_refl _) (.cells #[.int .u64 x.1, .int .u64 x.2] 38)
          have hN := hF.go7 hk (hF.h.trans (hk.mono hF.h.size)) _ (alloc_new _ _)
          refine hK.out (Act.put _ (some 63) (.slice (some ⟨wj.heap.size, 0, none⟩) 1 1)) _ (by exact hN.h) (fun hHeld => ?_)
          exact nj (J5 (s1, s4, c4, s5, wj.heap.size) _ hN)
      intro J7
      refine join_ (σ := Nat × Option Addr × Nat × Value × Nat) 5 (bt 10 205) (fun s => [(63, .slice (some ⟨s.2.2.2.2, 0, none⟩) 1 1)]) (fun s w' => R6z (fun w' => Below w6.heap.size w6 w') w6.heap.size x y b false false false true s w') ?_ ?_
      · rintro ⟨s1, s4, c4, s5, s7⟩ wj hF
        try dsimp only at hF ⊢
        refine na ?_
        refine o2 1 57 4 60 (bt 10 207) (bt 10 221) ?_ ?_
        · intro K hK
          refine value_ (v := .slice (some ⟨wj.heap.size, 0, none⟩) 1 1) (w1 := wj.alloc (.cells #[.int .u64 x.1, .int .u64 x.2] 38)) (by rfl) rfl ?_ ?_
          · go_simp; (try rfl)
          have hk := (Below.refl wj.heap.size wj).alloc (Nat.le_refl _) (.cells #[.int .u64 x.1, .int .u64 x.2] 38)
          have hN := hF.go1 hk (hF.h.trans (hk.mono hF.h.size)) _ (alloc_new _ _) hF.h.size
          refine hK.out (Act.put _ (some 57) (.slice (some ⟨wj.heap.size, 0, none⟩) 1 1)) _ (by exact hN.h) (fun hHeld => ?_)
          exact nj (J4 (wj.heap.size, s4, c4, s5, s7) _ hN)
        · intro K hK
          refine go_ Tryz.func36 #[.agg #[.int .u64 y.1, .int .u64 y.2], .slice B b.length d] ?_
          with_reducible refine (lClosedWith B d b y _ (HB.out.keep (HBk.out _ hF.h)) HL4.out).mono ?_
          rintro e w' ⟨v, rfl, hown4, hk⟩
          rw [HE4.out] at hown4
          obtain ⟨A4, k4, rfl⟩ := own_form hown4
          refine ⟨_, rfl, ?_⟩
          have hN := hF.go4 hk (hF.h.trans (hk.mono hF.h.size)) A4 k4 (own_pts hown4 rfl)
          refine hK.out _ _ (by exact hN.h) (fun hHeld => ?_)
          exact nj (J5 (s1, A4, k4, s5, s7) _ hN)
      intro J8
      refine join_ (σ := Nat × Option Addr × Nat × Value × Nat) 6 (bt 10 77) (fun s => []) (fun s w' => R6z (fun w' => Below w6.heap.size w6 w') w6.heap.size x y b false false false false s w') ?_ ?_
      · rintro ⟨s1, s4, c4, s5, s7⟩ wj hF
        try dsimp only at hF ⊢
        refine na ?_
        refine o3 1 57 4 60 7 63 (bt 10 79) (bt 10 93) (bt 10 205) ?_ ?_ ?_
        · intro K hK
          refine value_ (v := .slice (some ⟨wj.heap.size, 0, none⟩) 1 1) (w1 := wj.alloc (.cells #[.int .u64 x.1, .int .u64 x.2] 38)) (by rfl) rfl ?_ ?_
          · go_simp; (try rfl)
          have hk := (Below.refl wj.heap.size wj).alloc (Nat.le_refl _) (.cells #[.int .u64 x.1, .int .u64 x.2] 38)
          have hN := hF.go1 hk (hF.h.trans (hk.mono hF.h.size)) _ (alloc_new _ _) hF.h.size
          refine hK.out (Act.put _ (some 57) (.slice (some ⟨wj.heap.size, 0, none⟩) 1 1)) _ (by exact hN.h) (fun hHeld => ?_)
          exact nj (J6 (wj.heap.size, s4, c4, s5, s7) _ hN)
        · intro K hK
          refine go_ Tryz.func36 #[.agg #[.int .u64 y.1, .int .u64 y.2], .slice B b.length d] ?_
          with_reducible refine (lClosedWith B d b y _ (HB.out.keep (HBk.out _ hF.h)) HL4.out).mono ?_
          rintro e w' ⟨v, rfl, hown4, hk⟩
          rw [HE4.out] at hown4
          obtain ⟨A4, k4, rfl⟩ := own_form hown4
          refine ⟨_, rfl, ?_⟩
          have hN := hF.go4 hk (hF.h.trans (hk.mono hF.h.size)) A4 k4 (own_pts hown4 rfl)
          refine hK.out _ _ (by exact hN.h) (fun hHeld => ?_)
          exact nj (J7 (s1, A4, k4, s5, s7) _ hN)
        · intro K hK
          refine value_ (v := .slice (some ⟨wj.heap.size, 0, none⟩) 1 1) (w1 := wj.alloc (.cells #[.int .u64 x.1, .int .u64 x.2] 38)) (by rfl) rfl ?_ ?_
          · go_simp; (try rfl)
          have hk := (Below.refl wj.heap.size wj).alloc (Nat.le_refl _) (.cells #[.int .u64 x.1, .int .u64 x.2] 38)
          have hN := hF.go7 hk (hF.h.trans (hk.mono hF.h.size)) _ (alloc_new _ _)
          refine hK.out (Act.put _ (some 63) (.slice (some ⟨wj.heap.size, 0, none⟩) 1 1)) _ (by exact hN.h) (fun hHeld => ?_)
          exact nj (J8 (s1, s4, c4, s5, wj.heap.size) _ hN)
      intro J9
      exact nj (J9 (0, none, 0, .bool false, 0) _ ⟨hHeld, (fun e => by cases e), (fun e => by cases e), (fun e => by cases e), (fun e => by cases e)⟩)
    rintro ⟨s1, s4, c4, s5, s7⟩ w7 hF
    try dsimp only at hF ⊢
    refine na ?_
    refine one_ (i := 8) (N := some 64) (bt 10 511) rfl rfl (by kernel_rfl) (by decide) (fun K hK => ?_)
    rw [if_pos (by rfl)]
    refine wp_app_pts (.tmp 61) (.tmp 63) rfl rfl w6.heap.size (1 + ([y] ++ b).length) 1 s5 ([x] ++ ([y] ++ b)) [x] (some ⟨s7, 0, none⟩) rfl rfl (hF.f5 rfl) (Or.inr ⟨s7, 0, rfl, heap_lt (hF.f7 rfl), pts_one (hF.f7 rfl)⟩) HP5.out (by simp) hF.h.size ?_
    intro v10 w8 hown10 hgr
    have hk8 := ownsRow_below (hF.f5 rfl) hF.h hF.h.size hgr
    refine hK.out (Act.put _ (some 64) v10) _ hk8 (fun hHeld => ?_)
    clear hK K
    refine nn ?_
    refine pv_ 9 10 ?_
    refine done_ (by kernel_rfl) ?_
    -- behind region 6
    have hT : [x] ++ ([y] ++ b) ++ [x] = twoR a b := by unfold twoR; rw [HX.out, HY.out]
    rw [hT] at hown10
    have hT2 : 1 + ([y] ++ b).length + [x].length = (twoR a b).length := by rw [← hT]; simp only [List.length_append, List.length_cons, List.length_nil]
    rw [hT2] at hown10
    have HZ8 := Lib.hid (And.intro (HZ.out.keep hk8) hown10)
    have HB8 := Lib.hid (HBk.out _ hk8)
    clear hT hT2 hown10 hgr hF hk8 HBk HZ HL4 HE4 HP4 HP5
    have hk9 : Below w8.heap.size w8 (w8.alloc (.cells #[] 38)) := (Below.refl _ _).alloc (Nat.le_refl _) _
    have hO1 : (w8.alloc (.cells #[] 38)).ownsRow w8.heap.size 38 2 (.slice (some ⟨w8.heap.size, 0, none⟩) 0 0) 0 (ptC []) := own_none (alloc_new _ _) (Nat.le_refl _)
    have hP1 : PtsIn (w8.alloc (.cells #[] 38)) (some ⟨ba, oa, none⟩) a := (HA.out.keep HB8.out).keep hk9
    have hs9 := hk9.size
    have hla1 : a.length ≤ 1000000 := by have := HG.out; omega
    have hlb1 : b.length ≤ 1000000 := by have := HG.out; omega
    ((try dsimp only); repeat (first | (with_reducible refine wpList_app_pts rfl (.tmp 65) (.tmp 66) rfl rfl w8.heap.size 0 c (.slice (some ⟨w8.heap.size, 0, none⟩) 0 0) [] a (some ⟨ba, oa, none⟩) rfl rfl hO1 hP1 (by omega) hla1 hs9 ?_) | go_values | go_skip | go_guarded | go_step | go_upon))
    intro v67 w10 hown10 hgr
    have hk10 := ownsRow_below hO1 hk9 hs9 hgr
    have hP2 : PtsIn w10 B b := (HB.out.keep HB8.out).keep hk10
    have hs10 := hk10.size
    have hla2 : 0 + a.length ≤ 1000000 := by omega
    clear hgr hO1 hk9 hs9 hP1
    ((try dsimp only); repeat (first | (with_reducible refine wpList_app_pts rfl (.tmp 67) (.tmp 68) rfl rfl w8.heap.size (0 + a.length) d v67 ([] ++ a) b B rfl rfl hown10 hP2 hla2 hlb1 hs10 ?_) | go_values | go_skip | go_guarded | go_step | go_upon))
    intro v69 w11 hown11 hgr
    have hk11 := ownsRow_below hown10 hk10 hs10 hgr
    have hs11 := hk11.size
    have hk12 := hk11.alloc hs11 (.cells #[.int .u64 x.1, .int .u64 x.2] 38)
    have hO2 := World.ownsRow.alloc hown11 (.cells #[.int .u64 x.1, .int .u64 x.2] 38)
    have hn12 := alloc_new w11 (.cells #[.int .u64 x.1, .int .u64 x.2] 38)
    have hP3 : PtsIn (w11.alloc (.cells #[.int .u64 x.1, .int .u64 x.2] 38)) (some ⟨w11.heap.size, 0, none⟩) [x] := Or.inr ⟨_, 0, rfl, heap_lt hn12, pts_one hn12⟩
    have hs12 := hk12.size
    obtain ⟨c0, c1, _, _⟩ := rw2 ((HZ8.out.1.keep hk11).c7)
    have hla3 : 0 + a.length + b.length ≤ 1000000 := by have := HG.out; omega
    have hone : [x].length ≤ 1000000 := by simp
    clear hgr hown10 hk10 hs10 hP2 hown11
    ((try dsimp only); repeat (first | (with_reducible refine wpList_app_pts rfl (.tmp 70) (.tmp 72) rfl rfl w8.heap.size (0 + a.length + b.length) 1 v69 ([] ++ a ++ b) [x] (some ⟨w11.heap.size, 0, none⟩) rfl rfl hO2 hP3 hla3 hone hs12 ?_) | go_values | go_skip | go_guarded | go_step | go_upon))
    intro v73 w13 hown13 hgr
    have hk13 := ownsRow_below hO2 hk12 hs12 hgr
    have hW : [] ++ a ++ b ++ [x] = wholeR a b := by unfold wholeR; rw [HX.out]; rfl
    rw [hW] at hown13
    have hW2 : 0 + a.length + b.length + [x].length = (wholeR a b).length := by rw [← hW]; simp only [List.length_append, List.length_cons, List.length_nil]
    rw [hW2] at hown13
    have HZ13 := Lib.hid (And.intro (HZ8.out.1.keep hk13) (And.intro (ownsRow_keep HZ8.out.2 hk13) hown13))
    clear hW hW2 hown13 hgr hk13 hO2 hP3 hk12 hs12 hk11 hs11 hn12 c0 c1 HZ8 HB8 hla2 hla3 hone
    obtain ⟨A1, c1, rfl⟩ := own_form HZ13.out.1.one
    obtain ⟨A2, c2, rfl⟩ := own_form HZ13.out.2.1
    obtain ⟨A3, c3, rfl⟩ := own_form HZ13.out.2.2
    have HP : Hid (∀ wz, Below w13.heap.size w13 wz → PtsIn wz A1 (oneR a) ∧ PtsIn wz A2 (twoR a b) ∧ PtsIn wz A3 (wholeR a b)) := Lib.hid (fun wz h => ⟨(own_pts HZ13.out.1.one rfl).keep h, (own_pts HZ13.out.2.1 rfl).keep h, (own_pts HZ13.out.2.2 rfl).keep h⟩)
    have HL : Hid ((oneR a).length ≤ 1000000 ∧ (twoR a b).length ≤ 1000000 ∧ (wholeR a b).length ≤ 1000000) := Lib.hid (by
      have := HG.out
      unfold oneR twoR wholeR
      simp only [List.length_append, List.length_cons, List.length_nil]
      omega)
    have HU : Hid ((∀ q ∈ oneR a, PtU q) ∧ (∀ q ∈ twoR a b, PtU q) ∧ (∀ q ∈ wholeR a b, PtU q)) := Lib.hid (by
      have ux := HUA.out _ (getD_mem l3)
      have uy := HUA.out _ (getD_mem l6)
      refine ⟨fun q hq => ?_, fun q hq => ?_, fun q hq => ?_⟩
      · unfold oneR at hq
        simp only [List.mem_append, List.mem_singleton] at hq
        rcases hq with h | rfl
        · exact HUA.out _ h
        · exact ux
      · unfold twoR at hq
        simp only [List.mem_append, List.mem_singleton] at hq
        rcases hq with (rfl | rfl | h) | rfl
        · exact ux
        · exact uy
        · exact HUB.out _ h
        · exact ux
      · unfold wholeR at hq
        simp only [List.mem_append, List.mem_singleton] at hq
        rcases hq with (h | h) | rfl
        · exact HUA.out _ h
        · exact HUB.out _ h
        · exact ux)
    have HB13 := Lib.hid HZ13.out.1.bel
    have HC5 := Lib.hid HZ13.out.1.c5
    have hs13 := HZ13.out.1.bel.size
    clear HZ13
    ((try dsimp only); repeat (first | go_values | go_skip | go_guarded | go_step | go_upon))
    refine (area_any A1 c1 (oneR a) _ (HP.out _ (Below.refl _ _)).1 HL.out.1 HU.out.1).mono ?_
    rintro e w14 ⟨z1, E1, n1, n1', F1, m1, m1', rfl, hq1, hb14⟩
    ((try dsimp only); repeat (first | go_values | go_skip | go_guarded | go_step | go_upon))
    have hk1 := hb14.alloc hb14.size (.cells #[.bool z1, .slice E1 n1 n1', .slice F1 m1 m1'] 26)
    have hr1 := alloc_new w14 (.cells #[.bool z1, .slice E1 n1 n1', .slice F1 m1 m1'] 26)
    have hkk1 : Below w14.heap.size w14 (w14.alloc (.cells #[.bool z1, .slice E1 n1 n1', .slice F1 m1 m1'] 26)) := (Below.refl _ _).alloc (Nat.le_refl _) _
    generalize World.alloc w14 _ = w15 at *
    generalize hr14 : w14.heap.size = r1 at *
    refine (area_any A2 c2 (twoR a b) _ (HP.out _ hk1).2.1 HL.out.2.1 HU.out.2.1).mono ?_
    rintro e w16 ⟨z2, E2, n2, n2', F2, m2, m2', rfl, hq2, hb16⟩
    ((try dsimp only); repeat (first | go_values | go_skip | go_guarded | go_step | go_upon))
    have hk2 := hb16.alloc hb16.size (.cells #[.bool z2, .slice E2 n2 n2', .slice F2 m2 m2'] 26)
    have hr2 := alloc_new w16 (.cells #[.bool z2, .slice E2 n2 n2', .slice F2 m2 m2'] 26)
    have hkk2 : Below w16.heap.size w16 (w16.alloc (.cells #[.bool z2, .slice E2 n2 n2', .slice F2 m2 m2'] 26)) := (Below.refl _ _).alloc (Nat.le_refl _) _
    generalize World.alloc w16 _ = w17 at *
    generalize hr16 : w16.heap.size = r2 at *
    have hK2 := hk1.trans (hk2.mono hk1.size)
    refine (area_any A3 c3 (wholeR a b) _ (HP.out _ hK2).2.2 HL.out.2.2 HU.out.2.2).mono ?_
    rintro e w18 ⟨z3, E3, n3, n3', F3, m3, m3', rfl, hq3, hb18⟩
    have hK3 := hK2.trans (hb18.mono hK2.size)
    have hK4 := hK3.alloc hK3.size (.cells #[.bool z3, .slice E3 n3 n3', .slice F3 m3 m3'] 26)
    have HE : Hid (chkE (oneR a) [] = (if (finB a && finB []) = true then 0 else 220) ∧ chkE (twoR a b) [] = (if (finB [a.getD 0 (0, 0), a.getD (a.length - 1) (0, 0)] && finB b && finB []) = true then 0 else 220)) :=
      Lib.hid ⟨one_chk l3 (by have := HG.out; omega), two_chk l3 (by have := HG.out; omega)⟩
    have HW := Lib.hid (HB13.out.trans (hK4.mono hs13))
    by_cases fa : finB a = true
    · by_cases fb : finB b = true
      · have E1' : chkE (oneR a) [] = 0 := by rw [HE.out.1, fa]; rfl
        have E2' : chkE (twoR a b) [] = 0 := by rw [HE.out.2, ends_fin l3 fa, fb]; rfl
        have E3' : chkE (wholeR a b) [] = 0 := by rw [whole_chk l3 (by have := HG.out; omega), fa, fb]; rfl
        obtain ⟨g1, f1⟩ := hq1 E1'
        obtain ⟨g2, f2⟩ := hq2 E2'
        obtain ⟨g3, f3⟩ := hq3 E3'
        have k1 := chk_ok HU.out.1 no_more E1'
        have k2 := chk_ok HU.out.2.1 no_more E2'
        have Z1 : Sz 4210 (sumE crs (edgesR (oneR a))) := area_szE (edges_fin k1.2.2.1) (by unfold edgesR; rw [edgesU_len]; omega)
        have Z2 : Sz 4210 (sumE crs (edgesR (twoR a b))) := area_szE (edges_fin k2.2.2.1) (by unfold edgesR; rw [edgesU_len]; omega)
        have k3 := chk_ok HU.out.2.2 no_more E3'
        have Z3 : Sz 4210 (sumE crs (edgesR (wholeR a b))) := area_szE (edges_fin k3.2.2.1) (by unfold edgesR; rw [edgesU_len]; omega)
        have hsum := parts_area b l3
        have HWv := Lib.hid (parts_windV p l3 HG.out.2 fa fb)
        rw [E1', E2', E3']
        generalize sumE crs (edgesR (oneR a)) = S1 at *
        generalize sumE crs (edgesR (twoR a b)) = S2 at *
        generalize sumE crs (edgesR (wholeR a b)) = S3 at *
        unfold qv at g1 g2 g3
        simp only [Value.agg.injEq, Array.mk.injEq, List.cons.injEq, Value.bool.injEq, Value.slice.injEq, true_and, and_true] at g1 g2 g3
        obtain ⟨rfl, ⟨rfl, rfl⟩, rfl, rfl⟩ := g1
        obtain ⟨rfl, ⟨rfl, rfl⟩, rfl, rfl⟩ := g2
        obtain ⟨rfl, ⟨rfl, rfl⟩, rfl, rfl⟩ := g3
        have hb19 : Below w18.heap.size w18 (w18.alloc (.cells #[.bool (decide (Rat.num S3 < 0)), .slice E3 (qn S3).length (qn S3).length, .slice F3 (qd S3).length (qd S3).length] 26)) := (Below.refl _ _).alloc (Nat.le_refl _) _
        have hr3 := alloc_new w18 (.cells #[.bool (decide (Rat.num S3 < 0)), .slice E3 (qn S3).length (qn S3).length, .slice F3 (qd S3).length (qd S3).length] 26)
        have b15 : Below w15.heap.size w15 (w18.alloc (.cells #[.bool (decide (Rat.num S3 < 0)), .slice E3 (qn S3).length (qn S3).length, .slice F3 (qd S3).length (qd S3).length] 26)) := (hb16.trans ((hkk2.mono (by have := hb16.size; omega)).trans (hb18.mono (Nat.le_trans hb16.size hkk2.size)))).trans (hb19.mono (Nat.le_trans (Nat.le_trans hb16.size hkk2.size) hb18.size))
        have b17 : Below w17.heap.size w17 (w18.alloc (.cells #[.bool (decide (Rat.num S3 < 0)), .slice E3 (qn S3).length (qn S3).length, .slice F3 (qd S3).length (qd S3).length] 26)) := hb18.trans (hb19.mono hb18.size)
        have m1 := (f1.ins.keep (Keep.of hkk1 (by omega))).keep (Keep.of b15 (by have := hkk1.size; omega))
        have m2 := (f2.ins.keep (Keep.of hkk2 (by omega))).keep (Keep.of b17 (by have := hkk2.size; omega))
        have m3 := f3.ins.keep (Keep.of hb19 (Nat.le_refl _))
        obtain ⟨a0, a1, a2, _, _, _⟩ := rw3 ((b15.block _ (heap_lt hr1)).trans hr1)
        obtain ⟨d0, d1, d2, _, _, _⟩ := rw3 ((b17.block _ (heap_lt hr2)).trans hr2)
        have HM := Lib.hid (And.intro (m1.wide (Nat.zero_le _) (Nat.le_trans hkk1.size b15.size)) (And.intro (m2.wide (Nat.zero_le _) (Nat.le_trans hkk2.size b17.size)) (m3.wide (Nat.zero_le _) hb19.size)))
        have HZs := Lib.hid (And.intro Z1 (And.intro Z2 Z3))
        have HSum := Lib.hid hsum
        have HKb := Lib.hid (And.intro b15 (And.intro b17 hb19))
        have hsW := HW.out.size
        have HR3 := Lib.hid hr3
        have HK4 := Lib.hid hK4
        clear m1 m2 m3 Z1 Z2 Z3 hsum b15 b17 k1 k2 k3 hq1 hq2 hq3 f1 f2 f3 E1' E2' E3' HE hb14 hb16 hb18 hk1 hk2 hkk1 hkk2 hK2 hK3 hK4 hr1 hr2 hr3 hb19 fa fb hAl hr14 hr16
        ((try dsimp only); repeat (first | go_values | go_skip | go_guarded | go_step | go_upon))
        refine (rAddQ E1 F1 E2 F2 0 _ 4210 4210 S1 S2 _ HM.out.1 HM.out.2.1 (Nat.le_refl _) HZs.out.1 HZs.out.2.1 (by omega)).mono ?_
        rintro e w20 ⟨E4, F4, rfl, f4, hb20⟩
        rw [HSum.out] at f4 ⊢
        have HF4 := Lib.hid (And.intro f4 hb20)
        clear f4 hb20
        unfold qv
        have hb21 := HF4.out.2.alloc HF4.out.2.size (.cells #[.bool (decide (Rat.num S3 < 0)), .slice E4 (qn S3).length (qn S3).length, .slice F4 (qd S3).length (qd S3).length] 26)
        obtain ⟨a0, a1, a2, _, _, _⟩ := rw3 ((hb21.block _ (heap_lt HR3.out)).trans HR3.out)
        have M3 := HM.out.2.2.keep (Keep.of hb21 (Nat.le_refl _))
        have M4 := (HF4.out.1.ins.keep (Keep.of ((Below.refl _ _).alloc (Nat.le_refl _) (.cells #[.bool (decide (Rat.num S3 < 0)), .slice E4 (qn S3).length (qn S3).length, .slice F4 (qd S3).length (qd S3).length] 26)) (Nat.le_refl _)))
        have L3 := (HZs.out.2.2).lens (by omega)
        have HN := Lib.hid (And.intro M3 (And.intro M4 (And.intro hb21 L3)))
        clear M3 M4 hb21 L3
        ((try dsimp only); repeat (first | go_values | go_skip | go_guarded | go_step | go_upon))
        refine (lSameRat E4 F4 E3 F3 _ _ _ _ S3 _ HN.out.2.1 HN.out.1 (by rw [World.size_alloc]; omega) HN.out.2.2.1.size HN.out.2.2.2).mono ?_
        rintro e w22 ⟨rfl, hb22⟩
        have hK6 := (HK4.out.trans (HN.out.2.2.1.mono HK4.out.size)).trans (hb22.mono (Nat.le_trans HK4.out.size HN.out.2.2.1.size))
        obtain ⟨p0, p1, _, _⟩ := rw2 ((hK6.block _ (heap_lt HC5.out)).trans HC5.out)
        have HK6 := Lib.hid hK6
        clear hK6 hb22
        ((try dsimp only); repeat (first | go_values | go_skip | go_guarded | go_step | go_upon))
        refine (gWinding A1 c1 (oneR a) p _ (HP.out _ HK6.out).1 HL.out.1 HU.out.1 HUP.out).mono ?_
        rintro e w23 ⟨rfl, hb23⟩
        have hK7 := HK6.out.trans (hb23.mono HK6.out.size)
        obtain ⟨p0, p1, _, _⟩ := rw2 ((hK7.block _ (heap_lt HC5.out)).trans HC5.out)
        have HK7 := Lib.hid hK7
        clear hK7 hb23
        ((try dsimp only); repeat (first | go_values | go_skip | go_guarded | go_step | go_upon))
        refine (gWinding A2 c2 (twoR a b) p _ (HP.out _ HK7.out).2.1 HL.out.2.1 HU.out.2.1 HUP.out).mono ?_
        rintro e w24 ⟨rfl, hb24⟩
        have hK8 := HK7.out.trans (hb24.mono HK7.out.size)
        obtain ⟨p0, p1, _, _⟩ := rw2 ((hK8.block _ (heap_lt HC5.out)).trans HC5.out)
        have HK8 := Lib.hid hK8
        clear hK8 hb24
        ((try dsimp only); repeat (first | go_values | go_skip | go_guarded | go_step | go_upon))
        refine (gWinding A3 c3 (wholeR a b) p _ (HP.out _ HK8.out).2.2 HL.out.2.2 HU.out.2.2 HUP.out).mono ?_
        rintro e w25 ⟨rfl, hb25⟩
        have HFn := Lib.hid (HB13.out.trans ((HK8.out.trans (hb25.mono HK8.out.size)).mono hs13))
        have r1 := windV_range (oneR a) p HL.out.1
        have r2 := windV_range (twoR a b) p HL.out.2.1
        obtain ⟨c1, c2⟩ := HWv.out
        clear hb25 HK6 HK7 HK8 HWv HP HL HU HC5 HW HR3 HK4 HN HF4 HM HZs HSum HKb HB13 HA HB HUA HUB HUP
        generalize windV (oneR a) p = V1 at *
        generalize windV (twoR a b) p = V2 at *
        generalize windV (wholeR a b) p = V3 at *
        obtain ⟨n1, i1, h1⟩ := V1
        obtain ⟨n2, i2, h2⟩ := V2
        obtain ⟨n3, i3, h3⟩ := V3
        dsimp only at c1 c2 r1 r2 ⊢
        by_cases fp : finB [p] = true
        · obtain ⟨rfl, rfl, rfl, hor⟩ := c2 fp
          have hw2 : wrap64 (n1 + n2) = n1 + n2 := by unfold wrap64; omega
          clear c1 c2 r1 r2 fp
          cases i1
          · cases i2
            · cases i3
              · have e : (n3 == wrap64 (n1 + n2)) = true := by
                  rw [hw2, beq_iff_eq]
                  simpa using hor
                clear hor hw2
                ((try dsimp only); repeat (first | go_values | go_skip | go_guarded | go_step | go_upon))
                go_ret
                exact ⟨rfl, HFn.out⟩
              · ((try dsimp only); repeat (first | go_values | go_skip | go_guarded | go_step | go_upon))
                go_ret
                exact ⟨rfl, HFn.out⟩
            · ((try dsimp only); repeat (first | go_values | go_skip | go_guarded | go_step | go_upon))
              go_ret
              exact ⟨rfl, HFn.out⟩
          · ((try dsimp only); repeat (first | go_values | go_skip | go_guarded | go_step | go_upon))
            go_ret
            exact ⟨rfl, HFn.out⟩
        · obtain ⟨rfl, rfl, rfl⟩ := c1 (by rwa [Bool.not_eq_true] at fp)
          clear c1 c2 r1 r2 fp
          ((try dsimp only); repeat (first | go_values | go_skip | go_guarded | go_step | go_upon))
          go_ret
          exact ⟨rfl, HFn.out⟩
      · have E1 : chkE (oneR a) [] = 0 := by rw [HE.out.1, fa]; rfl
        have E2 : chkE (twoR a b) [] = 220 := by
          rw [HE.out.2, Bool.eq_false_iff.2 fb, Bool.and_false]; rfl
        have HFa : Hid (∀ wz, Below w.heap.size w wz → Calls Tryz.prog 37 #[.slice (some ⟨ba, oa, none⟩) a.length c] wz fun e w' => e = .returned (.bool true) ∧ Below wz.heap.size wz w') := Lib.hid (fun wz h => by
          have := f24Finite (some ⟨ba, oa, none⟩) c a wz (HA.out.keep h) hla1 HUA.out
          rwa [fa] at this)
        have HFb : Hid (∀ wz, Below w.heap.size w wz → Calls Tryz.prog 37 #[.slice B b.length d] wz fun e w' => e = .returned (.bool false) ∧ Below wz.heap.size wz w') := Lib.hid (fun wz h => by
          have := f24Finite B d b wz (HB.out.keep h) hlb1 HUB.out
          rwa [Bool.eq_false_iff.2 fb] at this)
        rw [E1, E2]
        generalize chkE (wholeR a b) [] = e3 at *
        have hsW := HW.out.size
        clear E1 E2 fa fb hq1 hq2 hq3 HE hb14 hb16 hb18 hk1 hk2 hkk1 hkk2 hK2 hK3 hK4 hr1 hr2 HP HL HU HC5 hAl
        ((try dsimp only); repeat (first | go_values | go_skip | go_guarded | go_step | go_upon))
        refine (HFa.out _ HW.out).mono ?_
        rintro e w20 ⟨rfl, hb20⟩
        ((try dsimp only); repeat (first | go_values | go_skip | go_guarded | go_step | go_upon))
        refine (HFb.out _ (HW.out.trans (hb20.mono hsW))).mono ?_
        rintro e w21 ⟨rfl, hb21⟩
        ((try dsimp only); repeat (first | go_values | go_skip | go_guarded | go_step | go_upon))
        go_ret
        exact ⟨rfl, (HW.out.trans (hb20.mono hsW)).trans (hb21.mono (Nat.le_trans hsW hb20.size))⟩
    · have E1 : chkE (oneR a) [] = 220 := by rw [HE.out.1, Bool.eq_false_iff.2 fa]; rfl
      have HFa : Hid (∀ wz, Below w.heap.size w wz → Calls Tryz.prog 37 #[.slice (some ⟨ba, oa, none⟩) a.length c] wz fun e w' => e = .returned (.bool false) ∧ Below wz.heap.size wz w') := Lib.hid (fun wz h => by
        have := f24Finite (some ⟨ba, oa, none⟩) c a wz (HA.out.keep h) hla1 HUA.out
        rwa [Bool.eq_false_iff.2 fa] at this)
      rw [E1]
      generalize chkE (twoR a b) [] = e2 at *
      generalize chkE (wholeR a b) [] = e3 at *
      have hsW := HW.out.size
      clear E1 fa hq1 hq2 hq3 HE hb14 hb16 hb18 hk1 hk2 hkk1 hkk2 hK2 hK3 hK4 hr1 hr2 HP HL HU HC5 hAl
      ((try dsimp only); repeat (first | go_values | go_skip | go_guarded | go_step | go_upon))
      refine (HFa.out _ HW.out).mono ?_
      rintro e w20 ⟨rfl, hb20⟩
      ((try dsimp only); repeat (first | go_values | go_skip | go_guarded | go_step | go_upon))
      go_ret
      exact ⟨rfl, HW.out.trans (hb20.mono hsW)⟩
end Go.Proofs.YtfpofmifmapmfaaGreatDoor

namespace Go.Proofs.YtfpofmifmapmfaaGreatDoor
open Go Go.ChangeShapes Go.WideShapes Go.ChangeAt Go.RowKit
set_option linter.unusedVariables false
set_option linter.unusedSimpArgs false
set_option maxRecDepth 100000
theorem row_own : ownKnob Tryz.prog.godebug = none := by kernel_rfl
theorem row_laidOut : laidOutB Tryz.prog = true := by kernel_rfl
theorem door_met (os : Os) (args : Array Value) : laidMetH Tryz.prog [("plumb/near.stays", Rows.laid_plumb_near_stays)] ((World.doorLaid Tryz.prog 400 os).forCall (fun _ _ => 0) ⟨#[], args, []⟩).memory :=
  laidMetH_of_parts3 (fuel := 8) (laidMet_of_run' 8 (by kernel_rfl) (by kernel_rfl)) (by kernel_rfl) (by kernel_rfl)
section
variable {H : Type} {enc : TypeId × Value → H} {w : World} {base : Nat} {spare : Nat → Bool} {held : Bool} {fuel : Nat}
theorem open_word {cs : List Value} {x : DataW H × List MemPlace} (h : DataW.trod enc Tryz.prog w base spare held fuel 36 cs = some x) : ∃ n, cs = [.int .u64 n] ∧ U64 n := by
  obtain ⟨n, h1, h2, h3⟩ := DataW.trod_int Tryz.underlying36 h
  refine ⟨n, h1, ?_⟩
  unfold Lit.wf at h3
  simp only [Bool.and_eq_true, decide_eq_true_eq] at h3
  exact h3
theorem open_point {cs : List Value} {x : DataW H × List MemPlace} (h : DataW.trod enc Tryz.prog w base spare held fuel 38 cs = some x) : ∃ p : Pt, cs = [.int .u64 p.1, .int .u64 p.2] ∧ PtU p := by
  obtain ⟨xs, n, _, _, hl, hx, hf⟩ := DataW.trod_struct Tryz.underlying38 h
  have c1 : Tryz.prog.cellsOf 38 = 2 := by kernel_rfl
  have c2 : Tryz.prog.cellsOf 36 = 1 := by kernel_rfl
  rw [c1] at hl
  match cs, hl with
  | [u, v], _ =>
    match xs, hx with
    | [y0, y1], _ =>
      have h0 : DataW.trod enc Tryz.prog w base spare held n 36 (List.take (Tryz.prog.cellsOf 36) (List.drop 0 [u, v])) = some y0 := hf 0 _ rfl
      have h1 : DataW.trod enc Tryz.prog w base spare held n 36 (List.take (Tryz.prog.cellsOf 36) (List.drop 1 [u, v])) = some y1 := hf 1 _ rfl
      rw [c2] at h0 h1
      obtain ⟨a, ha, ua⟩ := open_word (show DataW.trod enc Tryz.prog w base spare held n 36 [u] = some y0 from h0)
      obtain ⟨b, hb, ub⟩ := open_word (show DataW.trod enc Tryz.prog w base spare held n 36 [v] = some y1 from h1)
      cases ha
      cases hb
      exact ⟨(a, b), rfl, ua, ub⟩
theorem open_int {cs : List Value} {x : DataW H × List MemPlace} (h : DataW.trod enc Tryz.prog w base spare held fuel 3 cs = some x) : ∃ n : Int, cs = [.int .i64 n] ∧ -9223372036854775808 ≤ n ∧ n ≤ 9223372036854775807 := by
  obtain ⟨n, h1, h2, h3⟩ := DataW.trod_int Tryz.underlying3 h
  refine ⟨n, h1, ?_⟩
  unfold Lit.wf at h3
  simp only [Bool.and_eq_true, decide_eq_true_eq] at h3
  exact h3
theorem open_ptv {r : Reach} {b0 : Nat} {v : Value} {d : DataW H} {p : List MemPlace} (hv : Value.okWide Tryz.prog w r b0 38 v) (h : DataW.Trod enc Tryz.prog w base spare held 38 v d p) :
    ∃ a : Pt, v = .agg #[.int .u64 a.1, .int .u64 a.2] ∧ PtU a := by
  obtain ⟨cs, rfl, hsz⟩ := okWide_struct Tryz.underlying38 hv
  obtain ⟨l⟩ := cs
  have c1 : Tryz.prog.cellsOf 38 = 2 := by kernel_rfl
  obtain ⟨fuel, hf⟩ := h
  rw [c1] at hsz
  match l, hsz with
  | [v0, v1], _ =>
    obtain ⟨a, ha, ua⟩ := open_point (show DataW.trod enc Tryz.prog w base spare held fuel 38 [v0, v1] = some (d, p) from hf)
    cases ha
    exact ⟨a, rfl, ua⟩
theorem open_pts {r : Reach} {b0 : Nat} {v : Value} {d : DataW H} {p : List MemPlace} (hv : Value.okWide Tryz.prog w r b0 22 v) (h : DataW.Trod enc Tryz.prog w base spare held 22 v d p) :
    ∃ (A : Option Addr) (c : Nat) (qs : List Pt), v = .slice A qs.length c ∧ PtsIn w A qs ∧ qs.length ≤ 9223372036854775807 ∧ (∀ p ∈ qs, PtU p) ∧ (qs.length = 0 ∨ ∃ es sp, d = .slice es sp ∧ es.length = qs.length) := by
  obtain ⟨A, len, cap, rfl⟩ := okWide_slice Tryz.underlying22 hv
  have c2 : Tryz.prog.cellsOf 38 = 2 := by kernel_rfl
  obtain ⟨fuel, hf⟩ := h
  rcases Deep.open_slice Tryz.underlying22 (show DataW.trod enc Tryz.prog w base spare held fuel 22 [.slice A len cap] = some (d, p) from hf) with ⟨e, _⟩ | ⟨a, len', cap', m, n, D, Pl, e, hb, hl, hm, hmm, hxe, hx⟩
  · cases e
    exact ⟨none, 0, [], rfl, Or.inl rfl, by decide, (fun p hp => by cases hp), Or.inl rfl⟩
  · cases e
    have hlm : len ≤ m := by rw [hmm]; split <;> omega
    have hpt : ∀ i, i < len → ∃ q : Pt, w.cells? base (a.add (i * 2)) 2 = some [.int .u64 q.1, .int .u64 q.2] ∧ PtU q := by
      intro i hi
      obtain ⟨cs', h1, h2⟩ := hx i (by omega)
      rw [c2] at h1
      obtain ⟨q, rfl, hq⟩ := open_point h2
      exact ⟨q, h1, hq⟩
    obtain ⟨f, hf⟩ := Deep.choose_lt hpt
    have hlen : ((List.range len).map f).length = len := by simp
    have hget : ∀ i, i < len → ((List.range len).map f).getD i (0, 0) = f i := by
      intro i hi
      rw [List.getD_eq_getElem?_getD]
      simp [hi]
    refine ⟨some a, cap, (List.range len).map f, by rw [hlen], ?_, ?_, ?_, Or.inr ⟨_, _, (Prod.mk.inj hxe).1, by simp⟩⟩
    · by_cases h0 : len = 0
      · left; exact List.eq_nil_of_length_eq_zero (by rw [hlen, h0])
      · right
        have h1 := (World.cells?_some (hf 0 (by omega)).1).2.2 0 (by decide)
        have ha : a.add (0 * 2) = a := by simp [Addr.add]
        rw [ha] at h1
        have ha0 : a.add 0 = a := by simp [Addr.add]
        rw [ha0] at h1
        obtain ⟨b, o, s⟩ := a
        cases s with
        | some s =>
          exfalso
          simp only [World.cell?] at h1
          split at h1
          · simp at h1
          · cases h1
        | none =>
          refine ⟨b, o, rfl, ?_, fun i hi => ?_⟩
          · have hh : w.cell? ⟨b, o, none⟩ ≠ none := by rw [h1]; simp
            refine Nat.lt_of_not_le fun hge => hh ?_
            simp only [World.cell?]
            rw [Array.getElem?_eq_none hge]
          · rw [hlen] at hi
            have k := (World.cells?_some (hf i hi).1).2.2
            have k0 := k 0 (by decide)
            have k1 := k 1 (by decide)
            rw [Deep.add_add] at k0 k1
            have e : ∀ j, (⟨b, o, none⟩ : Addr).add j = ⟨b, o + j, none⟩ := by
              intro j
              unfold Addr.add
              split
              · rename_i h; simp [h]
              · rfl
            rw [e] at k0 k1
            rw [hget i hi]
            exact ⟨k0, by rw [Nat.add_assoc]; exact k1⟩
    · rw [hlen]
      unfold maxLen at hm
      omega
    · intro q hq
      obtain ⟨i, hi, rfl⟩ := List.mem_map.1 hq
      exact (hf i (List.mem_range.1 hi)).2
theorem pts_len {ts : List TypeId} {ds : List (DataW H)} (h : (DataW.weightsEach Tryz.prog ts ds).all (· ≤ reachBytes) = true) {j : Nat} {d : DataW H} {qs : List Pt} (ht : ts[j]? = some 22) (hd : ds[j]? = some d)
    (hs : qs.length = 0 ∨ ∃ es sp, d = .slice es sp ∧ es.length = qs.length) : qs.length ≤ 8796093022208 := by
  rcases hs with e | ⟨es, sp, rfl, e⟩
  · omega
  · have := sized_slice h ht hd Tryz.underlying22
    have hb : Tryz.prog.bytesOf 38 = 16 := by kernel_rfl
    rw [hb] at this
    simp only [reachBytes] at this
    omega
end
theorem post_true {H : Type} {enc : TypeId × Value → H} {f : Func} {s : ChangeSpec} {apart fresh handsOn : Bool} {W W' : World} {args : Array Value} {ds : List (DataW H)} {before : List MemPlace}
    (hv : s.vars = []) (hs : s.fn H ds = { results := [.lit (.bool true)], args := ds }) (hr : f.resultTypes = #[4])
    (hW : DataW.Whole enc Tryz.prog f.params.toList s.vars apart W args.toList ds [] before) (hb : Below W.heap.size W W')
    (hst : ∀ sp : Nat → Bool, (∀ p ∈ before, sp p.block = true) → DataW.TrodAll enc Tryz.prog W' 0 sp true f.params.toList args.toList ds before) :
    s.post enc Tryz.prog f apart fresh handsOn false W args (.bool true) W' := by
  have below : ∀ p ∈ before, p.block < W.heap.size := fun p hp => hW.lt p hp
  have kept := hb.frame (· ∈ before)
  have fn0 : s.fn H (ds ++ []) = { results := [.lit (.bool true)], args := ds } := by rw [List.append_nil]; exact hs
  have res : ∀ (b : Nat) (sp : Nat → Bool) (hd : Bool), DataW.TrodAll enc Tryz.prog W' b sp hd f.resultTypes.toList ((Value.bool true).resultList f.resultTypes.size) (s.fn H (ds ++ [])).results [] := by
    intro b sp hd
    rw [fn0, hr]
    exact trodAll_mk1 (shut_bool Tryz.underlying4 _)
  have arg : ∀ sp : Nat → Bool, (∀ p ∈ before, sp p.block = true) → DataW.TrodAll enc Tryz.prog W' 0 sp true f.params.toList args.toList (s.fn H (ds ++ [])).args before := by
    intro sp h
    rw [fn0]
    exact hst sp h
  have vars : ∀ sp : Nat → Bool, DataW.TrodVars enc Tryz.prog W' sp s.vars (s.fn H (ds ++ [])).vars [] := by
    intro sp
    rw [fn0, hv]
    trivial
  refine ⟨ds, [], before, [], before, [], hW, res _ _ _, arg _ (fun p hp => by simpa using below p hp), vars _, World.keptBut_mono (fun p hp => ⟨hp, Or.inr (Or.inl hp)⟩) kept, fun h => by cases h⟩
end Go.Proofs.YtfpofmifmapmfaaGreatDoor

namespace Go.Proofs.YtfpofmifmapmfaaGreatDoor
open Go Go.ChangeShapes Go.WideShapes Go.ChangeAt Go.RowKit
set_option linter.unusedVariables false
set_option linter.unusedSimpArgs false
set_option maxRecDepth 100000 in
theorem ringParts_lifted (os : Os) (started : os.Started) (H : Type) (enc : TypeId × Value → H) :
    ReturnsInHanded {} Tryz.checked os 7 .any (fun w args => (Rows.ringPartsSpec.pre enc Tryz.prog Tryz.f7 [] false w args ∧ laidMetH Tryz.prog [("plumb/near.stays", Rows.laid_plumb_near_stays)] w) ∧ sizedMet enc Tryz.prog Tryz.f7 (OpenSpec.ofChange Rows.ringPartsSpec) false w args)
      (Rows.ringPartsSpec.post enc Tryz.prog Tryz.f7 false true false false) := by
  refine returnsInHanded_of_change_and (C := Tryz.checked) (X := fun w _ => laidMetH Tryz.prog [("plumb/near.stays", Rows.laid_plumb_near_stays)] w) (fun _ _ _ hh h => h.of_heap hh) row_own started (by kernel_rfl) Tryz.func7
    (ChangeSpec.witness_shaped (enc := enc) (C := Tryz.checked) (os := os) (X := fun w _ => laidMetH Tryz.prog [("plumb/near.stays", Rows.laid_plumb_near_stays)] w) false (World.doorLaid Tryz.prog 400 os) #[.slice none 0 0, .slice none 0 0, .agg #[.int .u64 0, .int .u64 0]] 8 rfl (World.shaped_of_RefB (by kernel_rfl) (by kernel_rfl)) (by kernel_rfl) (by kernel_rfl) (by kernel_rfl) (door_met os _)) ?_
  intro W base args ds gs before hval0 hW _ hsz0 _ _
  have hsz : (DataW.weightsEach Tryz.prog (Tryz.f7.params.toList ++ Rows.ringPartsSpec.plain.varTypes Tryz.prog) (ds ++ gs)).all (· ≤ reachBytes) = true := hsz0
  have hval : ∀ (j : Nat) t v, Tryz.f7.params[j]? = some t → args[j]? = some v → Value.okWide Tryz.prog W .any base t v := hval0
  have hW' := hW
  obtain ⟨p, q, hA0, hV, rfl, hfz, hnd⟩ := hW
  have hA : DataW.TrodAll enc Tryz.prog W 0 (fun _ => true) true Tryz.f7.params.toList args.toList ds p := hA0
  rw [Tryz.params7] at hA hval hsz
  obtain ⟨v0, v1, v2, d0, d1, d2, p0, p1, p2, hargs, hds, hps, h0, h1, h2⟩ := trodAll_three hA
  obtain ⟨rfl, rfl⟩ := trodVars_none hV
  subst hargs hds hps
  obtain ⟨A0, c0, q0, rfl, hp0, _, hu0, hs0⟩ := open_pts (hval 0 22 v0 rfl rfl) h0
  have hl0 := pts_len hsz (j := 0) rfl rfl hs0
  obtain ⟨A1, c1, q1, rfl, hp1, _, hu1, hs1⟩ := open_pts (hval 1 22 v1 rfl rfl) h1
  have hl1 := pts_len hsz (j := 1) rfl rfl hs1
  obtain ⟨q2, rfl, hu2⟩ := open_ptv (hval 2 38 v2 rfl rfl) h2
  simp only [List.append_nil] at hW'
  refine (lParts A0 A1 c0 c1 q0 q1 q2 W hp0 hp1 (by omega) (by omega) hu0 hu1 hu2).mono fun x W' ⟨hx, hb⟩ => ?_
  subst hx
  refine ⟨_, rfl, post_true rfl rfl rfl hW' hb (fun sp hsp => ?_)⟩
  rw [Tryz.params7]
  have hlt : ∀ x ∈ p0 ++ p1 ++ p2, x.block < W.heap.size := fun x hx => hW'.lt x hx
  have hmk := trodAll_mk3
    (WideElems.Trod_stays row_laidOut (by kernel_rfl) (of_decide_eq_true (by kernel_rfl)) h0 (fun x hx => hb.same (hlt x (List.mem_append_left _ (List.mem_append_left _ hx)))) (fun x hx => hsp x (List.mem_append_left _ (List.mem_append_left _ hx))))
    (WideElems.Trod_stays row_laidOut (by kernel_rfl) (of_decide_eq_true (by kernel_rfl)) h1 (fun x hx => hb.same (hlt x (List.mem_append_left _ (List.mem_append_right _ hx)))) (fun x hx => hsp x (List.mem_append_left _ (List.mem_append_right _ hx))))
    (WideElems.Trod_stays row_laidOut (by kernel_rfl) (of_decide_eq_true (by kernel_rfl)) h2 (fun x hx => hb.same (hlt x (List.mem_append_right _ hx))) (fun x hx => hsp x (List.mem_append_right _ hx)))
  simpa only [List.append_assoc] using hmk
theorem ringParts_said : Rows.RingPartsSaid :=
  OpenClaim.holds_of_wide 7 Tryz.f7 rfl rfl rfl rfl rfl rfl rfl ⟨rfl, rfl, rfl, rfl, rfl⟩ rfl rfl rfl rfl rfl (by kernel_rfl) Tryz.func7 (by kernel_rfl)
    (of_decide_eq_true (by kernel_rfl)) (by unfold Func.isWrapper; first | (rw [if_pos (by decide +kernel)]; kernel_rfl) | (rw [if_neg (by decide +kernel)]; exact ⟨rfl, rfl⟩))
    (fun os started H enc _ => ringParts_lifted os started H enc)
theorem ringParts_holds : Rows.RingPartsCardSaid :=
  Claim7.holds_tied_plain_at .later [] [.data] true (true, "f777712a3cb00256777b380c3964cedb2e32d925b7296fdfab4ba2994e78b29d") true
    ringParts_said (fun _ h => by cases h) (by kernel_rfl) (fun _ h => by cases h) ringParts_row_tie rfl ⟨rfl, rfl⟩ (by kernel_rfl) rfl
    (fun f fn hf hfn => by
      obtain rfl : f = 7 := Option.some.inj ((show Tryz.prog.funcNamed "plumb/plumblaw24.RingParts" = some 7 by kernel_rfl).symm.trans hf) |>.symm
      obtain rfl : fn = Tryz.f7 := (Option.some.inj (Tryz.func7.symm.trans hfn)).symm
      exact ⟨by kernel_rfl, fun j t ht => by
        rw [Tryz.params7] at ht
        have hm : t ∈ [22, 22, 38] := by simpa using Array.mem_of_getElem? ht
        have hall : ([22, 22, 38].all fun u => !Tryz.prog.wantsStandIn u) = true := by kernel_rfl
        exact (show Tryz.prog.wantsStandIn t = false by simpa using List.all_eq_true.1 hall t hm)⟩)
    (by kernel_rfl)
end Go.Proofs.YtfpofmifmapmfaaGreatDoor
