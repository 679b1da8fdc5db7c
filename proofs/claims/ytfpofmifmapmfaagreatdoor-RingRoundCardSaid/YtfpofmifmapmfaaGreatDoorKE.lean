/- Package pred: Orient, Between, Order. -/
import Derived.Test.YtfpofmifmapmfaaGreatDoorKD
import Derived.Test.YtfpofmifmapmfaaGreatDoorKA
namespace Go.Proofs.YtfpofmifmapmfaaGreatDoor
open Go.RowKit Go.Proofs.YtfpofmifmapmfaaGreatDoorW.PrintLast
set_option linter.unusedVariables false
set_option linter.unusedSimpArgs false
def PtsAt (w : World) (b o : Nat) (ps : List Pt) : Prop := ∀ i, i < ps.length → w.cell? ⟨b, o + i * 2, none⟩ = some (.int .u64 (ps.getD i (0, 0)).1) ∧ w.cell? ⟨b, o + i * 2 + 1, none⟩ = some (.int .u64 (ps.getD i (0, 0)).2)
structure Six (w : World) (b o : Nat) (A B C D : Option Addr) (x : Pl) : Prop where
  c0 : w.cell? ⟨b, o, none⟩ = some (.bool (decide (x.1.num < 0)))
  c1 : w.cell? ⟨b, o + 1, none⟩ = some (.slice A (qn x.1).length (qn x.1).length)
  c2 : w.cell? ⟨b, o + 2, none⟩ = some (.slice B (qd x.1).length (qd x.1).length)
  c3 : w.cell? ⟨b, o + 3, none⟩ = some (.bool (decide (x.2.num < 0)))
  c4 : w.cell? ⟨b, o + 4, none⟩ = some (.slice C (qn x.2).length (qn x.2).length)
  c5 : w.cell? ⟨b, o + 5, none⟩ = some (.slice D (qd x.2).length (qd x.2).length)
theorem Six.keep {w w' : World} {b o B' : Nat} {A B C D : Option Addr} {x : Pl} (h : Six w b o A B C D x) (k : Below B' w w') (hb : b < B') : Six w' b o A B C D x :=
  ⟨(k.cell (p := ⟨b, o, none⟩) hb).trans h.c0, (k.cell (p := ⟨b, o + 1, none⟩) hb).trans h.c1, (k.cell (p := ⟨b, o + 2, none⟩) hb).trans h.c2, (k.cell (p := ⟨b, o + 3, none⟩) hb).trans h.c3, (k.cell (p := ⟨b, o + 4, none⟩) hb).trans h.c4, (k.cell (p := ⟨b, o + 5, none⟩) hb).trans h.c5⟩
theorem row2 {w : World} {g : Nat} {x y : Value} {t : TypeId} (h : w.heap[g]? = some (.cells #[x, y] t (0, 0))) : w.cell? ⟨g, 0, none⟩ = some x ∧ w.cell? ⟨g, 1, none⟩ = some y :=
  ⟨by rw [cell_of_cells h]; rfl, by rw [cell_of_cells h]; rfl⟩
def sixSet (g o : Nat) (v0 v1 v2 v3 v4 v5 : Value) (w : World) : World :=
  (((((w.setCell ⟨g, o, none⟩ v0).setCell ⟨g, o + 1, none⟩ v1).setCell ⟨g, o + 2, none⟩ v2).setCell ⟨g, o + 3, none⟩ v3).setCell ⟨g, o + 4, none⟩ v4).setCell ⟨g, o + 5, none⟩ v5
theorem sixSet_row {w : World} {g o : Nat} {C : Array Value} {t : TypeId} (v0 v1 v2 v3 v4 v5 : Value) (h : w.heap[g]? = some (.cells C t (0, 0))) (ho : o + 6 ≤ C.size) :
    ∃ C', (sixSet g o v0 v1 v2 v3 v4 v5 w).heap[g]? = some (.cells C' t (0, 0)) ∧ C'.size = C.size ∧ C'[o]? = some v0 ∧ C'[o + 1]? = some v1 ∧ C'[o + 2]? = some v2 ∧ C'[o + 3]? = some v3 ∧ C'[o + 4]? = some v4 ∧ C'[o + 5]? = some v5 ∧ ∀ j, j < o ∨ o + 6 ≤ j → C'[j]? = C[j]? := by
  refine ⟨_, heap_set_cell (heap_set_cell (heap_set_cell (heap_set_cell (heap_set_cell (heap_set_cell h o v0) (o + 1) v1) (o + 2) v2) (o + 3) v3) (o + 4) v4) (o + 5) v5, by simp, ?_, ?_, ?_, ?_, ?_, ?_, ?_⟩
  · simp only [Array.getElem?_setIfInBounds, Array.size_setIfInBounds]; simp; omega
  · simp only [Array.getElem?_setIfInBounds, Array.size_setIfInBounds]; simp; omega
  · simp only [Array.getElem?_setIfInBounds, Array.size_setIfInBounds]; simp; omega
  · simp only [Array.getElem?_setIfInBounds, Array.size_setIfInBounds]; simp; omega
  · simp only [Array.getElem?_setIfInBounds, Array.size_setIfInBounds]; simp; omega
  · simp only [Array.getElem?_setIfInBounds, Array.size_setIfInBounds]; simp; omega
  · intro j hj
    simp only [Array.getElem?_setIfInBounds, Array.size_setIfInBounds]
    rw [if_neg (by omega), if_neg (by omega), if_neg (by omega), if_neg (by omega), if_neg (by omega), if_neg (by omega)]
theorem sixSet_but {w0 w : World} {g o : Nat} (v0 v1 v2 v3 v4 v5 : Value) (h : But g w0 w) : But g w0 (sixSet g o v0 v1 v2 v3 v4 v5 w) := (((((h.setCell _ _).setCell _ _).setCell _ _).setCell _ _).setCell _ _).setCell _ _
theorem Six.of_row {w : World} {g o : Nat} {C : Array Value} {t : TypeId} {f : Nat × Nat} {A B C1 D : Option Addr} {x : Pl} (h : w.heap[g]? = some (.cells C t f)) (h0 : C[o]? = some (.bool (decide (x.1.num < 0)))) (h1 : C[o + 1]? = some (.slice A (qn x.1).length (qn x.1).length)) (h2 : C[o + 2]? = some (.slice B (qd x.1).length (qd x.1).length))
    (h3 : C[o + 3]? = some (.bool (decide (x.2.num < 0)))) (h4 : C[o + 4]? = some (.slice C1 (qn x.2).length (qn x.2).length)) (h5 : C[o + 5]? = some (.slice D (qd x.2).length (qd x.2).length)) : Six w g o A B C1 D x :=
  ⟨(cell_of_cells h _).trans h0, (cell_of_cells h _).trans h1, (cell_of_cells h _).trans h2, (cell_of_cells h _).trans h3, (cell_of_cells h _).trans h4, (cell_of_cells h _).trans h5⟩
theorem Six.same {w w' : World} {g o : Nat} {C C' : Array Value} {t t' : TypeId} {f f' : Nat × Nat} {A B C1 D : Option Addr} {x : Pl} (k : Six w g o A B C1 D x) (h : w.heap[g]? = some (.cells C t f)) (h' : w'.heap[g]? = some (.cells C' t' f')) (e : ∀ j, o ≤ j → j < o + 6 → C'[j]? = C[j]?) : Six w' g o A B C1 D x := by
  have q : ∀ j, o ≤ j → j < o + 6 → w'.cell? ⟨g, j, none⟩ = w.cell? ⟨g, j, none⟩ := fun j h1 h2 => by rw [cell_of_cells h, cell_of_cells h', e j h1 h2]
  exact ⟨(q _ (by omega) (by omega)).trans k.c0, (q _ (by omega) (by omega)).trans k.c1, (q _ (by omega) (by omega)).trans k.c2, (q _ (by omega) (by omega)).trans k.c3, (q _ (by omega) (by omega)).trans k.c4, (q _ (by omega) (by omega)).trans k.c5⟩
def zero6 : Value := .agg #[.bool false, .slice none 0 0, .slice none 0 0, .bool false, .slice none 0 0, .slice none 0 0]
def pv (A B C D : Option Addr) (x : Pl) : Value := .agg #[.bool (decide (x.1.num < 0)), .slice A (qn x.1).length (qn x.1).length, .slice B (qd x.1).length (qd x.1).length, .bool (decide (x.2.num < 0)), .slice C (qn x.2).length (qn x.2).length, .slice D (qd x.2).length (qd x.2).length]
theorem info_place : (Tryz.prog.info? 155).map (fun i => (i.zero, i.size, i.bytes)) = some (some zero6, 6, 112) := by kernel_rfl
theorem run_make_places (n : Nat) (h : n ≤ 1000000) (w : World) : (Instr.makeSlice 150 (.int .i64 (n : Int)) (.int .i64 (n : Int))).run Tryz.prog w = .ok (.slice (some ⟨w.heap.size, 0, none⟩) n n) (w.alloc (.cells (madeCells zero6.cells (n * 6)) 155)) := by
  obtain ⟨i, hi, h1, h2, h3⟩ := info_parts info_place
  rw [run_make w 150 155 i zero6 Tryz.underlying150 hi h1 .i64 .i64 n n (by omega) (Int.le_refl _) (by rw [h3]; omega) (by omega), h2, Int.toNat_natCast]
set_option maxRecDepth 100000 in
set_option maxHeartbeats 3200000 in
theorem pPlaces (b o : Nat) (ps : List Pt) (w : World) (hp : PtsAt w b o ps) (hb : b < w.heap.size) (hl : ps.length ≤ 1000000) (hf : ∀ p ∈ ps, Fin64 p.1 ∧ Fin64 p.2) :
    Calls Tryz.prog 98 #[.slice (some ⟨b, o, none⟩) ps.length ps.length] w fun e w' => ∃ g, w.heap.size ≤ g ∧ g < w'.heap.size ∧ e = .returned (.tuple #[.slice (some ⟨g, 0, none⟩) ps.length ps.length, .bool true]) ∧
      (∀ i, i < ps.length → ∃ A B C D, Six w' g (i * 6) A B C D (pl (ps.getD i (0, 0))) ∧ RatFresh w.heap.size w' A B (pl (ps.getD i (0, 0))).1 ∧ RatFresh w.heap.size w' C D (pl (ps.getD i (0, 0))).2) ∧ Below w.heap.size w w' := by
  have hmk := run_make_places ps.length hl
  have HP := Lib.hid hp
  have HF := Lib.hid hf
  clear hp hf
  go_enter Tryz.func98, Tryz.ntmps98
  go_wp2_with (fail)
  go_loopw [16] (fun i wr => ∃ (k : Nat) (C : Array Value), i = .int .i64 k ∧ k ≤ ps.length ∧ wr.heap[w.heap.size]? = some (.cells C 155 (0, 0)) ∧ C.size = ps.length * 6 ∧
    (∀ i, i < k → ∃ A B C D, Six wr w.heap.size (i * 6) A B C D (pl (ps.getD i (0, 0))) ∧ RatFresh (w.heap.size + 1) wr A B (pl (ps.getD i (0, 0))).1 ∧ RatFresh (w.heap.size + 1) wr C D (pl (ps.getD i (0, 0))).2) ∧ Below w.heap.size w wr) (fun i _ => ps.length - (intOf i).toNat)
  case atStart => exact ⟨0, _, rfl, Nat.zero_le _, alloc_new _ _, size_madeCells _ _, fun i h => by omega, (by repeat (first | exact Below.refl _ _ | refine belowN ?_ _ | refine Below.drew ?_ | refine Below.alloc ?_ (by first | exact Nat.le_refl _ | (simp; done) | (simp; omega) | omega) _))⟩
  case round =>
    obtain ⟨k, C, rfl, hk, hrow, hC, hdone, hB⟩ := hrel
    by_cases h0 : k < ps.length
    · have hpk := (HP.out k h0)
      have hp1 := (hB.cell (p := ⟨b, o + k * 2, none⟩) hb).trans hpk.1
      have hp2 := (hB.cell (p := ⟨b, o + k * 2 + 1, none⟩) hb).trans hpk.2
      have hmem : ps.getD k (0, 0) ∈ ps := by rw [List.getD_eq_getElem?_getD, List.getElem?_eq_getElem h0]; exact List.getElem_mem h0
      have hfk := HF.out _ hmem
      have HD := Lib.hid (And.intro hrow (And.intro hC (And.intro hdone hB)))
      clear hpk hmem hdone hB
      generalize hpp : ps.getD k (0, 0) = pt at *
      have HPP := Lib.hid hpp
      clear hpp
      have HV1 := fun wz => vValue pt.1 wz hfk.1
      have HV2 := fun wz => vValue pt.2 wz hfk.2
      have HV := Lib.hid (And.intro HV1 HV2)
      clear HV1 HV2 hfk hrow
      go_wp2_with (fail)
      have hsw := HD.out.2.2.2.size
      have hgl := heap_lt HD.out.1
      refine (HV.out.1 _).mono ?_
      rintro e w1 ⟨E, F, rfl, hf1, hb1⟩
      have hs1 := hb1.size
      rw [World.size_alloc] at hs1 hb1 hf1
      have hbox := (hb1.block wr.heap.size (by omega)).trans (alloc_new wr _)
      have hr1 := (hb1.block w.heap.size (by omega)).trans (alloc_old HD.out.1)
      obtain ⟨p0, p1⟩ := row2 hbox
      have HB1 := Lib.hid (And.intro hbox (And.intro hr1 (And.intro hf1 hb1)))
      clear hbox hr1 hf1 hb1 hp1 hp2
      unfold qv
      have hlt1 : wr.heap.size < w1.heap.size := by omega
      go_wp2_with (fail)
      refine (HV.out.2 _).mono ?_
      rintro e w2 ⟨E2, F2, rfl, hf2, hb2⟩
      have hs2 := hb2.size
      rw [World.size_alloc] at hs2 hb2 hf2
      obtain ⟨hbox, hr1, hf1, hb1⟩ := HB1.out
      have hr2 := (hb2.block w.heap.size (by omega)).trans (alloc_old hr1)
      have hxr := (hb2.block w1.heap.size (by omega)).trans (alloc_new w1 _)
      obtain ⟨x0, x1, x2, _⟩ := row3 hxr
      have HB2 := Lib.hid (And.intro hr2 (And.intro hxr (And.intro hf2 hb2)))
      obtain ⟨v0, hv0⟩ : ∃ v, C[k * 6]? = some v := ⟨_, Array.getElem?_eq_getElem (by have := HD.out.2.1; omega)⟩
      obtain ⟨v1, hv1⟩ : ∃ v, C[k * 6 + 1]? = some v := ⟨_, Array.getElem?_eq_getElem (by have := HD.out.2.1; omega)⟩
      obtain ⟨v2, hv2⟩ : ∃ v, C[k * 6 + 2]? = some v := ⟨_, Array.getElem?_eq_getElem (by have := HD.out.2.1; omega)⟩
      obtain ⟨v3, hv3⟩ : ∃ v, C[k * 6 + 3]? = some v := ⟨_, Array.getElem?_eq_getElem (by have := HD.out.2.1; omega)⟩
      obtain ⟨v4, hv4⟩ : ∃ v, C[k * 6 + 4]? = some v := ⟨_, Array.getElem?_eq_getElem (by have := HD.out.2.1; omega)⟩
      obtain ⟨v5, hv5⟩ : ∃ v, C[k * 6 + 5]? = some v := ⟨_, Array.getElem?_eq_getElem (by have := HD.out.2.1; omega)⟩
      have y0 := (cell_of_cells hr2 (k * 6)).trans hv0
      have y1 := (cell_of_cells hr2 (k * 6 + 1)).trans hv1
      have y2 := (cell_of_cells hr2 (k * 6 + 2)).trans hv2
      have y3 := (cell_of_cells hr2 (k * 6 + 3)).trans hv3
      have y4 := (cell_of_cells hr2 (k * 6 + 4)).trans hv4
      have y5 := (cell_of_cells hr2 (k * 6 + 5)).trans hv5
      have u0 := free_of_cells hr2 (k * 6)
      have u1 := free_of_cells hr2 (k * 6 + 1)
      have u2 := free_of_cells hr2 (k * 6 + 2)
      have u3 := free_of_cells hr2 (k * 6 + 3)
      have u4 := free_of_cells hr2 (k * 6 + 4)
      have u5 := free_of_cells hr2 (k * 6 + 5)
      clear hbox hr1 hf1 hb1 hr2 hxr hf2 hb2 hv0 hv1 hv2 hv3 hv4 hv5
      unfold qv
      have hlt2 : w1.heap.size < w2.heap.size := by omega
      have hlt3 : w.heap.size < w2.heap.size := by omega
      go_wp2_with (fail)
      obtain ⟨hr2, hxr, hf2, hb2⟩ := HB2.out
      obtain ⟨_, _, hf1, hb1⟩ := HB1.out
      obtain ⟨hrow, hC, hdone, hB⟩ := HD.out
      have hP := HPP.out
      obtain ⟨C', c0, c1, d0, d1, d2, d3, d4, d5, d6⟩ := sixSet_row (o := k * 6) (.bool (decide ((fval pt.1).num < 0))) (.slice E (qn (fval pt.1)).length (qn (fval pt.1)).length) (.slice F (qd (fval pt.1)).length (qd (fval pt.1)).length) (.bool (decide ((fval pt.2).num < 0))) (.slice E2 (qn (fval pt.2)).length (qn (fval pt.2)).length) (.slice F2 (qd (fval pt.2)).length (qd (fval pt.2)).length) hr2 (by omega)
      have hbt := sixSet_but (w0 := w2) (o := k * 6) (.bool (decide ((fval pt.1).num < 0))) (.slice E (qn (fval pt.1)).length (qn (fval pt.1)).length) (.slice F (qd (fval pt.1)).length (qd (fval pt.1)).length) (.bool (decide ((fval pt.2).num < 0))) (.slice E2 (qn (fval pt.2)).length (qn (fval pt.2)).length) (.slice F2 (qd (fval pt.2)).length (qd (fval pt.2)).length) (But.refl w.heap.size w2)
      unfold sixSet at c0 hbt
      generalize (((((w2.setCell _ _).setCell _ _).setCell _ _).setCell _ _).setCell _ _).setCell _ _ = w3 at *
      have hk1 : Keep (w.heap.size + 1) w2.heap.size w2 w3 := hbt.keep (Nat.le_refl _) (Or.inl (Nat.lt_succ_self _))
      have hk0 : Keep (w.heap.size + 1) wr.heap.size wr w3 := fun i h1 h2 => ((hk1 i h1 (by omega)).trans ((hb2.block i (by omega)).trans (Below.heap_alloc w1 _ i (by omega)))).trans ((hb1.block i (by omega)).trans (Below.heap_alloc wr _ i (by omega)))
      have hk3 : ∀ o : Obj, Keep (w.heap.size + 1) w3.heap.size w3 (w3.alloc o) := fun o => (Keep.refl _ _ _).alloc (Nat.le_refl _) o
      have hs3 := hbt.size
      refine ⟨⟨k + 1, C', vint (by omega), by omega, alloc_old c0, by omega, ?_, ?_⟩, by simp [intOf]; omega⟩
      · intro i hi
        by_cases e : i = k
        · subst e
          rw [hP]
          refine ⟨E, F, E2, F2, Six.of_row (alloc_old c0) d0 d1 d2 d3 d4 d5, ?_, ?_⟩
          · refine RatFresh.keep (w := w3) (RatFresh.keep (w := w2) (RatFresh.keep (w := w1) (hf1.wide (by omega)) (fun i h1 h2 => (hb2.block i (by omega)).trans (Below.heap_alloc w1 _ i h2)) (Nat.le_refl _)) hk1 (Nat.le_refl _)) (hk3 _) (Nat.le_refl _)
          · exact RatFresh.keep (w := w3) (RatFresh.keep (w := w2) (hf2.wide (by omega)) hk1 (Nat.le_refl _)) (hk3 _) (Nat.le_refl _)
        · obtain ⟨A, B, C1, D, s1, s2, s3⟩ := hdone i (by omega)
          refine ⟨A, B, C1, D, s1.same hrow (alloc_old c0) (fun j h1 h2 => d6 j (by omega)), ?_, ?_⟩
          · exact RatFresh.keep (w := w3) (RatFresh.keep (w := wr) s2 hk0 (Nat.le_refl _)) (hk3 _) (by omega)
          · exact RatFresh.keep (w := w3) (RatFresh.keep (w := wr) s3 hk0 (Nat.le_refl _)) (hk3 _) (by omega)
      · have q1 := ((hB.alloc (by omega) (.cells #[.int .u64 pt.1, .int .u64 pt.2] 38)).trans (hb1.mono (by omega)))
        have q2 := ((q1.alloc (by omega) (.cells #[.bool (decide ((fval pt.1).num < 0)), .slice E (qn (fval pt.1)).length (qn (fval pt.1)).length, .slice F (qd (fval pt.1)).length (qd (fval pt.1)).length] 26)).trans (hb2.mono (by omega)))
        exact (q2.trans (hbt.below (by omega) (Nat.le_refl _))).alloc (by omega) _
    · obtain rfl : k = ps.length := by omega
      have HD := Lib.hid (And.intro hrow (And.intro hC (And.intro hdone hB)))
      clear hdone hB hrow
      go_wp2
      go_ret2
      exact ⟨w.heap.size, Nat.le_refl _, heap_lt HD.out.1, rfl, fun i hi => by
        obtain ⟨A, B, C', D, h1, h2, h3⟩ := HD.out.2.2.1 i hi
        exact ⟨A, B, C', D, h1, h2.wide (by omega), h3.wide (by omega)⟩, HD.out.2.2.2⟩
end Go.Proofs.YtfpofmifmapmfaaGreatDoor

namespace Go.Proofs.YtfpofmifmapmfaaGreatDoor
open Go.RowKit Go.Proofs.YtfpofmifmapmfaaGreatDoorW.PrintLast
set_option linter.unusedVariables false
set_option linter.unusedSimpArgs false
structure PlIn (lo up : Nat) (w : World) (A B C D : Option Addr) (x : Pl) : Prop where
  h1 : RatIn lo up w A B x.1
  h2 : RatIn lo up w C D x.2
structure PlFresh (lo : Nat) (w : World) (A B C D : Option Addr) (x : Pl) : Prop where
  h1 : RatFresh lo w A B x.1
  h2 : RatFresh lo w C D x.2
theorem PlIn.keep {lo up : Nat} {w w' : World} {A B C D : Option Addr} {x : Pl} (h : PlIn lo up w A B C D x) (k : Keep lo up w w') : PlIn lo up w' A B C D x := ⟨h.h1.keep k, h.h2.keep k⟩
theorem PlIn.wide {lo up lo' up' : Nat} {w : World} {A B C D : Option Addr} {x : Pl} (h : PlIn lo up w A B C D x) (h1 : lo' ≤ lo) (h2 : up ≤ up') : PlIn lo' up' w A B C D x := ⟨h.h1.wide h1 h2, h.h2.wide h1 h2⟩
theorem PlFresh.keep {lo up : Nat} {w w' : World} {A B C D : Option Addr} {x : Pl} (h : PlFresh lo w A B C D x) (k : Keep lo up w w') (hh : w.heap.size ≤ up) : PlFresh lo w' A B C D x := ⟨h.h1.keep k hh, h.h2.keep k hh⟩
theorem PlFresh.wide {lo lo' : Nat} {w : World} {A B C D : Option Addr} {x : Pl} (h : PlFresh lo w A B C D x) (hl : lo' ≤ lo) : PlFresh lo' w A B C D x := ⟨h.h1.wide hl, h.h2.wide hl⟩
theorem PlFresh.ins {lo : Nat} {w : World} {A B C D : Option Addr} {x : Pl} (h : PlFresh lo w A B C D x) : PlIn lo w.heap.size w A B C D x := ⟨h.h1.ins, h.h2.ins⟩
def PSz (n : Nat) (x : Pl) : Prop := Sz n x.1 ∧ Sz n x.2
theorem row6 {w : World} {g : Nat} {a b c d e f : Value} {t : TypeId} (h : w.heap[g]? = some (.cells #[a, b, c, d, e, f] t (0, 0))) :
    w.cell? ⟨g, 0, none⟩ = some a ∧ w.cell? ⟨g, 1, none⟩ = some b ∧ w.cell? ⟨g, 2, none⟩ = some c ∧ w.cell? ⟨g, 3, none⟩ = some d ∧ w.cell? ⟨g, 4, none⟩ = some e ∧ w.cell? ⟨g, 5, none⟩ = some f ∧
    w.frozen? ⟨g, 0, none⟩ = false ∧ w.frozen? ⟨g, 1, none⟩ = false ∧ w.frozen? ⟨g, 2, none⟩ = false ∧ w.frozen? ⟨g, 3, none⟩ = false ∧ w.frozen? ⟨g, 4, none⟩ = false ∧ w.frozen? ⟨g, 5, none⟩ = false :=
  ⟨by rw [cell_of_cells h]; rfl, by rw [cell_of_cells h]; rfl, by rw [cell_of_cells h]; rfl, by rw [cell_of_cells h]; rfl, by rw [cell_of_cells h]; rfl, by rw [cell_of_cells h]; rfl, free_of_cells h 0, free_of_cells h 1, free_of_cells h 2, free_of_cells h 3, free_of_cells h 4, free_of_cells h 5⟩
theorem sixSet_size (g o : Nat) (v0 v1 v2 v3 v4 v5 : Value) (w : World) : (sixSet g o v0 v1 v2 v3 v4 v5 w).heap.size = w.heap.size := by simp [sixSet, World.setCell]
theorem six_new {w0 w : World} {g B : Nat} {a b c d e f : Value} {t : TypeId} (h : w.heap[g]? = some (.cells #[a, b, c, d, e, f] t (0, 0))) (hB : B ≤ g) (x0 x1 x2 x3 x4 x5 : Value) (hb : Below B w0 w) :
    (sixSet g 0 x0 x1 x2 x3 x4 x5 w).heap[g]? = some (.cells #[x0, x1, x2, x3, x4, x5] t (0, 0)) ∧ (∀ lo, g < lo → ∀ up, Keep lo up w (sixSet g 0 x0 x1 x2 x3 x4 x5 w)) ∧ Below B w0 (sixSet g 0 x0 x1 x2 x3 x4 x5 w) := by
  refine ⟨heap_set_cell (heap_set_cell (heap_set_cell (heap_set_cell (heap_set_cell (heap_set_cell h 0 x0) 1 x1) 2 x2) 3 x3) 4 x4) 5 x5, fun lo hl up => ?_, ?_⟩
  · exact ((((((Keep.refl _ _ _).setCell (Or.inl hl) _).setCell (Or.inl hl) _).setCell (Or.inl hl) _).setCell (Or.inl hl) _).setCell (Or.inl hl) _).setCell (Or.inl hl) _
  · exact (((((hb.setCell (show B ≤ g from hB) _).setCell (show B ≤ g from hB) _).setCell (show B ≤ g from hB) _).setCell (show B ≤ g from hB) _).setCell (show B ≤ g from hB) _).setCell (show B ≤ g from hB) _
set_option maxRecDepth 100000 in
set_option maxHeartbeats 1600000 in
theorem pCompare (A B C D : Option Addr) (lo up m n : Nat) (p q : Rat) (w : World) (hp : RatIn lo up w A B p) (hq : RatIn lo up w C D q) (hu : up ≤ w.heap.size)
    (hs : Sz m p) (ht : Sz n q) (hmn : m + n + 1 ≤ 262144) :
    Calls Tryz.prog 208 #[qv A B p, qv C D q] w fun e w' => e = .returned (.int .i64 (qcmp p q)) ∧ Below w.heap.size w w' := by
  have hk : ∀ o1 o2, Keep lo up w ((w.alloc o1).alloc o2) := fun o1 o2 => ((Keep.refl _ _ _).alloc hu _).alloc (by simp; omega) _
  have HC := Lib.hid (fun o1 o2 => rCmpQ A B C D lo up m n p q _ (hp.keep (hk o1 o2)) (hq.keep (hk o1 o2)) (by simp; omega) hs ht hmn)
  have HB : Hid (∀ o1 o2, Below w.heap.size w ((w.alloc o1).alloc o2)) := Lib.hid (fun o1 o2 => (by repeat (first | exact Below.refl _ _ | refine belowN ?_ _ | refine Below.drew ?_ | refine Below.alloc ?_ (by first | exact Nat.le_refl _ | (simp; done) | (simp; omega) | omega) _)))
  clear hp hq hk
  unfold qv at *
  go_enter Tryz.func208, Tryz.ntmps208
  go_wp2_with (go_at_call 244; refine (HC.out _ _).mono ?_; rintro e w1 ⟨rfl, hb⟩)
  go_ret
  exact ⟨rfl, (HB.out _ _).trans (hb.mono (by simp; omega))⟩
set_option maxRecDepth 100000 in
set_option maxHeartbeats 1600000 in
theorem pLess (A B C D A2 B2 C2 D2 : Option Addr) (lo up m n : Nat) (x y : Pl) (w : World) (hp : PlIn lo up w A B C D x) (hq : PlIn lo up w A2 B2 C2 D2 y) (hu : up ≤ w.heap.size)
    (hs : PSz m x) (ht : PSz n y) (hmn : m + n + 1 ≤ 262144) :
    Calls Tryz.prog 157 #[pv A B C D x, pv A2 B2 C2 D2 y] w fun e w' => ∃ E F G H, e = .returned (pv E F G H (x.1 - y.1, x.2 - y.2)) ∧ PlFresh w.heap.size w' E F G H (x.1 - y.1, x.2 - y.2) ∧ Below w.heap.size w w' := by
  have HS1 := Lib.hid (fun wz (k : Keep lo up w wz) (hz : up ≤ wz.heap.size) => rSubQ A B A2 B2 lo up m n x.1 y.1 wz (hp.h1.keep k) (hq.h1.keep k) hz hs.1 ht.1 hmn)
  have HS2 := Lib.hid (fun wz (k : Keep lo up w wz) (hz : up ≤ wz.heap.size) => rSubQ C D C2 D2 lo up m n x.2 y.2 wz (hp.h2.keep k) (hq.h2.keep k) hz hs.2 ht.2 hmn)
  have hk : ∀ o1 o2 o3, Keep lo up w (((w.alloc o1).alloc o2).alloc o3) := fun o1 o2 o3 => (((Keep.refl _ _ _).alloc hu _).alloc (by simp; omega) _).alloc (by simp; omega) _
  have HK := Lib.hid hk
  have H3 := Lib.hid (three_new w)
  clear hp hq hs ht hk
  unfold pv
  unfold qv at *
  go_enter Tryz.func157, Tryz.ntmps157
  go_wp2_with (fail)
  refine (HS1.out _ (HK.out _ _ _) (by simp; omega)).mono ?_
  obtain ⟨k1, k2, k3, k4, k5⟩ := H3.out (.cells #[.bool (decide (x.1.num < 0)), .slice A (qn x.1).length (qn x.1).length, .slice B (qd x.1).length (qd x.1).length, .bool (decide (x.2.num < 0)), .slice C (qn x.2).length (qn x.2).length, .slice D (qd x.2).length (qd x.2).length] 155) (.cells #[.bool (decide (y.1.num < 0)), .slice A2 (qn y.1).length (qn y.1).length, .slice B2 (qd y.1).length (qd y.1).length, .bool (decide (y.2.num < 0)), .slice C2 (qn y.2).length (qn y.2).length, .slice D2 (qd y.2).length (qd y.2).length] 155) (.cells #[.bool false, .slice none 0 0, .slice none 0 0, .bool false, .slice none 0 0, .slice none 0 0] 155)
  have kk := HK.out (.cells #[.bool (decide (x.1.num < 0)), .slice A (qn x.1).length (qn x.1).length, .slice B (qd x.1).length (qd x.1).length, .bool (decide (x.2.num < 0)), .slice C (qn x.2).length (qn x.2).length, .slice D (qd x.2).length (qd x.2).length] 155) (.cells #[.bool (decide (y.1.num < 0)), .slice A2 (qn y.1).length (qn y.1).length, .slice B2 (qd y.1).length (qd y.1).length, .bool (decide (y.2.num < 0)), .slice C2 (qn y.2).length (qn y.2).length, .slice D2 (qd y.2).length (qd y.2).length] 155) (.cells #[.bool false, .slice none 0 0, .slice none 0 0, .bool false, .slice none 0 0, .slice none 0 0] 155)
  generalize (((w.alloc _).alloc _).alloc _) = w3 at *
  rintro e w4 ⟨E, F, rfl, hf, hb⟩
  have s4 := hb.size
  obtain ⟨a0, a1, a2, a3, a4, a5, _⟩ := row6 ((hb.block w.heap.size (by omega)).trans k1)
  obtain ⟨b0, b1, b2, b3, b4, b5, _⟩ := row6 ((hb.block (w.heap.size + 1) (by omega)).trans k2)
  have HA := Lib.hid (And.intro ((hb.block (w.heap.size + 2) (by omega)).trans k3) (And.intro hf (And.intro (k5.trans (hb.mono (by omega))) (kk.below hb (by omega)))))
  have t1 : w.heap.size < w4.heap.size := by omega
  have t2 : w.heap.size + 1 < w4.heap.size := by omega
  clear k1 k2 k3 k5 kk hb hf
  go_wp2_with (fail)
  refine (HS2.out _ (HA.out.2.2.2.alloc (by omega) _) (by simp; omega)).mono ?_
  rintro e w5 ⟨E2, F2, rfl, hf, hb⟩
  have s5 := hb.size
  rw [World.size_alloc] at s5 hb hf
  obtain ⟨c0, c1, c2, _⟩ := row3 ((hb.block w4.heap.size (by omega)).trans (alloc_new w4 _))
  have hrow := (hb.block (w.heap.size + 2) (by omega)).trans (alloc_old HA.out.1)
  obtain ⟨d0, d1, d2, d3, d4, d5, g0, g1, g2, g3, g4, g5⟩ := row6 hrow
  have hk45 : Keep w3.heap.size w4.heap.size w4 w5 := fun i h1 h2 => (hb.block i (by omega)).trans (Below.heap_alloc w4 _ i h2)
  have HB := Lib.hid (And.intro hrow (And.intro hf (And.intro (HA.out.2.1.keep hk45 (Nat.le_refl _)) ((HA.out.2.2.1.alloc (by omega) _).trans (hb.mono (by omega))))))
  have t3 : w4.heap.size < w5.heap.size := by omega
  have t4 : w.heap.size + 2 < w5.heap.size := by omega
  have t4' : w.heap.size + 1 + 1 < w5.heap.size := by omega
  clear hb hf hk45 hrow HA a0 a1 a2 a3 a4 a5 b0 b1 b2 b3 b4 b5
  ((try dsimp only); repeat (first | go_values | go_skip | go_guarded | go_step | go_upon))
  obtain ⟨hrow, hf2, hf1, hbw⟩ := HB.out
  obtain ⟨hr, hk, hbl⟩ := six_new hrow (by omega) (.bool (decide ((x.1 - y.1).num < 0))) (.slice E (qn (x.1 - y.1)).length (qn (x.1 - y.1)).length) (.slice F (qd (x.1 - y.1)).length (qd (x.1 - y.1)).length) (.bool (decide ((x.2 - y.2).num < 0))) (.slice E2 (qn (x.2 - y.2)).length (qn (x.2 - y.2)).length) (.slice F2 (qd (x.2 - y.2)).length (qd (x.2 - y.2)).length) hbw
  refine bodyPost_ret (results_cell_row rfl _ _ (w.heap.size + 2) _ _ _ _ rfl (alloc_old hr) rfl rfl rfl) rfl ?_
  refine ⟨E, F, E2, F2, rfl, ⟨?_, ?_⟩, hbl.alloc (by rw [sixSet_size]; omega) _⟩
  · refine (RatFresh.keep (up := (sixSet (w.heap.size + 2) 0 _ _ _ _ _ _ w5).heap.size) (RatFresh.keep hf1 (hk _ (by omega) _) (Nat.le_refl _)) ((Keep.refl _ _ _).alloc (Nat.le_refl _) _) (Nat.le_of_eq rfl)).wide (by omega)
  · refine (RatFresh.keep (up := (sixSet (w.heap.size + 2) 0 _ _ _ _ _ _ w5).heap.size) (RatFresh.keep hf2 (hk _ (by omega) _) (Nat.le_refl _)) ((Keep.refl _ _ _).alloc (Nat.le_refl _) _) (Nat.le_of_eq rfl)).wide (by omega)
end Go.Proofs.YtfpofmifmapmfaaGreatDoor

namespace Go.Proofs.YtfpofmifmapmfaaGreatDoor
open Go.RowKit Go.Proofs.YtfpofmifmapmfaaGreatDoorW.PrintLast
set_option linter.unusedVariables false
set_option linter.unusedSimpArgs false
structure Fac where
  A : Option Addr
  B : Option Addr
  q : Rat
structure Prd where
  neg : Bool
  b : Nat
  fs : List Fac
def facP (fs : List Fac) : Rat := fs.foldl (fun x f => x * f.q) 1
def psum (ps : List Prd) : Rat := ps.foldl (fun t p => if p.neg then t - facP p.fs else t + facP p.fs) 0
instance : Inhabited Fac := ⟨⟨none, none, 0⟩⟩
instance : Inhabited Prd := ⟨⟨false, 0, []⟩⟩
theorem facP_succ (fs : List Fac) (k : Nat) (h : k < fs.length) : facP (fs.take (k + 1)) = facP (fs.take k) * (fs.getD k default).q := by
  unfold facP
  rw [List.take_succ_eq_append_getElem h, List.foldl_append, List.getD_eq_getElem?_getD, List.getElem?_eq_getElem h]; rfl
theorem psum_succ (ps : List Prd) (k : Nat) (h : k < ps.length) : psum (ps.take (k + 1)) = if (ps.getD k default).neg then psum (ps.take k) - facP (ps.getD k default).fs else psum (ps.take k) + facP (ps.getD k default).fs := by
  unfold psum
  rw [List.take_succ_eq_append_getElem h, List.foldl_append, List.getD_eq_getElem?_getD, List.getElem?_eq_getElem h]; rfl
structure FacsAt (w : World) (lo up b : Nat) (fs : List Fac) : Prop where
  at_ : ∀ j, j < fs.length → w.cell? ⟨b, j * 3, none⟩ = some (.bool (decide ((fs.getD j default).q.num < 0))) ∧ w.cell? ⟨b, j * 3 + 1, none⟩ = some (.slice (fs.getD j default).A (qn (fs.getD j default).q).length (qn (fs.getD j default).q).length) ∧ w.cell? ⟨b, j * 3 + 2, none⟩ = some (.slice (fs.getD j default).B (qd (fs.getD j default).q).length (qd (fs.getD j default).q).length)
  rat : ∀ j, j < fs.length → RatIn lo up w (fs.getD j default).A (fs.getD j default).B (fs.getD j default).q
structure PrdsAt (w : World) (lo up b : Nat) (ps : List Prd) : Prop where
  at_ : ∀ i, i < ps.length → w.cell? ⟨b, i * 2, none⟩ = some (.bool (ps.getD i default).neg) ∧ w.cell? ⟨b, i * 2 + 1, none⟩ = some (.slice (some ⟨(ps.getD i default).b, 0, none⟩) (ps.getD i default).fs.length (ps.getD i default).fs.length)
  facs : ∀ i, i < ps.length → FacsAt w lo up (ps.getD i default).b (ps.getD i default).fs ∧ (ps.getD i default).b < up
theorem facP_sz {s : Nat} {fs : List Fac} (h : ∀ j, j < fs.length → Sz s (fs.getD j default).q) : ∀ k, k ≤ fs.length → Sz (1 + k * s) (facP (fs.take k))
  | 0, _ => by
    rw [List.take_zero]
    exact ⟨by decide, by decide⟩ |> fun (h : Sz 1 1) => h.mono (by omega)
  | k + 1, hk => by
    rw [facP_succ fs k (by omega)]
    have := (facP_sz h k (by omega)).mul (h k (by omega))
    exact this.mono (by rw [Nat.add_mul]; omega)
theorem psum_sz {s m : Nat} {ps : List Prd} (h : ∀ i, i < ps.length → (ps.getD i default).fs.length ≤ m ∧ ∀ j, j < (ps.getD i default).fs.length → Sz s ((ps.getD i default).fs.getD j default).q) :
    ∀ k, k ≤ ps.length → Sz (1 + k * (m * s + 2)) (psum (ps.take k))
  | 0, _ => by
    rw [List.take_zero]
    exact ⟨by decide, by decide⟩ |> fun (h : Sz 1 0) => h.mono (by omega)
  | k + 1, hk => by
    rw [psum_succ ps k (by omega)]
    have h1 := psum_sz h k (by omega)
    have h2 := facP_sz (h k (by omega)).2 _ (Nat.le_refl _)
    rw [List.take_length] at h2
    have h3 : (ps.getD k default).fs.length * s ≤ m * s := Nat.mul_le_mul_right s (h k (by omega)).1
    have e : 1 + (k + 1) * (m * s + 2) = 1 + k * (m * s + 2) + (m * s + 2) := by rw [Nat.add_mul, Nat.one_mul]; omega
    split
    · exact (h1.sub h2).mono (by omega)
    · exact (h1.add h2).mono (by omega)
theorem in_three {w : World} {g lo up : Nat} {A B : Option Addr} {q : Rat} {x y z : Value} (hg : g < lo) (h : RatIn lo up w A B q) : RatIn lo up (((w.setCell ⟨g, 0, none⟩ x).setCell ⟨g, 1, none⟩ y).setCell ⟨g, 2, none⟩ z) A B q :=
  h.keep ((((Keep.refl _ _ _).setCell (Or.inl hg) _).setCell (Or.inl hg) _).setCell (Or.inl hg) _)
theorem three_size {w : World} {g : Nat} {x y z : Value} : (((w.setCell ⟨g, 0, none⟩ x).setCell ⟨g, 1, none⟩ y).setCell ⟨g, 2, none⟩ z).heap.size = w.heap.size := by simp [World.setCell]
def RatBut (lo g : Nat) (w : World) (A B : Option Addr) (q : Rat) : Prop := RatIn lo g w A B q ∨ RatIn (g + 1) w.heap.size w A B q
set_option maxRecDepth 100000 in
set_option maxHeartbeats 3200000 in
theorem pSum (b s m lo up : Nat) (ps : List Prd) (w : World) (hp : PrdsAt w lo up b ps) (hu : up ≤ w.heap.size) (hb : b < w.heap.size) (hl : ps.length ≤ 1000)
    (hs : ∀ i, i < ps.length → (ps.getD i default).fs.length ≤ m ∧ ∀ j, j < (ps.getD i default).fs.length → Sz s ((ps.getD i default).fs.getD j default).q) (hm : m ≤ 1000)
    (hz : 3 + ps.length * (m * s + 2) + m * s ≤ 262144) :
    Calls Tryz.prog 158 #[.slice (some ⟨b, 0, none⟩) ps.length ps.length] w fun e w' => ∃ E F, e = .returned (qv E F (psum ps)) ∧ RatIn w.heap.size w'.heap.size w' E F (psum ps) ∧ Below w.heap.size w w' := by
  have HP := Lib.hid hp
  have HS := Lib.hid hs
  have HI0 : Hid (∀ wz, _) := Lib.hid (fun wz => rIntQ 0 wz (by omega) (by omega))
  have HI1 : Hid (∀ (fs : List Fac) (wz : World), Calls Tryz.prog 35 #[.int .i64 1] wz fun e w' => ∃ E F, e = .returned (qv E F (facP (fs.take 0))) ∧ RatFresh wz.heap.size w' E F (facP (fs.take 0)) ∧ Below wz.heap.size wz w') := Lib.hid (fun fs wz => rIntQ 1 wz (by omega) (by omega))
  rw [show ((0 : Int) : Rat) = psum (ps.take 0) from rfl] at HI0
  clear hp hs
  unfold qv at *
  go_enter Tryz.func158, Tryz.ntmps158
  ((try dsimp only); repeat (first | go_values | go_skip | go_guarded | go_step | go_upon))
  refine (HI0.out _).mono ?_
  rintro e w1 ⟨E, F, rfl, hf1, hb1⟩
  have s1 := hb1.size
  rw [World.size_alloc] at s1 hb1 hf1
  have HA := Lib.hid (And.intro ((hb1.block w.heap.size (by omega)).trans (alloc_new w _)) (And.intro (hf1.ins) (((Below.refl _ _).alloc (Nat.le_refl _) _).trans (hb1.mono (by omega)) : Below w.heap.size w w1)))
  clear hf1 hb1
  ((try dsimp only); repeat (first | go_values | go_skip | go_guarded | go_step | go_upon))
  go_loopw [12] (fun i wr => ∃ (k : Nat) (A B : Option Addr), i = .int .i64 k ∧ k ≤ ps.length ∧ wr.heap[w1.heap.size]? = some (.cells #[.bool (decide ((psum (ps.take k)).num < 0)), .slice A (qn (psum (ps.take k))).length (qn (psum (ps.take k))).length, .slice B (qd (psum (ps.take k))).length (qd (psum (ps.take k))).length] 26 (0, 0)) ∧
    RatBut (w.heap.size + 1) w1.heap.size wr A B (psum (ps.take k)) ∧ wr.heap[w.heap.size]? = some (.cells #[.bool false, .slice none 0 0, .slice none 0 0] 26 (0, 0)) ∧ Below w.heap.size w wr) (fun i _ => ps.length - (intOf i).toNat)
  case atStart => exact ⟨0, E, F, rfl, Nat.zero_le _, alloc_new _ _, Or.inl (HA.out.2.1.keep ((Keep.refl _ _ _).alloc (Nat.le_refl _) _)), alloc_old HA.out.1, HA.out.2.2.alloc (by omega) _⟩
  case round =>
    obtain ⟨k, A, B, rfl, hk, hrow, hT, h0, hB⟩ := hrel
    have sB := hB.size
    have gT := heap_lt hrow
    by_cases hkl : k < ps.length
    · have hpk := (HP.out.at_ k hkl)
      have hp1 := (hB.cell (p := ⟨b, k * 2, none⟩) hb).trans hpk.1
      have hp2 := (hB.cell (p := ⟨b, k * 2 + 1, none⟩) hb).trans hpk.2
      obtain ⟨hfk, hfb⟩ := HP.out.facs k hkl
      obtain ⟨hsk1, hsk2⟩ := HS.out k hkl
      have hTs := psum_sz HS.out k hk
      have hnx := psum_succ ps k hkl
      generalize ps.getD k default = pr at *
      generalize hq : psum (ps.take k) = T at *
      have HD := Lib.hid (And.intro hrow (And.intro hT (And.intro h0 (And.intro hB (And.intro hTs (And.intro hnx hq))))))
      clear hrow hT h0 hB hTs hnx hq hpk
      ((try dsimp only); repeat (first | go_values | go_skip | go_guarded | go_step | go_upon))
      refine (HI1.out pr.fs _).mono ?_
      rintro e w2 ⟨E2, F2, rfl, hf2, hb2⟩
      have s2 := hb2.size
      rw [World.size_alloc] at s2 hb2 hf2
      have hp5 := (hb2.block wr.heap.size (by omega)).trans (alloc_new wr _)
      have hX0 := hf2.ins
      have hB2 := (HD.out.2.2.2.1.alloc (by omega) _).trans (hb2.mono (by omega))
      have hrow2 := (hb2.block w1.heap.size (by omega)).trans (alloc_old HD.out.1)
      have h02 := (hb2.block w.heap.size (by omega)).trans (alloc_old HD.out.2.2.1)
      have hT2 : RatIn (w.heap.size + 1) w1.heap.size w2 A B T ∨ RatIn (w1.heap.size + 1) wr.heap.size w2 A B T := by
        rcases HD.out.2.1 with h | h
        · exact Or.inl (h.keep (fun i h1 h2 => (hb2.block i (by omega)).trans (Below.heap_alloc wr _ i (by omega))))
        · exact Or.inr (h.keep (fun i h1 h2 => (hb2.block i (by omega)).trans (Below.heap_alloc wr _ i (by omega))))
      have HE := Lib.hid (And.intro hp5 (And.intro hB2 (And.intro hrow2 (And.intro h02 (And.intro hT2 hX0)))))
      obtain ⟨p0, p1⟩ := row2 hp5
      have hlt2 : wr.heap.size < w2.heap.size := by omega
      clear hf2 hb2 hp5 hX0 hB2 hrow2 h02 hT2
      ((try dsimp only); repeat (first | go_values | go_skip | go_guarded | go_step | go_upon))
      go_loopw [20] (fun i wi => ∃ (j : Nat) (A3 B3 : Option Addr), i = .int .i64 j ∧ j ≤ pr.fs.length ∧ wi.heap[w2.heap.size]? = some (.cells #[.bool (decide ((facP (pr.fs.take j)).num < 0)), .slice A3 (qn (facP (pr.fs.take j))).length (qn (facP (pr.fs.take j))).length, .slice B3 (qd (facP (pr.fs.take j))).length (qd (facP (pr.fs.take j))).length] 26 (0, 0)) ∧
        RatBut (w.heap.size + 1) w2.heap.size wi A3 B3 (facP (pr.fs.take j)) ∧ But w2.heap.size w2 wi) (fun i _ => pr.fs.length - (intOf i).toNat)
      case atStart => exact ⟨0, E2, F2, rfl, Nat.zero_le _, alloc_new _ _, Or.inl ((HE.out.2.2.2.2.2.wide (by omega) (Nat.le_refl _)).keep ((Keep.refl _ _ _).alloc (Nat.le_refl _) _)), But.of ((Below.refl _ _).alloc (Nat.le_refl _) _)⟩
      case round =>
        obtain ⟨j, A3, B3, rfl, hj, hxrow, hX, hBt⟩ := hrel
        rename World => wi
        have sI := hBt.size
        have gX := heap_lt hxrow
        by_cases hjl : j < pr.fs.length
        · obtain ⟨c0, c1, c2⟩ := hfk.at_ j hjl
          have hBi := _root_.Go.Proofs.YtfpofmifmapmfaaGreatDoor.Below.but HE.out.2.1 hBt (by omega) (by omega)
          have d0 := (hBi.cell (p := ⟨pr.b, j * 3, none⟩) (show pr.b < w.heap.size by omega)).trans c0
          have d1 := (hBi.cell (p := ⟨pr.b, j * 3 + 1, none⟩) (show pr.b < w.heap.size by omega)).trans c1
          have d2 := (hBi.cell (p := ⟨pr.b, j * 3 + 2, none⟩) (show pr.b < w.heap.size by omega)).trans c2
          have hfr := ((hfk.rat j hjl).keep (Keep.of hBi hu)).wide (Nat.zero_le _) (show up ≤ wi.heap.size by omega)
          have hsf := hsk2 j hjl
          have hXs := facP_sz hsk2 j hj
          have hXn := facP_succ pr.fs j hjl
          have hXi : RatIn 0 wi.heap.size wi A3 B3 (facP (pr.fs.take j)) := by
            rcases hX with h | h
            · exact h.wide (Nat.zero_le _) (by omega)
            · exact h.wide (Nat.zero_le _) (Nat.le_refl _)
          have hbnd : 1 + j * s + s + 1 ≤ 262144 := by
            have h1 : (j + 1) * s ≤ m * s := Nat.mul_le_mul_right s (by omega)
            rw [Nat.add_mul, Nat.one_mul] at h1
            omega
          generalize pr.fs.getD j default = fc at *
          generalize facP (pr.fs.take j) = X at *
          have HM := Lib.hid (fun (o : Obj) => rMulQ A3 B3 fc.A fc.B 0 wi.heap.size (1 + j * s) s X fc.q (wi.alloc o) (hXi.keep ((Keep.refl _ _ _).alloc (Nat.le_refl _) _)) (hfr.keep ((Keep.refl _ _ _).alloc (Nat.le_refl _) _)) (by simp) hXs hsf hbnd)
          have HF := Lib.hid (And.intro hxrow (And.intro hBt hXn))
          obtain ⟨x0, x1, x2, _⟩ := row3 hxrow
          clear hxrow hX hBt hXn hXs hsf hfr hXi c0 c1 c2
          unfold qv at HM
          ((try dsimp only); repeat (first | go_values | go_skip | go_guarded | go_step | go_upon))
          refine (HM.out _).mono ?_
          rintro e w3 ⟨E4, F4, rfl, hf4, hb4⟩
          have s4 := hb4.size
          rw [World.size_alloc] at s4 hb4 hf4
          have hr4 := (hb4.block w2.heap.size (by omega)).trans (alloc_old HF.out.1)
          obtain ⟨y0, y1, y2, y3, y4, y5⟩ := row3 hr4
          have HG := Lib.hid (And.intro hr4 (And.intro hf4 ((HF.out.2.1.trans (But.of ((Below.refl _ _).alloc (Nat.le_refl _) _))).trans (But.of (a := wi.alloc (.cells #[.bool (decide (fc.q.num < 0)), .slice fc.A (qn fc.q).length (qn fc.q).length, .slice fc.B (qd fc.q).length (qd fc.q).length] 26)) (by rw [World.size_alloc]; exact hb4)))))
          clear hr4 hf4 hb4 x0 x1 x2 d0 d1 d2
          ((try dsimp only); repeat (first | go_values | go_skip | go_guarded | go_step | go_upon))
          obtain ⟨hr4, hf4, hbt4⟩ := HG.out
          refine ⟨⟨j + 1, E4, F4, vint (by omega), by omega, ?_, ?_, ?_⟩, by simp [intOf]; omega⟩
          · rw [HF.out.2.2]; exact heap_set_three hr4 _ _ _
          · rw [HF.out.2.2]; exact Or.inr (rat_three (Nat.lt_succ_self _) (hf4.wide (by omega))).ins
          · exact ((hbt4.setCell _ _).setCell _ _).setCell _ _
        · obtain rfl : j = pr.fs.length := by omega
          have hXs := facP_sz hsk2 _ (Nat.le_refl _)
          rw [List.take_length] at *
          obtain ⟨hp5, hB2, hrow2, h02, hT2, _⟩ := HE.out
          have hp5i := (hBt.block wr.heap.size (by omega) (by omega)).trans hp5
          have hrowi := (hBt.block w1.heap.size (by omega) (by omega)).trans hrow2
          have h0i := (hBt.block w.heap.size (by omega) (by omega)).trans h02
          have hBi := _root_.Go.Proofs.YtfpofmifmapmfaaGreatDoor.Below.but hB2 hBt (by omega) (by omega)
          have hTi : RatIn 0 wi.heap.size wi A B T := by
            rcases hT2 with h | h
            · exact (h.keep (hBt.keep (by omega) (Or.inr (by omega)))).wide (Nat.zero_le _) (by omega)
            · exact (h.keep (hBt.keep (by omega) (Or.inr (by omega)))).wide (Nat.zero_le _) (by omega)
          have hXi : RatIn 0 wi.heap.size wi A3 B3 (facP pr.fs) := by
            rcases hX with h | h
            · exact h.wide (Nat.zero_le _) (by omega)
            · exact h.wide (Nat.zero_le _) (Nat.le_refl _)
          have hTs := HD.out.2.2.2.2.1
          have hXs := hXs.mono (show 1 + pr.fs.length * s ≤ m * s + 1 by have := Nat.mul_le_mul_right s hsk1; omega)
          have hbnd : 1 + k * (m * s + 2) + (m * s + 1) + 1 ≤ 262144 := by
            have h1 : k * (m * s + 2) ≤ ps.length * (m * s + 2) := Nat.mul_le_mul_right _ hk
            omega
          have hnx := HD.out.2.2.2.2.2.1
          generalize facP pr.fs = X at *
          obtain ⟨t0, t1, t2, _⟩ := row3 hrowi
          obtain ⟨x0, x1, x2, _⟩ := row3 hxrow
          obtain ⟨p0, p1⟩ := row2 hp5i
          cases hng : pr.neg
          · rw [hng] at hnx p0
            rw [if_neg (by decide)] at hnx
            have HG := Lib.hid (And.intro hnx (And.intro hrowi (And.intro h0i hBi)))
            clear hnx hrowi h0i hBi hp5 hB2 hrow2 h02 hT2 hp5i hxrow hX hBt HE
            have HN := Lib.hid ((rAddQ A B A3 B3 0 wi.heap.size (1 + k * (m * s + 2)) (m * s + 1) T X wi hTi hXi (Nat.le_refl _) hTs hXs hbnd))
            clear hTi hXi hTs hXs
            ((try dsimp only); repeat (first | go_values | go_skip | go_guarded | go_step | go_upon))
            unfold qv at HN
            refine HN.out.mono ?_
            rintro e w3 ⟨E4, F4, rfl, hf4, hb4⟩
            have s4 := hb4.size
            have hr4 := (hb4.block w1.heap.size (by omega)).trans HG.out.2.1
            obtain ⟨y0, y1, y2, y3, y4, y5⟩ := row3 hr4
            have HK := Lib.hid (And.intro hr4 (And.intro hf4 hb4))
            clear hr4 hf4 hb4 t0 t1 t2 x0 x1 x2
            ((try dsimp only); repeat (first | go_values | go_skip | go_guarded | go_step | go_upon))
            obtain ⟨hr4, hf4, hb4⟩ := HK.out
            refine ⟨⟨k + 1, E4, F4, vint (by omega), by omega, ?_, ?_, ?_, ?_⟩, by simp [intOf]; omega⟩
            · rw [HG.out.1]; exact heap_set_three hr4 _ _ _
            · rw [HG.out.1]; exact Or.inr (rat_three (Nat.lt_succ_self _) (hf4.wide (by omega))).ins
            · rw [Below.heap_setCell _ _ _ _ (by show w.heap.size ≠ w1.heap.size; omega), Below.heap_setCell _ _ _ _ (by show w.heap.size ≠ w1.heap.size; omega), Below.heap_setCell _ _ _ _ (by show w.heap.size ≠ w1.heap.size; omega)]
              exact (hb4.block w.heap.size (by omega)).trans HG.out.2.2.1
            · exact below_three (by omega) (HG.out.2.2.2.trans (hb4.mono (by omega)))
          · rw [hng] at hnx p0
            rw [if_pos rfl] at hnx
            have HG := Lib.hid (And.intro hnx (And.intro hrowi (And.intro h0i hBi)))
            clear hnx hrowi h0i hBi hp5 hB2 hrow2 h02 hT2 hp5i hxrow hX hBt HE
            have HN := Lib.hid ((rSubQ A B A3 B3 0 wi.heap.size (1 + k * (m * s + 2)) (m * s + 1) T X wi hTi hXi (Nat.le_refl _) hTs hXs hbnd))
            clear hTi hXi hTs hXs
            ((try dsimp only); repeat (first | go_values | go_skip | go_guarded | go_step | go_upon))
            unfold qv at HN
            refine HN.out.mono ?_
            rintro e w3 ⟨E4, F4, rfl, hf4, hb4⟩
            have s4 := hb4.size
            have hr4 := (hb4.block w1.heap.size (by omega)).trans HG.out.2.1
            obtain ⟨y0, y1, y2, y3, y4, y5⟩ := row3 hr4
            have HK := Lib.hid (And.intro hr4 (And.intro hf4 hb4))
            clear hr4 hf4 hb4 t0 t1 t2 x0 x1 x2
            ((try dsimp only); repeat (first | go_values | go_skip | go_guarded | go_step | go_upon))
            obtain ⟨hr4, hf4, hb4⟩ := HK.out
            refine ⟨⟨k + 1, E4, F4, vint (by omega), by omega, ?_, ?_, ?_, ?_⟩, by simp [intOf]; omega⟩
            · rw [HG.out.1]; exact heap_set_three hr4 _ _ _
            · rw [HG.out.1]; exact Or.inr (rat_three (Nat.lt_succ_self _) (hf4.wide (by omega))).ins
            · rw [Below.heap_setCell _ _ _ _ (by show w.heap.size ≠ w1.heap.size; omega), Below.heap_setCell _ _ _ _ (by show w.heap.size ≠ w1.heap.size; omega), Below.heap_setCell _ _ _ _ (by show w.heap.size ≠ w1.heap.size; omega)]
              exact (hb4.block w.heap.size (by omega)).trans HG.out.2.2.1
            · exact below_three (by omega) (HG.out.2.2.2.trans (hb4.mono (by omega)))
    · obtain rfl : k = ps.length := by omega
      rw [List.take_length] at *
      obtain ⟨t0, t1, t2, _⟩ := row3 hrow
      obtain ⟨z0, z1, z2, z3, z4, z5⟩ := row3 h0
      have HD := Lib.hid (And.intro h0 (And.intro hT hB))
      clear h0 hT hB hrow
      ((try dsimp only); repeat (first | go_values | go_skip | go_guarded | go_step | go_upon))
      refine bodyPost_ret (results_cell_row rfl _ _ w.heap.size _ _ _ _ rfl (heap_set_three HD.out.1 _ _ _) rfl rfl rfl) rfl ?_
      obtain ⟨h0, hT, hB⟩ := HD.out
      have hT' : RatIn (w.heap.size + 1) wr.heap.size wr A B (psum ps) := by
        rcases hT with h | h
        · exact h.wide (Nat.le_refl _) (by omega)
        · exact h.wide (by omega) (Nat.le_refl _)
      have hT2 := (in_three (g := w.heap.size) (x := .bool (decide ((psum ps).num < 0))) (y := .slice A (qn (psum ps)).length (qn (psum ps)).length) (z := .slice B (qd (psum ps)).length (qd (psum ps)).length) (by omega) hT').wide (lo' := w.heap.size) (by omega) (Nat.le_refl _)
      refine ⟨A, B, rfl, ?_, below_three (Nat.le_refl _) hB⟩
      rw [three_size]
      exact hT2
end Go.Proofs.YtfpofmifmapmfaaGreatDoor

namespace Go.Proofs.YtfpofmifmapmfaaGreatDoor
open Go.RowKit Go.Proofs.YtfpofmifmapmfaaGreatDoorW.PrintLast
set_option linter.unusedVariables false
set_option linter.unusedSimpArgs false
set_option maxRecDepth 100000 in
theorem pPlus (A : Option Addr) (l c : Nat) (w : World) :
    Calls Tryz.prog 159 #[.slice A l c] w fun e w' => e = .returned (.agg #[.bool false, .slice A l c]) ∧ Below w.heap.size w w' := by
  go_enter Tryz.func159, Tryz.ntmps159
  ((try dsimp only); repeat (first | go_values | go_skip | go_guarded | go_step | go_upon))
  refine bodyPost_ret (results_cell_row rfl _ _ w.heap.size _ _ _ _ rfl (alloc_new _ _) rfl rfl rfl) rfl ?_
  exact ⟨rfl, (by repeat (first | exact Below.refl _ _ | refine belowN ?_ _ | refine Below.drew ?_ | refine Below.alloc ?_ (by first | exact Nat.le_refl _ | (simp; done) | (simp; omega) | omega) _))⟩
set_option maxRecDepth 100000 in
theorem pMinus (A : Option Addr) (l c : Nat) (w : World) :
    Calls Tryz.prog 160 #[.slice A l c] w fun e w' => e = .returned (.agg #[.bool true, .slice A l c]) ∧ Below w.heap.size w w' := by
  go_enter Tryz.func160, Tryz.ntmps160
  ((try dsimp only); repeat (first | go_values | go_skip | go_guarded | go_step | go_upon))
  refine bodyPost_ret (results_cell_row rfl _ _ w.heap.size _ _ _ _ rfl (alloc_new _ _) rfl rfl rfl) rfl ?_
  exact ⟨rfl, (by repeat (first | exact Below.refl _ _ | refine belowN ?_ _ | refine Below.drew ?_ | refine Below.alloc ?_ (by first | exact Nat.le_refl _ | (simp; done) | (simp; omega) | omega) _))⟩
set_option maxRecDepth 100000 in
set_option maxHeartbeats 1600000 in
theorem pOrder (A B C D A2 B2 C2 D2 : Option Addr) (lo up m n : Nat) (x y : Pl) (w : World) (hp : PlIn lo up w A B C D x) (hq : PlIn lo up w A2 B2 C2 D2 y) (hu : up ≤ w.heap.size)
    (hs : PSz m x) (ht : PSz n y) (hmn : m + n + 1 ≤ 262144) :
    Calls Tryz.prog 139 #[pv A B C D x, pv A2 B2 C2 D2 y] w fun e w' => e = .returned (.int .i64 (pcmp x y)) ∧ Below w.heap.size w w' := by
  have HS1 := Lib.hid (fun wz (k : Keep lo up w wz) (hz : up ≤ wz.heap.size) => pCompare A B A2 B2 lo up m n x.1 y.1 wz (hp.h1.keep k) (hq.h1.keep k) hz hs.1 ht.1 hmn)
  have HS2 := Lib.hid (fun wz (k : Keep lo up w wz) (hz : up ≤ wz.heap.size) => pCompare C D C2 D2 lo up m n x.2 y.2 wz (hp.h2.keep k) (hq.h2.keep k) hz hs.2 ht.2 hmn)
  have HP : Hid (pcmp x y = if qcmp x.1 y.1 ≠ 0 then qcmp x.1 y.1 else qcmp x.2 y.2) := Lib.hid rfl
  have hk : ∀ o1 o2, Keep lo up w ((w.alloc o1).alloc o2) := fun o1 o2 => ((Keep.refl _ _ _).alloc hu _).alloc (by simp; omega) _
  have HK := Lib.hid hk
  have HB := Lib.hid (two_blocks w)
  have HB2 : Hid (∀ o1 o2, Below w.heap.size w ((w.alloc o1).alloc o2)) := Lib.hid (fun o1 o2 => (by repeat (first | exact Below.refl _ _ | refine belowN ?_ _ | refine Below.drew ?_ | refine Below.alloc ?_ (by first | exact Nat.le_refl _ | (simp; done) | (simp; omega) | omega) _)))
  clear hp hq hs ht hk
  generalize hc1 : qcmp x.1 y.1 = c1 at *
  generalize hc2 : qcmp x.2 y.2 = c2 at *
  generalize pcmp x y = r at *
  have HC := Lib.hid (And.intro hc1 hc2)
  clear hc1 hc2
  unfold pv
  unfold qv at *
  by_cases h0 : c1 = 0
  · rw [if_neg (by simp [h0])] at HP
    subst h0
    go_enter Tryz.func139, Tryz.ntmps139
    ((try dsimp only); repeat (first | go_values | go_skip | go_guarded | go_step | go_upon))
    refine (HS1.out _ (HK.out _ _) (by simp; omega)).mono ?_
    rintro e w1 ⟨rfl, hb⟩
    have s1 := hb.size
    rw [World.size_alloc, World.size_alloc] at s1 hb
    obtain ⟨k1, k2⟩ := HB.out (.cells #[.bool (decide (x.1.num < 0)), .slice A (qn x.1).length (qn x.1).length, .slice B (qd x.1).length (qd x.1).length, .bool (decide (x.2.num < 0)), .slice C (qn x.2).length (qn x.2).length, .slice D (qd x.2).length (qd x.2).length] 155) (.cells #[.bool (decide (y.1.num < 0)), .slice A2 (qn y.1).length (qn y.1).length, .slice B2 (qd y.1).length (qd y.1).length, .bool (decide (y.2.num < 0)), .slice C2 (qn y.2).length (qn y.2).length, .slice D2 (qd y.2).length (qd y.2).length] 155)
    obtain ⟨a0, a1, a2, a3, a4, a5, _⟩ := row6 ((hb.block w.heap.size (by omega)).trans k1)
    obtain ⟨b0, b1, b2, b3, b4, b5, _⟩ := row6 ((hb.block (w.heap.size + 1) (by omega)).trans k2)
    have HE := Lib.hid (And.intro ((HK.out _ _).below hb (by omega)) ((HB2.out _ _).trans (hb.mono (by omega))))
    clear k1 k2 hb
    ((try dsimp only); repeat (first | go_values | go_skip | go_guarded | go_step | go_upon))
    refine (HS2.out _ HE.out.1 (by omega)).mono ?_
    rintro e w2 ⟨rfl, hb⟩
    have HF := Lib.hid (HE.out.2.trans (hb.mono (by omega)))
    clear hb a0 a1 a2 a3 a4 a5 b0 b1 b2 b3 b4 b5
    ((try dsimp only); repeat (first | go_values | go_skip | go_guarded | go_step | go_upon))
    go_ret
    exact ⟨R1 HP.out.symm, HF.out⟩
  · rw [if_pos h0] at HP
    have hb0 : (c1 == 0) = false := beq_eq_false_iff_ne.2 h0
    clear h0
    go_enter Tryz.func139, Tryz.ntmps139
    ((try dsimp only); repeat (first | go_values | go_skip | go_guarded | go_step | go_upon))
    refine (HS1.out _ (HK.out _ _) (by simp; omega)).mono ?_
    rintro e w1 ⟨rfl, hb⟩
    rw [World.size_alloc, World.size_alloc] at hb
    have HE := Lib.hid ((HB2.out _ _).trans (hb.mono (by omega)))
    clear hb
    ((try dsimp only); repeat (first | go_values | go_skip | go_guarded | go_step | go_upon))
    go_ret
    exact ⟨R1 HP.out.symm, HE.out⟩
end Go.Proofs.YtfpofmifmapmfaaGreatDoor

namespace Go.Proofs.YtfpofmifmapmfaaGreatDoor
open Go.RowKit Go.Proofs.YtfpofmifmapmfaaGreatDoorW.PrintLast
set_option linter.unusedVariables false
set_option linter.unusedSimpArgs false
theorem FreshAt.off {lo : Nat} {w w' : World} {A : Option Addr} {c : Nat} {xs : List Int} (h : FreshAt lo w A c xs) {g : Nat} {C : Array Value} {t : TypeId} {f : Nat × Nat} (hg : w.heap[g]? = some (.cells C t f)) (ht : t ≠ 36) (k : ∀ i, i ≠ g → w'.heap[i]? = w.heap[i]?) : FreshAt lo w' A c xs := by
  rcases h with h | ⟨b, C', rfl, h1, h2, h3, h4, h5⟩
  · exact Or.inl h
  · refine Or.inr ⟨b, C', rfl, h1, ?_, h3, h4, h5⟩
    rw [k b ?_]; exact h2
    rintro rfl
    rw [hg] at h2
    injection h2 with h2
    injection h2 with _ h2 _
    exact ht h2
theorem RatFresh.off {lo : Nat} {w w' : World} {A B : Option Addr} {q : Rat} (h : RatFresh lo w A B q) {g : Nat} {C : Array Value} {t : TypeId} {f : Nat × Nat} (hg : w.heap[g]? = some (.cells C t f)) (ht : t ≠ 36) (k : ∀ i, i ≠ g → w'.heap[i]? = w.heap[i]?) : RatFresh lo w' A B q := ⟨h.n.off hg ht k, h.d.off hg ht k⟩
theorem PlFresh.off {lo : Nat} {w w' : World} {A B C1 D : Option Addr} {x : Pl} (h : PlFresh lo w A B C1 D x) {g : Nat} {C : Array Value} {t : TypeId} {f : Nat × Nat} (hg : w.heap[g]? = some (.cells C t f)) (ht : t ≠ 36) (k : ∀ i, i ≠ g → w'.heap[i]? = w.heap[i]?) : PlFresh lo w' A B C1 D x := ⟨h.h1.off hg ht k, h.h2.off hg ht k⟩
theorem sixSet_other {w : World} {g o : Nat} {v0 v1 v2 v3 v4 v5 : Value} (i : Nat) (h : i ≠ g) : (sixSet g o v0 v1 v2 v3 v4 v5 w).heap[i]? = w.heap[i]? := by
  unfold sixSet
  rw [Below.heap_setCell _ _ _ _ h, Below.heap_setCell _ _ _ _ h, Below.heap_setCell _ _ _ _ h, Below.heap_setCell _ _ _ _ h, Below.heap_setCell _ _ _ _ h, Below.heap_setCell _ _ _ _ h]
def six0 : Array Value := #[.bool false, .slice none 0 0, .slice none 0 0, .bool false, .slice none 0 0, .slice none 0 0]
structure AreaS (w4 : World) (b1 b2 b3 : Nat) (A B C D A2 B2 C2 D2 A3 B3 C3 D3 : Option Addr) (a b c : Pl) (w' : World) : Prop where
  blw : Below w4.heap.size w4 w'
  s1 : Six w' b1 0 A B C D a
  s2 : Six w' b2 0 A2 B2 C2 D2 b
  s3 : Six w' b3 0 A3 B3 C3 D3 c
theorem AreaS.keep {w4 : World} {b1 b2 b3 : Nat} {A B C D A2 B2 C2 D2 A3 B3 C3 D3 : Option Addr} {a b c : Pl} {w' w'' : World} (h : AreaS w4 b1 b2 b3 A B C D A2 B2 C2 D2 A3 B3 C3 D3 a b c w') (k : Below w'.heap.size w' w'') (h1 : b1 < w4.heap.size) (h2 : b2 < w4.heap.size) (h3 : b3 < w4.heap.size) : AreaS w4 b1 b2 b3 A B C D A2 B2 C2 D2 A3 B3 C3 D3 a b c w'' :=
  have s := h.blw.size
  ⟨h.blw.trans (k.mono s), h.s1.keep k (by omega), h.s2.keep k (by omega), h.s3.keep k (by omega)⟩
structure AV where
  e : Option Addr
  f : Option Addr
  g : Option Addr
  h : Option Addr
  e' : Option Addr
  f' : Option Addr
  g' : Option Addr
  h' : Option Addr
  g7 : Nat
  g8 : Nat
theorem four_new (w : World) (o1 o2 o3 o4 : Obj) : ((((w.alloc o1).alloc o2).alloc o3).alloc o4).heap[w.heap.size]? = some o1 ∧ ((((w.alloc o1).alloc o2).alloc o3).alloc o4).heap[w.heap.size + 1]? = some o2 ∧ ((((w.alloc o1).alloc o2).alloc o3).alloc o4).heap[w.heap.size + 1 + 1]? = some o3 ∧ ((((w.alloc o1).alloc o2).alloc o3).alloc o4).heap[w.heap.size + 1 + 1 + 1]? = some o4 ∧
    ((((w.alloc o1).alloc o2).alloc o3).alloc o4).heap.size = w.heap.size + 4 ∧ Below w.heap.size w ((((w.alloc o1).alloc o2).alloc o3).alloc o4) :=
  ⟨alloc_old (alloc_old (alloc_old (alloc_new _ _))), alloc_old (alloc_old (alloc_at _ (by simp))), alloc_old (alloc_at _ (by simp)), alloc_at _ (by simp), by simp only [World.size_alloc], (by repeat (first | exact Below.refl _ _ | refine belowN ?_ _ | refine Below.drew ?_ | refine Below.alloc ?_ (by first | exact Nat.le_refl _ | (simp; done) | (simp; omega) | omega) _))⟩
theorem Six.row {w : World} {g : Nat} {t : TypeId} {f : Nat × Nat} {A B C1 D : Option Addr} {x : Pl} (h : w.heap[g]? = some (.cells #[.bool (decide (x.1.num < 0)), .slice A (qn x.1).length (qn x.1).length, .slice B (qd x.1).length (qd x.1).length, .bool (decide (x.2.num < 0)), .slice C1 (qn x.2).length (qn x.2).length, .slice D (qd x.2).length (qd x.2).length] t f)) : Six w g 0 A B C1 D x :=
  Six.of_row h rfl rfl rfl rfl rfl rfl
theorem area_mid {w4 wj : World} {n g7 g8 : Nat} {e1 f1 g1 i1 e2 f2 g2 i2 : Option Addr} {u v : Pl} (k2 : PlFresh n wj e1 f1 g1 i1 u) (k5 : PlFresh n wj e2 f2 g2 i2 v) (ne : g7 ≠ g8)
    (k7 : wj.heap[g7]? = some (.cells #[.bool false, .slice none 0 0, .slice none 0 0, .bool false, .slice none 0 0, .slice none 0 0] 155 (0, 0))) (k8 : wj.heap[g8]? = some (.cells #[.bool false, .slice none 0 0, .slice none 0 0, .bool false, .slice none 0 0, .slice none 0 0] 155 (0, 0)))
    (m7 : n ≤ g7) (m8 : n ≤ g8) (hb : Below n w4 wj) (w10 : World) (hw : w10 = sixSet g8 0 (.bool (decide (v.1.num < 0))) (.slice e2 (qn v.1).length (qn v.1).length) (.slice f2 (qd v.1).length (qd v.1).length) (.bool (decide (v.2.num < 0))) (.slice g2 (qn v.2).length (qn v.2).length) (.slice i2 (qd v.2).length (qd v.2).length) (sixSet g7 0 (.bool (decide (u.1.num < 0))) (.slice e1 (qn u.1).length (qn u.1).length) (.slice f1 (qd u.1).length (qd u.1).length) (.bool (decide (u.2.num < 0))) (.slice g1 (qn u.2).length (qn u.2).length) (.slice i1 (qd u.2).length (qd u.2).length) wj)) :
    Six w10 g7 0 e1 f1 g1 i1 u ∧ Six w10 g8 0 e2 f2 g2 i2 v ∧ PlFresh n w10 e1 f1 g1 i1 u ∧ PlFresh n w10 e2 f2 g2 i2 v ∧ Below n w4 w10 ∧ g7 < w10.heap.size ∧ g8 < w10.heap.size := by
  obtain ⟨r7, _, b7⟩ := six_new k7 m7 (.bool (decide (u.1.num < 0))) (.slice e1 (qn u.1).length (qn u.1).length) (.slice f1 (qd u.1).length (qd u.1).length) (.bool (decide (u.2.num < 0))) (.slice g1 (qn u.2).length (qn u.2).length) (.slice i1 (qd u.2).length (qd u.2).length) hb
  have r8 := (sixSet_other (o := 0) (v0 := .bool (decide (u.1.num < 0))) (v1 := .slice e1 (qn u.1).length (qn u.1).length) (v2 := .slice f1 (qd u.1).length (qd u.1).length) (v3 := .bool (decide (u.2.num < 0))) (v4 := .slice g1 (qn u.2).length (qn u.2).length) (v5 := .slice i1 (qd u.2).length (qd u.2).length) g8 (Ne.symm ne)).trans k8
  have a2 := k2.off (w' := sixSet g7 0 (.bool (decide (u.1.num < 0))) (.slice e1 (qn u.1).length (qn u.1).length) (.slice f1 (qd u.1).length (qd u.1).length) (.bool (decide (u.2.num < 0))) (.slice g1 (qn u.2).length (qn u.2).length) (.slice i1 (qd u.2).length (qd u.2).length) wj) k7 (by decide) (fun i h => sixSet_other i h)
  have a5 := k5.off (w' := sixSet g7 0 (.bool (decide (u.1.num < 0))) (.slice e1 (qn u.1).length (qn u.1).length) (.slice f1 (qd u.1).length (qd u.1).length) (.bool (decide (u.2.num < 0))) (.slice g1 (qn u.2).length (qn u.2).length) (.slice i1 (qd u.2).length (qd u.2).length) wj) k7 (by decide) (fun i h => sixSet_other i h)
  generalize sixSet g7 0 _ _ _ _ _ _ wj = w9 at *
  obtain ⟨s8, _, b8⟩ := six_new r8 m8 (.bool (decide (v.1.num < 0))) (.slice e2 (qn v.1).length (qn v.1).length) (.slice f2 (qd v.1).length (qd v.1).length) (.bool (decide (v.2.num < 0))) (.slice g2 (qn v.2).length (qn v.2).length) (.slice i2 (qd v.2).length (qd v.2).length) b7
  have s7 := (sixSet_other (o := 0) (v0 := .bool (decide (v.1.num < 0))) (v1 := .slice e2 (qn v.1).length (qn v.1).length) (v2 := .slice f2 (qd v.1).length (qd v.1).length) (v3 := .bool (decide (v.2.num < 0))) (v4 := .slice g2 (qn v.2).length (qn v.2).length) (v5 := .slice i2 (qd v.2).length (qd v.2).length) (w := w9) (g := g8) g7 ne).trans r7
  have c2 := a2.off (w' := sixSet g8 0 (.bool (decide (v.1.num < 0))) (.slice e2 (qn v.1).length (qn v.1).length) (.slice f2 (qd v.1).length (qd v.1).length) (.bool (decide (v.2.num < 0))) (.slice g2 (qn v.2).length (qn v.2).length) (.slice i2 (qd v.2).length (qd v.2).length) w9) r8 (by decide) (fun i h => sixSet_other i h)
  have c5 := a5.off (w' := sixSet g8 0 (.bool (decide (v.1.num < 0))) (.slice e2 (qn v.1).length (qn v.1).length) (.slice f2 (qd v.1).length (qd v.1).length) (.bool (decide (v.2.num < 0))) (.slice g2 (qn v.2).length (qn v.2).length) (.slice i2 (qd v.2).length (qd v.2).length) w9) r8 (by decide) (fun i h => sixSet_other i h)
  subst hw
  exact ⟨Six.row s7, Six.row s8, c2, c5, b8, heap_lt s7, heap_lt s8⟩
structure AreaT (wk : World) (g7 g8 : Nat) (e1 f1 g1 i1 e2 f2 g2 i2 : Option Addr) (u v : Pl) (w' : World) : Prop where
  blw : Below wk.heap.size wk w'
  s1 : Six w' g7 0 e1 f1 g1 i1 u
  s2 : Six w' g8 0 e2 f2 g2 i2 v
theorem AreaT.keep {wk : World} {g7 g8 : Nat} {e1 f1 g1 i1 e2 f2 g2 i2 : Option Addr} {u v : Pl} {w' w'' : World} (h : AreaT wk g7 g8 e1 f1 g1 i1 e2 f2 g2 i2 u v w') (k : Below w'.heap.size w' w'') (h1 : g7 < wk.heap.size) (h2 : g8 < wk.heap.size) : AreaT wk g7 g8 e1 f1 g1 i1 e2 f2 g2 i2 u v w'' :=
  have s := h.blw.size
  ⟨h.blw.trans (k.mono s), h.s1.keep k (by omega), h.s2.keep k (by omega)⟩
theorem area_prds {w : World} {b4 b10 : Nat} {e1 f1 g1 i1 e2 f2 g2 i2 : Option Addr} {u v : Pl}
    (r4 : w.heap[b4]? = some (.cells #[.bool (decide (u.1.num < 0)), .slice e1 (qn u.1).length (qn u.1).length, .slice f1 (qd u.1).length (qd u.1).length, .bool (decide (v.2.num < 0)), .slice g2 (qn v.2).length (qn v.2).length, .slice i2 (qd v.2).length (qd v.2).length] 26 (0, 0)))
    (r10 : w.heap[b10]? = some (.cells #[.bool (decide (u.2.num < 0)), .slice g1 (qn u.2).length (qn u.2).length, .slice i1 (qd u.2).length (qd u.2).length, .bool (decide (v.1.num < 0)), .slice e2 (qn v.1).length (qn v.1).length, .slice f2 (qd v.1).length (qd v.1).length] 26 (0, 0)))
    (pu : PlIn 0 w.heap.size w e1 f1 g1 i1 u) (pw : PlIn 0 w.heap.size w e2 f2 g2 i2 v) :
    PrdsAt (w.alloc (.cells #[.bool false, .slice (some ⟨b4, 0, none⟩) 2 2, .bool true, .slice (some ⟨b10, 0, none⟩) 2 2] 211)) 0 w.heap.size w.heap.size [⟨false, b4, [⟨e1, f1, u.1⟩, ⟨g2, i2, v.2⟩]⟩, ⟨true, b10, [⟨g1, i1, u.2⟩, ⟨e2, f2, v.1⟩]⟩] := by
  have q := alloc_new w (.cells #[.bool false, .slice (some ⟨b4, 0, none⟩) 2 2, .bool true, .slice (some ⟨b10, 0, none⟩) 2 2] 211)
  have r4' := alloc_old (x := .cells #[.bool false, .slice (some ⟨b4, 0, none⟩) 2 2, .bool true, .slice (some ⟨b10, 0, none⟩) 2 2] 211) r4
  have r10' := alloc_old (x := .cells #[.bool false, .slice (some ⟨b4, 0, none⟩) 2 2, .bool true, .slice (some ⟨b10, 0, none⟩) 2 2] 211) r10
  have kk := (Keep.refl 0 w.heap.size w).alloc (Nat.le_refl _) (.cells #[.bool false, .slice (some ⟨b4, 0, none⟩) 2 2, .bool true, .slice (some ⟨b10, 0, none⟩) 2 2] 211)
  have pu' := pu.keep kk
  have pw' := pw.keep kk
  have l4 := heap_lt r4
  have l10 := heap_lt r10
  refine ⟨fun i hi => ?_, fun i hi => ?_⟩
  · match i, hi with
    | 0, _ => exact ⟨by rw [cell_of_cells q]; rfl, by rw [cell_of_cells q]; rfl⟩
    | 1, _ => exact ⟨by rw [cell_of_cells q]; rfl, by rw [cell_of_cells q]; rfl⟩
  · match i, hi with
    | 0, _ =>
      refine ⟨⟨fun j hj => ?_, fun j hj => ?_⟩, l4⟩
      · match j, hj with
        | 0, _ => exact ⟨by rw [show (([⟨false, b4, [⟨e1, f1, u.1⟩, ⟨g2, i2, v.2⟩]⟩, ⟨true, b10, [⟨g1, i1, u.2⟩, ⟨e2, f2, v.1⟩]⟩] : List Prd).getD 0 default).b = b4 from rfl, cell_of_cells r4']; rfl, by rw [show (([⟨false, b4, [⟨e1, f1, u.1⟩, ⟨g2, i2, v.2⟩]⟩, ⟨true, b10, [⟨g1, i1, u.2⟩, ⟨e2, f2, v.1⟩]⟩] : List Prd).getD 0 default).b = b4 from rfl, cell_of_cells r4']; rfl, by rw [show (([⟨false, b4, [⟨e1, f1, u.1⟩, ⟨g2, i2, v.2⟩]⟩, ⟨true, b10, [⟨g1, i1, u.2⟩, ⟨e2, f2, v.1⟩]⟩] : List Prd).getD 0 default).b = b4 from rfl, cell_of_cells r4']; rfl⟩
        | 1, _ => exact ⟨by rw [show (([⟨false, b4, [⟨e1, f1, u.1⟩, ⟨g2, i2, v.2⟩]⟩, ⟨true, b10, [⟨g1, i1, u.2⟩, ⟨e2, f2, v.1⟩]⟩] : List Prd).getD 0 default).b = b4 from rfl, cell_of_cells r4']; rfl, by rw [show (([⟨false, b4, [⟨e1, f1, u.1⟩, ⟨g2, i2, v.2⟩]⟩, ⟨true, b10, [⟨g1, i1, u.2⟩, ⟨e2, f2, v.1⟩]⟩] : List Prd).getD 0 default).b = b4 from rfl, cell_of_cells r4']; rfl, by rw [show (([⟨false, b4, [⟨e1, f1, u.1⟩, ⟨g2, i2, v.2⟩]⟩, ⟨true, b10, [⟨g1, i1, u.2⟩, ⟨e2, f2, v.1⟩]⟩] : List Prd).getD 0 default).b = b4 from rfl, cell_of_cells r4']; rfl⟩
      · match j, hj with
        | 0, _ => exact pu'.h1
        | 1, _ => exact pw'.h2
    | 1, _ =>
      refine ⟨⟨fun j hj => ?_, fun j hj => ?_⟩, l10⟩
      · match j, hj with
        | 0, _ => exact ⟨by rw [show (([⟨false, b4, [⟨e1, f1, u.1⟩, ⟨g2, i2, v.2⟩]⟩, ⟨true, b10, [⟨g1, i1, u.2⟩, ⟨e2, f2, v.1⟩]⟩] : List Prd).getD 1 default).b = b10 from rfl, cell_of_cells r10']; rfl, by rw [show (([⟨false, b4, [⟨e1, f1, u.1⟩, ⟨g2, i2, v.2⟩]⟩, ⟨true, b10, [⟨g1, i1, u.2⟩, ⟨e2, f2, v.1⟩]⟩] : List Prd).getD 1 default).b = b10 from rfl, cell_of_cells r10']; rfl, by rw [show (([⟨false, b4, [⟨e1, f1, u.1⟩, ⟨g2, i2, v.2⟩]⟩, ⟨true, b10, [⟨g1, i1, u.2⟩, ⟨e2, f2, v.1⟩]⟩] : List Prd).getD 1 default).b = b10 from rfl, cell_of_cells r10']; rfl⟩
        | 1, _ => exact ⟨by rw [show (([⟨false, b4, [⟨e1, f1, u.1⟩, ⟨g2, i2, v.2⟩]⟩, ⟨true, b10, [⟨g1, i1, u.2⟩, ⟨e2, f2, v.1⟩]⟩] : List Prd).getD 1 default).b = b10 from rfl, cell_of_cells r10']; rfl, by rw [show (([⟨false, b4, [⟨e1, f1, u.1⟩, ⟨g2, i2, v.2⟩]⟩, ⟨true, b10, [⟨g1, i1, u.2⟩, ⟨e2, f2, v.1⟩]⟩] : List Prd).getD 1 default).b = b10 from rfl, cell_of_cells r10']; rfl, by rw [show (([⟨false, b4, [⟨e1, f1, u.1⟩, ⟨g2, i2, v.2⟩]⟩, ⟨true, b10, [⟨g1, i1, u.2⟩, ⟨e2, f2, v.1⟩]⟩] : List Prd).getD 1 default).b = b10 from rfl, cell_of_cells r10']; rfl⟩
      · match j, hj with
        | 0, _ => exact pu'.h2
        | 1, _ => exact pw'.h1
theorem area_small {n b4 b10 : Nat} {e1 f1 g1 i1 e2 f2 g2 i2 : Option Addr} {u v : Pl} (hu : PSz n u) (hv : PSz n v) : ∀ i, i < ([⟨false, b4, [⟨e1, f1, u.1⟩, ⟨g2, i2, v.2⟩]⟩, ⟨true, b10, [⟨g1, i1, u.2⟩, ⟨e2, f2, v.1⟩]⟩] : List Prd).length →
    (([⟨false, b4, [⟨e1, f1, u.1⟩, ⟨g2, i2, v.2⟩]⟩, ⟨true, b10, [⟨g1, i1, u.2⟩, ⟨e2, f2, v.1⟩]⟩] : List Prd).getD i default).fs.length ≤ 2 ∧ ∀ j, j < (([⟨false, b4, [⟨e1, f1, u.1⟩, ⟨g2, i2, v.2⟩]⟩, ⟨true, b10, [⟨g1, i1, u.2⟩, ⟨e2, f2, v.1⟩]⟩] : List Prd).getD i default).fs.length → Sz n ((([⟨false, b4, [⟨e1, f1, u.1⟩, ⟨g2, i2, v.2⟩]⟩, ⟨true, b10, [⟨g1, i1, u.2⟩, ⟨e2, f2, v.1⟩]⟩] : List Prd).getD i default).fs.getD j default).q := by
  intro i hi
  match i, hi with
  | 0, _ => exact ⟨Nat.le_refl _, fun j hj => match j, hj with | 0, _ => hu.1 | 1, _ => hv.2⟩
  | 1, _ => exact ⟨Nat.le_refl _, fun j hj => match j, hj with | 0, _ => hu.2 | 1, _ => hv.1⟩
theorem area_psum (u v a b c : Pl) (hu : u = (b.1 - a.1, b.2 - a.2)) (hv : v = (c.1 - a.1, c.2 - a.2)) (b4 b10 : Nat) (E F G H E' F' G' H' : Option Addr) :
    psum [⟨false, b4, [⟨E, F, u.1⟩, ⟨G', H', v.2⟩]⟩, ⟨true, b10, [⟨G, H, u.2⟩, ⟨E', F', v.1⟩]⟩] = area2 a b c := by
  subst hu hv
  show (0 : Rat) + 1 * (b.1 - a.1) * (c.2 - a.2) - 1 * (b.2 - a.2) * (c.1 - a.1) = _
  unfold area2
  grind
theorem area_sum {w : World} {b4 b10 s : Nat} {e1 f1 g1 i1 e2 f2 g2 i2 : Option Addr} {u v : Pl}
    (r4 : w.heap[b4]? = some (.cells #[.bool (decide (u.1.num < 0)), .slice e1 (qn u.1).length (qn u.1).length, .slice f1 (qd u.1).length (qd u.1).length, .bool (decide (v.2.num < 0)), .slice g2 (qn v.2).length (qn v.2).length, .slice i2 (qd v.2).length (qd v.2).length] 26 (0, 0)))
    (r10 : w.heap[b10]? = some (.cells #[.bool (decide (u.2.num < 0)), .slice g1 (qn u.2).length (qn u.2).length, .slice i1 (qd u.2).length (qd u.2).length, .bool (decide (v.1.num < 0)), .slice e2 (qn v.1).length (qn v.1).length, .slice f2 (qd v.1).length (qd v.1).length] 26 (0, 0)))
    (pu : PlIn 0 w.heap.size w e1 f1 g1 i1 u) (pw : PlIn 0 w.heap.size w e2 f2 g2 i2 v) (su : PSz s u) (sv : PSz s v) (hs : s ≤ 40001) :
    Calls Tryz.prog 158 #[.slice (some ⟨w.heap.size, 0, none⟩) 2 2] (w.alloc (.cells #[.bool false, .slice (some ⟨b4, 0, none⟩) 2 2, .bool true, .slice (some ⟨b10, 0, none⟩) 2 2] 211)) fun e w' =>
      ∃ E F, e = .returned (qv E F (psum [⟨false, b4, [⟨e1, f1, u.1⟩, ⟨g2, i2, v.2⟩]⟩, ⟨true, b10, [⟨g1, i1, u.2⟩, ⟨e2, f2, v.1⟩]⟩])) ∧ RatIn (w.alloc (.cells #[.bool false, .slice (some ⟨b4, 0, none⟩) 2 2, .bool true, .slice (some ⟨b10, 0, none⟩) 2 2] 211)).heap.size w'.heap.size w' E F (psum [⟨false, b4, [⟨e1, f1, u.1⟩, ⟨g2, i2, v.2⟩]⟩, ⟨true, b10, [⟨g1, i1, u.2⟩, ⟨e2, f2, v.1⟩]⟩]) ∧
        Below (w.alloc (.cells #[.bool false, .slice (some ⟨b4, 0, none⟩) 2 2, .bool true, .slice (some ⟨b10, 0, none⟩) 2 2] 211)).heap.size (w.alloc (.cells #[.bool false, .slice (some ⟨b4, 0, none⟩) 2 2, .bool true, .slice (some ⟨b10, 0, none⟩) 2 2] 211)) w' := by
  have hP := area_prds r4 r10 pu pw
  have hS := area_small (b4 := b4) (b10 := b10) (e1 := e1) (f1 := f1) (g1 := g1) (i1 := i1) (e2 := e2) (f2 := f2) (g2 := g2) (i2 := i2) su sv
  have hl : ([⟨false, b4, [⟨e1, f1, u.1⟩, ⟨g2, i2, v.2⟩]⟩, ⟨true, b10, [⟨g1, i1, u.2⟩, ⟨e2, f2, v.1⟩]⟩] : List Prd).length = 2 := rfl
  generalize ([⟨false, b4, [⟨e1, f1, u.1⟩, ⟨g2, i2, v.2⟩]⟩, ⟨true, b10, [⟨g1, i1, u.2⟩, ⟨e2, f2, v.1⟩]⟩] : List Prd) = ps at *
  have hz := World.size_alloc w (.cells #[.bool false, .slice (some ⟨b4, 0, none⟩) 2 2, .bool true, .slice (some ⟨b10, 0, none⟩) 2 2] 211)
  have := pSum w.heap.size s 2 0 w.heap.size ps (w.alloc (.cells #[.bool false, .slice (some ⟨b4, 0, none⟩) 2 2, .bool true, .slice (some ⟨b10, 0, none⟩) 2 2] 211)) hP (by omega) (by omega) (by omega) hS (by omega) (by rw [hl]; omega)
  rw [hl] at this
  exact this
set_option maxRecDepth 100000 in
set_option maxHeartbeats 6400000 in
theorem pArea (A B C D A2 B2 C2 D2 A3 B3 C3 D3 : Option Addr) (lo up n : Nat) (a b c : Pl) (w : World) (ha : PlIn lo up w A B C D a) (hb : PlIn lo up w A2 B2 C2 D2 b) (hc : PlIn lo up w A3 B3 C3 D3 c) (hu : up ≤ w.heap.size)
    (sa : PSz n a) (sb : PSz n b) (sc : PSz n c) (hn : n ≤ 20000) :
    Calls Tryz.prog 99 #[pv A B C D a, pv A2 B2 C2 D2 b, pv A3 B3 C3 D3 c] w fun e w' => ∃ E F, e = .returned (qv E F (area2 a b c)) ∧ RatIn w.heap.size w'.heap.size w' E F (area2 a b c) ∧ Below w.heap.size w w' := by
  obtain ⟨h1, h2, h3, h4, h5, h6⟩ := four_new w (.cells #[.bool (decide (a.1.num < 0)), .slice A (qn a.1).length (qn a.1).length, .slice B (qd a.1).length (qd a.1).length, .bool (decide (a.2.num < 0)), .slice C (qn a.2).length (qn a.2).length, .slice D (qd a.2).length (qd a.2).length] 155)
    (.cells #[.bool (decide (b.1.num < 0)), .slice A2 (qn b.1).length (qn b.1).length, .slice B2 (qd b.1).length (qd b.1).length, .bool (decide (b.2.num < 0)), .slice C2 (qn b.2).length (qn b.2).length, .slice D2 (qd b.2).length (qd b.2).length] 155)
    (.cells #[.bool (decide (c.1.num < 0)), .slice A3 (qn c.1).length (qn c.1).length, .slice B3 (qd c.1).length (qd c.1).length, .bool (decide (c.2.num < 0)), .slice C3 (qn c.2).length (qn c.2).length, .slice D3 (qd c.2).length (qd c.2).length] 155) (.cells #[.bool false, .slice none 0 0, .slice none 0 0] 26)
  generalize hww : ((((w.alloc _).alloc _).alloc _).alloc _) = w4 at *
  have hi : AreaS w4 w.heap.size (w.heap.size + 1) (w.heap.size + 1 + 1) A B C D A2 B2 C2 D2 A3 B3 C3 D3 a b c w4.drew := ⟨(Below.refl _ _).drew, Six.row h1, Six.row h2, Six.row h3⟩
  have HL : Hid (∀ wz, AreaS w4 w.heap.size (w.heap.size + 1) (w.heap.size + 1 + 1) A B C D A2 B2 C2 D2 A3 B3 C3 D3 a b c wz →
    (Calls Tryz.prog 157 #[pv A2 B2 C2 D2 b, pv A B C D a] wz fun e w' => ∃ E F G H, e = .returned (pv E F G H (b.1 - a.1, b.2 - a.2)) ∧ PlFresh wz.heap.size w' E F G H (b.1 - a.1, b.2 - a.2) ∧ Below wz.heap.size wz w') ∧
    (Calls Tryz.prog 157 #[pv A3 B3 C3 D3 c, pv A B C D a] wz fun e w' => ∃ E F G H, e = .returned (pv E F G H (c.1 - a.1, c.2 - a.2)) ∧ PlFresh wz.heap.size w' E F G H (c.1 - a.1, c.2 - a.2) ∧ Below wz.heap.size wz w')) := Lib.hid fun wz hz => by
    have k : Keep lo up w wz := (Keep.of h6 hu).trans (Keep.of hz.blw (by omega))
    have := hz.blw.size
    exact ⟨pLess A2 B2 C2 D2 A B C D lo up n n b a wz (hb.keep k) (ha.keep k) (by omega) sb sa (by omega), pLess A3 B3 C3 D3 A B C D lo up n n c a wz (hc.keep k) (ha.keep k) (by omega) sc sa (by omega)⟩
  have HS := Lib.hid (And.intro (show PSz (n + n + 1) (b.1 - a.1, b.2 - a.2) from ⟨sb.1.sub sa.1, sb.2.sub sa.2⟩) (show PSz (n + n + 1) (c.1 - a.1, c.2 - a.2) from ⟨sc.1.sub sa.1, sc.2.sub sa.2⟩))
  have H := Lib.hid (And.intro h4 (And.intro h6 hww))
  clear ha hb hc sa sb sc h1 h2 h3 h4 h6 hww
  obtain ⟨u, hu1⟩ : ∃ u : Pl, u = (b.1 - a.1, b.2 - a.2) := ⟨_, rfl⟩
  obtain ⟨v, hv1⟩ : ∃ v : Pl, v = (c.1 - a.1, c.2 - a.2) := ⟨_, rfl⟩
  rw [← hu1, ← hv1] at HL HS
  have HA := Lib.hid (area_psum u v a b c hu1 hv1)
  clear hu1 hv1
  generalize area2 a b c = r at *
  unfold pv at ⊢
  go_enter Tryz.func99, Tryz.ntmps99
  ((try dsimp only); repeat (first | go_values | go_skip | go_guarded | go_step | go_upon))
  rw [H.out.2.2]
  have t1 : w.heap.size < w4.heap.size := by omega
  have t2 : w.heap.size + 1 < w4.heap.size := by omega
  have t3 : w.heap.size + 1 + 1 < w4.heap.size := by omega
  have hi2 := Lib.hid hi
  refine start_ (n := 10) (S := fun w' => AreaS w4 w.heap.size (w.heap.size + 1) (w.heap.size + 1 + 1) A B C D A2 B2 C2 D2 A3 B3 C3 D3 a b c w') (ds := [8, 9]) (bt 10 0) (by kernel_rfl) rfl rfl (hi) (fun hHeld => ?_)
  refine ld_ 0 9 ?_ hHeld ?_ ?_; rotate_left
  · rintro w' ⟨_, ⟨q0, q1, q2, q3, q4, q5⟩, ⟨r0, r1, r2, r3, r4, r5⟩, ⟨s0, s1, s2, s3, s4, s5⟩⟩
    go_simp; with_reducible rfl
  refine ld_ 1 10 ?_ hHeld ?_ ?_; rotate_left
  · rintro w' ⟨_, ⟨q0, q1, q2, q3, q4, q5⟩, ⟨r0, r1, r2, r3, r4, r5⟩, ⟨s0, s1, s2, s3, s4, s5⟩⟩
    go_simp; with_reducible rfl
  refine ld_ 3 12 ?_ hHeld ?_ ?_; rotate_left
  · rintro w' ⟨_, ⟨q0, q1, q2, q3, q4, q5⟩, ⟨r0, r1, r2, r3, r4, r5⟩, ⟨s0, s1, s2, s3, s4, s5⟩⟩
    go_simp; with_reducible rfl
  refine ld_ 4 13 ?_ hHeld ?_ ?_; rotate_left
  · rintro w' ⟨_, ⟨q0, q1, q2, q3, q4, q5⟩, ⟨r0, r1, r2, r3, r4, r5⟩, ⟨s0, s1, s2, s3, s4, s5⟩⟩
    go_simp; with_reducible rfl
  refine join_ (σ := AV) 2 (bt 10 255) (fun s => [(11, pv s.e s.f s.g s.h u), (14, pv s.e' s.f' s.g' s.h' v), (7, .pointer (some ⟨s.g7, 0, none⟩)), (8, .pointer (some ⟨s.g8, 0, none⟩))]) (fun s w' => PlFresh w4.heap.size w' s.e s.f s.g s.h u ∧ PlFresh w4.heap.size w' s.e' s.f' s.g' s.h' v ∧ w'.heap[s.g7]? = some (.cells #[.bool false, .slice none 0 0, .slice none 0 0, .bool false, .slice none 0 0, .slice none 0 0] 155 (0, 0)) ∧ w'.heap[s.g8]? = some (.cells #[.bool false, .slice none 0 0, .slice none 0 0, .bool false, .slice none 0 0, .slice none 0 0] 155 (0, 0)) ∧ s.g7 ≠ s.g8 ∧ w4.heap.size ≤ s.g7 ∧ w4.heap.size ≤ s.g8 ∧ AreaS w4 w.heap.size (w.heap.size + 1) (w.heap.size + 1 + 1) A B C D A2 B2 C2 D2 A3 B3 C3 D3 a b c w') ?_ ?_
  rotate_left
  · intro J
    generalize hwc0 : w4.drew = wc0 at *
    refine o3 2 11 6 7 7 8 (bt 10 31) (bt 10 91) (bt 10 155) ?_ ?_ ?_
    · intro K hK
      refine goes_ Tryz.func157 (by kernel_rfl) rfl #[pv A2 B2 C2 D2 b, pv A B C D a] (by rfl) rfl rfl (by first | rfl | (simp [Act.eval]; done) | (simp [Act.eval, pv]; done) | (go_simp; rfl)) ?_
      with_reducible refine ((HL.out _ hHeld).1).mono ?_
      rintro e wc1 ⟨E2, F2, G2, I2, rfl, f2, hb1⟩
      replace f2 := f2.wide (show w4.heap.size ≤ _ from hHeld.blw.size)
      (try replace f2 := f2.keep (Keep.of hb1 (Nat.le_refl _)) (Nat.le_refl _))
      (try replace f5 := f5.keep (Keep.of hb1 (Nat.le_refl _)) (Nat.le_refl _))
      (try replace k7 := (hb1.block _ (heap_lt k7)).trans k7)
      (try replace k8 := (hb1.block _ (heap_lt k8)).trans k8)
      refine ⟨_, rfl, ?_⟩
      refine hK.out _ _ (by exact hHeld.keep hb1 t1 t2 t3) (fun hHeld => ?_)
      clear hK K
      refine nn ?_
      refine o3 5 14 6 7 7 8 (bt 10 63) (bt 10 95) (bt 10 159) ?_ ?_ ?_
      · intro K hK
        refine goes_ Tryz.func157 (by kernel_rfl) rfl #[pv A3 B3 C3 D3 c, pv A B C D a] (by rfl) rfl rfl (by first | rfl | (simp [Act.eval]; done) | (simp [Act.eval, pv]; done) | (go_simp; rfl)) ?_
        with_reducible refine ((HL.out _ hHeld).2).mono ?_
        rintro e wc2 ⟨E5, F5, G5, I5, rfl, f5, hb2⟩
        replace f5 := f5.wide (show w4.heap.size ≤ _ from hHeld.blw.size)
        (try replace f2 := f2.keep (Keep.of hb2 (Nat.le_refl _)) (Nat.le_refl _))
        (try replace f5 := f5.keep (Keep.of hb2 (Nat.le_refl _)) (Nat.le_refl _))
        (try replace k7 := (hb2.block _ (heap_lt k7)).trans k7)
        (try replace k8 := (hb2.block _ (heap_lt k8)).trans k8)
        refine ⟨_, rfl, ?_⟩
        refine hK.out _ _ (by exact hHeld.keep hb2 t1 t2 t3) (fun hHeld => ?_)
        clear hK K
        refine nn ?_
        refine o2 6 7 7 8 (bt 10 127) (bt 10 191) ?_ ?_
        · intro K hK
          refine value_ (v := .pointer (some ⟨wc2.heap.size, 0, none⟩)) (w1 := wc2.alloc (.cells #[.bool false, .slice none 0 0, .slice none 0 0, .bool false, .slice none 0 0, .slice none 0 0] 155)) (by rfl) rfl ?_ ?_
          · go_simp; (try rfl)
          obtain ⟨wc3, hw3, hb3, hr3⟩ : ∃ x, wc2.alloc (.cells #[.bool false, .slice none 0 0, .slice none 0 0, .bool false, .slice none 0 0, .slice none 0 0] 155) = x ∧ Go.RowKit.Below wc2.heap.size wc2 x ∧ x.heap[wc2.heap.size]? = some (.cells #[.bool false, .slice none 0 0, .slice none 0 0, .bool false, .slice none 0 0, .slice none 0 0] 155 (0, 0)) := ⟨_, rfl, (Go.RowKit.Below.refl _ _).alloc (Nat.le_refl _) _, alloc_new _ _⟩
          rw [hw3]
          have m7 : w4.heap.size ≤ wc2.heap.size := hHeld.blw.size
          (try have ne := Nat.ne_of_gt (heap_lt k8))
          have k7 := hr3
          (try replace f2 := f2.keep (Keep.of hb3 (Nat.le_refl _)) (Nat.le_refl _))
          (try replace f5 := f5.keep (Keep.of hb3 (Nat.le_refl _)) (Nat.le_refl _))
          (try replace k7 := (hb3.block _ (heap_lt k7)).trans k7)
          (try replace k8 := (hb3.block _ (heap_lt k8)).trans k8)
          refine hK.out _ _ (by exact hHeld.keep hb3 t1 t2 t3) (fun hHeld => ?_)
          clear hK K
          refine nn ?_
          refine o1 7 8 (bt 10 255) ?_
          · intro K hK
            refine value_ (v := .pointer (some ⟨wc3.heap.size, 0, none⟩)) (w1 := wc3.alloc (.cells #[.bool false, .slice none 0 0, .slice none 0 0, .bool false, .slice none 0 0, .slice none 0 0] 155)) (by rfl) rfl ?_ ?_
            · go_simp; (try rfl)
            obtain ⟨wc4, hw4, hb4, hr4⟩ : ∃ x, wc3.alloc (.cells #[.bool false, .slice none 0 0, .slice none 0 0, .bool false, .slice none 0 0, .slice none 0 0] 155) = x ∧ Go.RowKit.Below wc3.heap.size wc3 x ∧ x.heap[wc3.heap.size]? = some (.cells #[.bool false, .slice none 0 0, .slice none 0 0, .bool false, .slice none 0 0, .slice none 0 0] 155 (0, 0)) := ⟨_, rfl, (Go.RowKit.Below.refl _ _).alloc (Nat.le_refl _) _, alloc_new _ _⟩
            rw [hw4]
            have m8 : w4.heap.size ≤ wc3.heap.size := hHeld.blw.size
            (try have ne := Nat.ne_of_lt (heap_lt k7))
            have k8 := hr4
            (try replace f2 := f2.keep (Keep.of hb4 (Nat.le_refl _)) (Nat.le_refl _))
            (try replace f5 := f5.keep (Keep.of hb4 (Nat.le_refl _)) (Nat.le_refl _))
            (try replace k7 := (hb4.block _ (heap_lt k7)).trans k7)
            (try replace k8 := (hb4.block _ (heap_lt k8)).trans k8)
            refine hK.out _ _ (by exact hHeld.keep hb4 t1 t2 t3) (fun hHeld => ?_)
            clear hK K
            refine nn ?_
            exact norm_ (by rfl) (J ⟨E2, F2, G2, I2, E5, F5, G5, I5, _, _⟩ _ ⟨f2, f5, k7, k8, ne, m7, m8, hHeld⟩)
        · intro K hK
          refine value_ (v := .pointer (some ⟨wc2.heap.size, 0, none⟩)) (w1 := wc2.alloc (.cells #[.bool false, .slice none 0 0, .slice none 0 0, .bool false, .slice none 0 0, .slice none 0 0] 155)) (by rfl) rfl ?_ ?_
          · go_simp; (try rfl)
          obtain ⟨wc3, hw3, hb3, hr3⟩ : ∃ x, wc2.alloc (.cells #[.bool false, .slice none 0 0, .slice none 0 0, .bool false, .slice none 0 0, .slice none 0 0] 155) = x ∧ Go.RowKit.Below wc2.heap.size wc2 x ∧ x.heap[wc2.heap.size]? = some (.cells #[.bool false, .slice none 0 0, .slice none 0 0, .bool false, .slice none 0 0, .slice none 0 0] 155 (0, 0)) := ⟨_, rfl, (Go.RowKit.Below.refl _ _).alloc (Nat.le_refl _) _, alloc_new _ _⟩
          rw [hw3]
          have m8 : w4.heap.size ≤ wc2.heap.size := hHeld.blw.size
          (try have ne := Nat.ne_of_lt (heap_lt k7))
          have k8 := hr3
          (try replace f2 := f2.keep (Keep.of hb3 (Nat.le_refl _)) (Nat.le_refl _))
          (try replace f5 := f5.keep (Keep.of hb3 (Nat.le_refl _)) (Nat.le_refl _))
          (try replace k7 := (hb3.block _ (heap_lt k7)).trans k7)
          (try replace k8 := (hb3.block _ (heap_lt k8)).trans k8)
          refine hK.out _ _ (by exact hHeld.keep hb3 t1 t2 t3) (fun hHeld => ?_)
          clear hK K
          refine nn ?_
          refine o1 6 7 (bt 10 255) ?_
          · intro K hK
            refine value_ (v := .pointer (some ⟨wc3.heap.size, 0, none⟩)) (w1 := wc3.alloc (.cells #[.bool false, .slice none 0 0, .slice none 0 0, .bool false, .slice none 0 0, .slice none 0 0] 155)) (by rfl) rfl ?_ ?_
            · go_simp; (try rfl)
            obtain ⟨wc4, hw4, hb4, hr4⟩ : ∃ x, wc3.alloc (.cells #[.bool false, .slice none 0 0, .slice none 0 0, .bool false, .slice none 0 0, .slice none 0 0] 155) = x ∧ Go.RowKit.Below wc3.heap.size wc3 x ∧ x.heap[wc3.heap.size]? = some (.cells #[.bool false, .slice none 0 0, .slice none 0 0, .bool false, .slice none 0 0, .slice none 0 0] 155 (0, 0)) := ⟨_, rfl, (Go.RowKit.Below.refl _ _).alloc (Nat.le_refl _) _, alloc_new _ _⟩
            rw [hw4]
            have m7 : w4.heap.size ≤ wc3.heap.size := hHeld.blw.size
            (try have ne := Nat.ne_of_gt (heap_lt k8))
            have k7 := hr4
            (try replace f2 := f2.keep (Keep.of hb4 (Nat.le_refl _)) (Nat.le_refl _))
            (try replace f5 := f5.keep (Keep.of hb4 (Nat.le_refl _)) (Nat.le_refl _))
            (try replace k7 := (hb4.block _ (heap_lt k7)).trans k7)
            (try replace k8 := (hb4.block _ (heap_lt k8)).trans k8)
            refine hK.out _ _ (by exact hHeld.keep hb4 t1 t2 t3) (fun hHeld => ?_)
            clear hK K
            refine nn ?_
            exact norm_ (by rfl) (J ⟨E2, F2, G2, I2, E5, F5, G5, I5, _, _⟩ _ ⟨f2, f5, k7, k8, ne, m7, m8, hHeld⟩)
      · intro K hK
        refine value_ (v := .pointer (some ⟨wc1.heap.size, 0, none⟩)) (w1 := wc1.alloc (.cells #[.bool false, .slice none 0 0, .slice none 0 0, .bool false, .slice none 0 0, .slice none 0 0] 155)) (by rfl) rfl ?_ ?_
        · go_simp; (try rfl)
        obtain ⟨wc2, hw2, hb2, hr2⟩ : ∃ x, wc1.alloc (.cells #[.bool false, .slice none 0 0, .slice none 0 0, .bool false, .slice none 0 0, .slice none 0 0] 155) = x ∧ Go.RowKit.Below wc1.heap.size wc1 x ∧ x.heap[wc1.heap.size]? = some (.cells #[.bool false, .slice none 0 0, .slice none 0 0, .bool false, .slice none 0 0, .slice none 0 0] 155 (0, 0)) := ⟨_, rfl, (Go.RowKit.Below.refl _ _).alloc (Nat.le_refl _) _, alloc_new _ _⟩
        rw [hw2]
        have m7 : w4.heap.size ≤ wc1.heap.size := hHeld.blw.size
        (try have ne := Nat.ne_of_gt (heap_lt k8))
        have k7 := hr2
        (try replace f2 := f2.keep (Keep.of hb2 (Nat.le_refl _)) (Nat.le_refl _))
        (try replace f5 := f5.keep (Keep.of hb2 (Nat.le_refl _)) (Nat.le_refl _))
        (try replace k7 := (hb2.block _ (heap_lt k7)).trans k7)
        (try replace k8 := (hb2.block _ (heap_lt k8)).trans k8)
        refine hK.out _ _ (by exact hHeld.keep hb2 t1 t2 t3) (fun hHeld => ?_)
        clear hK K
        refine nn ?_
        refine o2 5 14 7 8 (bt 10 127) (bt 10 223) ?_ ?_
        · intro K hK
          refine goes_ Tryz.func157 (by kernel_rfl) rfl #[pv A3 B3 C3 D3 c, pv A B C D a] (by rfl) rfl rfl (by first | rfl | (simp [Act.eval]; done) | (simp [Act.eval, pv]; done) | (go_simp; rfl)) ?_
          with_reducible refine ((HL.out _ hHeld).2).mono ?_
          rintro e wc3 ⟨E5, F5, G5, I5, rfl, f5, hb3⟩
          replace f5 := f5.wide (show w4.heap.size ≤ _ from hHeld.blw.size)
          (try replace f2 := f2.keep (Keep.of hb3 (Nat.le_refl _)) (Nat.le_refl _))
          (try replace f5 := f5.keep (Keep.of hb3 (Nat.le_refl _)) (Nat.le_refl _))
          (try replace k7 := (hb3.block _ (heap_lt k7)).trans k7)
          (try replace k8 := (hb3.block _ (heap_lt k8)).trans k8)
          refine ⟨_, rfl, ?_⟩
          refine hK.out _ _ (by exact hHeld.keep hb3 t1 t2 t3) (fun hHeld => ?_)
          clear hK K
          refine nn ?_
          refine o1 7 8 (bt 10 255) ?_
          · intro K hK
            refine value_ (v := .pointer (some ⟨wc3.heap.size, 0, none⟩)) (w1 := wc3.alloc (.cells #[.bool false, .slice none 0 0, .slice none 0 0, .bool false, .slice none 0 0, .slice none 0 0] 155)) (by rfl) rfl ?_ ?_
            · go_simp; (try rfl)
            obtain ⟨wc4, hw4, hb4, hr4⟩ : ∃ x, wc3.alloc (.cells #[.bool false, .slice none 0 0, .slice none 0 0, .bool false, .slice none 0 0, .slice none 0 0] 155) = x ∧ Go.RowKit.Below wc3.heap.size wc3 x ∧ x.heap[wc3.heap.size]? = some (.cells #[.bool false, .slice none 0 0, .slice none 0 0, .bool false, .slice none 0 0, .slice none 0 0] 155 (0, 0)) := ⟨_, rfl, (Go.RowKit.Below.refl _ _).alloc (Nat.le_refl _) _, alloc_new _ _⟩
            rw [hw4]
            have m8 : w4.heap.size ≤ wc3.heap.size := hHeld.blw.size
            (try have ne := Nat.ne_of_lt (heap_lt k7))
            have k8 := hr4
            (try replace f2 := f2.keep (Keep.of hb4 (Nat.le_refl _)) (Nat.le_refl _))
            (try replace f5 := f5.keep (Keep.of hb4 (Nat.le_refl _)) (Nat.le_refl _))
            (try replace k7 := (hb4.block _ (heap_lt k7)).trans k7)
            (try replace k8 := (hb4.block _ (heap_lt k8)).trans k8)
            refine hK.out _ _ (by exact hHeld.keep hb4 t1 t2 t3) (fun hHeld => ?_)
            clear hK K
            refine nn ?_
            exact norm_ (by rfl) (J ⟨E2, F2, G2, I2, E5, F5, G5, I5, _, _⟩ _ ⟨f2, f5, k7, k8, ne, m7, m8, hHeld⟩)
        · intro K hK
          refine value_ (v := .pointer (some ⟨wc2.heap.size, 0, none⟩)) (w1 := wc2.alloc (.cells #[.bool false, .slice none 0 0, .slice none 0 0, .bool false, .slice none 0 0, .slice none 0 0] 155)) (by rfl) rfl ?_ ?_
          · go_simp; (try rfl)
          obtain ⟨wc3, hw3, hb3, hr3⟩ : ∃ x, wc2.alloc (.cells #[.bool false, .slice none 0 0, .slice none 0 0, .bool false, .slice none 0 0, .slice none 0 0] 155) = x ∧ Go.RowKit.Below wc2.heap.size wc2 x ∧ x.heap[wc2.heap.size]? = some (.cells #[.bool false, .slice none 0 0, .slice none 0 0, .bool false, .slice none 0 0, .slice none 0 0] 155 (0, 0)) := ⟨_, rfl, (Go.RowKit.Below.refl _ _).alloc (Nat.le_refl _) _, alloc_new _ _⟩
          rw [hw3]
          have m8 : w4.heap.size ≤ wc2.heap.size := hHeld.blw.size
          (try have ne := Nat.ne_of_lt (heap_lt k7))
          have k8 := hr3
          (try replace f2 := f2.keep (Keep.of hb3 (Nat.le_refl _)) (Nat.le_refl _))
          (try replace f5 := f5.keep (Keep.of hb3 (Nat.le_refl _)) (Nat.le_refl _))
          (try replace k7 := (hb3.block _ (heap_lt k7)).trans k7)
          (try replace k8 := (hb3.block _ (heap_lt k8)).trans k8)
          refine hK.out _ _ (by exact hHeld.keep hb3 t1 t2 t3) (fun hHeld => ?_)
          clear hK K
          refine nn ?_
          refine o1 5 14 (bt 10 255) ?_
          · intro K hK
            refine goes_ Tryz.func157 (by kernel_rfl) rfl #[pv A3 B3 C3 D3 c, pv A B C D a] (by rfl) rfl rfl (by first | rfl | (simp [Act.eval]; done) | (simp [Act.eval, pv]; done) | (go_simp; rfl)) ?_
            with_reducible refine ((HL.out _ hHeld).2).mono ?_
            rintro e wc4 ⟨E5, F5, G5, I5, rfl, f5, hb4⟩
            replace f5 := f5.wide (show w4.heap.size ≤ _ from hHeld.blw.size)
            (try replace f2 := f2.keep (Keep.of hb4 (Nat.le_refl _)) (Nat.le_refl _))
            (try replace f5 := f5.keep (Keep.of hb4 (Nat.le_refl _)) (Nat.le_refl _))
            (try replace k7 := (hb4.block _ (heap_lt k7)).trans k7)
            (try replace k8 := (hb4.block _ (heap_lt k8)).trans k8)
            refine ⟨_, rfl, ?_⟩
            refine hK.out _ _ (by exact hHeld.keep hb4 t1 t2 t3) (fun hHeld => ?_)
            clear hK K
            refine nn ?_
            exact norm_ (by rfl) (J ⟨E2, F2, G2, I2, E5, F5, G5, I5, _, _⟩ _ ⟨f2, f5, k7, k8, ne, m7, m8, hHeld⟩)
      · intro K hK
        refine value_ (v := .pointer (some ⟨wc1.heap.size, 0, none⟩)) (w1 := wc1.alloc (.cells #[.bool false, .slice none 0 0, .slice none 0 0, .bool false, .slice none 0 0, .slice none 0 0] 155)) (by rfl) rfl ?_ ?_
        · go_simp; (try rfl)
        obtain ⟨wc2, hw2, hb2, hr2⟩ : ∃ x, wc1.alloc (.cells #[.bool false, .slice none 0 0, .slice none 0 0, .bool false, .slice none 0 0, .slice none 0 0] 155) = x ∧ Go.RowKit.Below wc1.heap.size wc1 x ∧ x.heap[wc1.heap.size]? = some (.cells #[.bool false, .slice none 0 0, .slice none 0 0, .bool false, .slice none 0 0, .slice none 0 0] 155 (0, 0)) := ⟨_, rfl, (Go.RowKit.Below.refl _ _).alloc (Nat.le_refl _) _, alloc_new _ _⟩
        rw [hw2]
        have m8 : w4.heap.size ≤ wc1.heap.size := hHeld.blw.size
        (try have ne := Nat.ne_of_lt (heap_lt k7))
        have k8 := hr2
        (try replace f2 := f2.keep (Keep.of hb2 (Nat.le_refl _)) (Nat.le_refl _))
        (try replace f5 := f5.keep (Keep.of hb2 (Nat.le_refl _)) (Nat.le_refl _))
        (try replace k7 := (hb2.block _ (heap_lt k7)).trans k7)
        (try replace k8 := (hb2.block _ (heap_lt k8)).trans k8)
        refine hK.out _ _ (by exact hHeld.keep hb2 t1 t2 t3) (fun hHeld => ?_)
        clear hK K
        refine nn ?_
        refine o2 5 14 6 7 (bt 10 191) (bt 10 223) ?_ ?_
        · intro K hK
          refine goes_ Tryz.func157 (by kernel_rfl) rfl #[pv A3 B3 C3 D3 c, pv A B C D a] (by rfl) rfl rfl (by first | rfl | (simp [Act.eval]; done) | (simp [Act.eval, pv]; done) | (go_simp; rfl)) ?_
          with_reducible refine ((HL.out _ hHeld).2).mono ?_
          rintro e wc3 ⟨E5, F5, G5, I5, rfl, f5, hb3⟩
          replace f5 := f5.wide (show w4.heap.size ≤ _ from hHeld.blw.size)
          (try replace f2 := f2.keep (Keep.of hb3 (Nat.le_refl _)) (Nat.le_refl _))
          (try replace f5 := f5.keep (Keep.of hb3 (Nat.le_refl _)) (Nat.le_refl _))
          (try replace k7 := (hb3.block _ (heap_lt k7)).trans k7)
          (try replace k8 := (hb3.block _ (heap_lt k8)).trans k8)
          refine ⟨_, rfl, ?_⟩
          refine hK.out _ _ (by exact hHeld.keep hb3 t1 t2 t3) (fun hHeld => ?_)
          clear hK K
          refine nn ?_
          refine o1 6 7 (bt 10 255) ?_
          · intro K hK
            refine value_ (v := .pointer (some ⟨wc3.heap.size, 0, none⟩)) (w1 := wc3.alloc (.cells #[.bool false, .slice none 0 0, .slice none 0 0, .bool false, .slice none 0 0, .slice none 0 0] 155)) (by rfl) rfl ?_ ?_
            · go_simp; (try rfl)
            obtain ⟨wc4, hw4, hb4, hr4⟩ : ∃ x, wc3.alloc (.cells #[.bool false, .slice none 0 0, .slice none 0 0, .bool false, .slice none 0 0, .slice none 0 0] 155) = x ∧ Go.RowKit.Below wc3.heap.size wc3 x ∧ x.heap[wc3.heap.size]? = some (.cells #[.bool false, .slice none 0 0, .slice none 0 0, .bool false, .slice none 0 0, .slice none 0 0] 155 (0, 0)) := ⟨_, rfl, (Go.RowKit.Below.refl _ _).alloc (Nat.le_refl _) _, alloc_new _ _⟩
            rw [hw4]
            have m7 : w4.heap.size ≤ wc3.heap.size := hHeld.blw.size
            (try have ne := Nat.ne_of_gt (heap_lt k8))
            have k7 := hr4
            (try replace f2 := f2.keep (Keep.of hb4 (Nat.le_refl _)) (Nat.le_refl _))
            (try replace f5 := f5.keep (Keep.of hb4 (Nat.le_refl _)) (Nat.le_refl _))
            (try replace k7 := (hb4.block _ (heap_lt k7)).trans k7)
            (try replace k8 := (hb4.block _ (heap_lt k8)).trans k8)
            refine hK.out _ _ (by exact hHeld.keep hb4 t1 t2 t3) (fun hHeld => ?_)
            clear hK K
            refine nn ?_
            exact norm_ (by rfl) (J ⟨E2, F2, G2, I2, E5, F5, G5, I5, _, _⟩ _ ⟨f2, f5, k7, k8, ne, m7, m8, hHeld⟩)
        · intro K hK
          refine value_ (v := .pointer (some ⟨wc2.heap.size, 0, none⟩)) (w1 := wc2.alloc (.cells #[.bool false, .slice none 0 0, .slice none 0 0, .bool false, .slice none 0 0, .slice none 0 0] 155)) (by rfl) rfl ?_ ?_
          · go_simp; (try rfl)
          obtain ⟨wc3, hw3, hb3, hr3⟩ : ∃ x, wc2.alloc (.cells #[.bool false, .slice none 0 0, .slice none 0 0, .bool false, .slice none 0 0, .slice none 0 0] 155) = x ∧ Go.RowKit.Below wc2.heap.size wc2 x ∧ x.heap[wc2.heap.size]? = some (.cells #[.bool false, .slice none 0 0, .slice none 0 0, .bool false, .slice none 0 0, .slice none 0 0] 155 (0, 0)) := ⟨_, rfl, (Go.RowKit.Below.refl _ _).alloc (Nat.le_refl _) _, alloc_new _ _⟩
          rw [hw3]
          have m7 : w4.heap.size ≤ wc2.heap.size := hHeld.blw.size
          (try have ne := Nat.ne_of_gt (heap_lt k8))
          have k7 := hr3
          (try replace f2 := f2.keep (Keep.of hb3 (Nat.le_refl _)) (Nat.le_refl _))
          (try replace f5 := f5.keep (Keep.of hb3 (Nat.le_refl _)) (Nat.le_refl _))
          (try replace k7 := (hb3.block _ (heap_lt k7)).trans k7)
          (try replace k8 := (hb3.block _ (heap_lt k8)).trans k8)
          refine hK.out _ _ (by exact hHeld.keep hb3 t1 t2 t3) (fun hHeld => ?_)
          clear hK K
          refine nn ?_
          refine o1 5 14 (bt 10 255) ?_
          · intro K hK
            refine goes_ Tryz.func157 (by kernel_rfl) rfl #[pv A3 B3 C3 D3 c, pv A B C D a] (by rfl) rfl rfl (by first | rfl | (simp [Act.eval]; done) | (simp [Act.eval, pv]; done) | (go_simp; rfl)) ?_
            with_reducible refine ((HL.out _ hHeld).2).mono ?_
            rintro e wc4 ⟨E5, F5, G5, I5, rfl, f5, hb4⟩
            replace f5 := f5.wide (show w4.heap.size ≤ _ from hHeld.blw.size)
            (try replace f2 := f2.keep (Keep.of hb4 (Nat.le_refl _)) (Nat.le_refl _))
            (try replace f5 := f5.keep (Keep.of hb4 (Nat.le_refl _)) (Nat.le_refl _))
            (try replace k7 := (hb4.block _ (heap_lt k7)).trans k7)
            (try replace k8 := (hb4.block _ (heap_lt k8)).trans k8)
            refine ⟨_, rfl, ?_⟩
            refine hK.out _ _ (by exact hHeld.keep hb4 t1 t2 t3) (fun hHeld => ?_)
            clear hK K
            refine nn ?_
            exact norm_ (by rfl) (J ⟨E2, F2, G2, I2, E5, F5, G5, I5, _, _⟩ _ ⟨f2, f5, k7, k8, ne, m7, m8, hHeld⟩)
    · intro K hK
      refine value_ (v := .pointer (some ⟨wc0.heap.size, 0, none⟩)) (w1 := wc0.alloc (.cells #[.bool false, .slice none 0 0, .slice none 0 0, .bool false, .slice none 0 0, .slice none 0 0] 155)) (by rfl) rfl ?_ ?_
      · go_simp; (try rfl)
      obtain ⟨wc1, hw1, hb1, hr1⟩ : ∃ x, wc0.alloc (.cells #[.bool false, .slice none 0 0, .slice none 0 0, .bool false, .slice none 0 0, .slice none 0 0] 155) = x ∧ Go.RowKit.Below wc0.heap.size wc0 x ∧ x.heap[wc0.heap.size]? = some (.cells #[.bool false, .slice none 0 0, .slice none 0 0, .bool false, .slice none 0 0, .slice none 0 0] 155 (0, 0)) := ⟨_, rfl, (Go.RowKit.Below.refl _ _).alloc (Nat.le_refl _) _, alloc_new _ _⟩
      rw [hw1]
      have m7 : w4.heap.size ≤ wc0.heap.size := hHeld.blw.size
      (try have ne := Nat.ne_of_gt (heap_lt k8))
      have k7 := hr1
      (try replace f2 := f2.keep (Keep.of hb1 (Nat.le_refl _)) (Nat.le_refl _))
      (try replace f5 := f5.keep (Keep.of hb1 (Nat.le_refl _)) (Nat.le_refl _))
      (try replace k7 := (hb1.block _ (heap_lt k7)).trans k7)
      (try replace k8 := (hb1.block _ (heap_lt k8)).trans k8)
      refine hK.out _ _ (by exact hHeld.keep hb1 t1 t2 t3) (fun hHeld => ?_)
      clear hK K
      refine nn ?_
      refine o2 2 11 7 8 (bt 10 95) (bt 10 219) ?_ ?_
      · intro K hK
        refine goes_ Tryz.func157 (by kernel_rfl) rfl #[pv A2 B2 C2 D2 b, pv A B C D a] (by rfl) rfl rfl (by first | rfl | (simp [Act.eval]; done) | (simp [Act.eval, pv]; done) | (go_simp; rfl)) ?_
        with_reducible refine ((HL.out _ hHeld).1).mono ?_
        rintro e wc2 ⟨E2, F2, G2, I2, rfl, f2, hb2⟩
        replace f2 := f2.wide (show w4.heap.size ≤ _ from hHeld.blw.size)
        (try replace f2 := f2.keep (Keep.of hb2 (Nat.le_refl _)) (Nat.le_refl _))
        (try replace f5 := f5.keep (Keep.of hb2 (Nat.le_refl _)) (Nat.le_refl _))
        (try replace k7 := (hb2.block _ (heap_lt k7)).trans k7)
        (try replace k8 := (hb2.block _ (heap_lt k8)).trans k8)
        refine ⟨_, rfl, ?_⟩
        refine hK.out _ _ (by exact hHeld.keep hb2 t1 t2 t3) (fun hHeld => ?_)
        clear hK K
        refine nn ?_
        refine o2 5 14 7 8 (bt 10 127) (bt 10 223) ?_ ?_
        · intro K hK
          refine goes_ Tryz.func157 (by kernel_rfl) rfl #[pv A3 B3 C3 D3 c, pv A B C D a] (by rfl) rfl rfl (by first | rfl | (simp [Act.eval]; done) | (simp [Act.eval, pv]; done) | (go_simp; rfl)) ?_
          with_reducible refine ((HL.out _ hHeld).2).mono ?_
          rintro e wc3 ⟨E5, F5, G5, I5, rfl, f5, hb3⟩
          replace f5 := f5.wide (show w4.heap.size ≤ _ from hHeld.blw.size)
          (try replace f2 := f2.keep (Keep.of hb3 (Nat.le_refl _)) (Nat.le_refl _))
          (try replace f5 := f5.keep (Keep.of hb3 (Nat.le_refl _)) (Nat.le_refl _))
          (try replace k7 := (hb3.block _ (heap_lt k7)).trans k7)
          (try replace k8 := (hb3.block _ (heap_lt k8)).trans k8)
          refine ⟨_, rfl, ?_⟩
          refine hK.out _ _ (by exact hHeld.keep hb3 t1 t2 t3) (fun hHeld => ?_)
          clear hK K
          refine nn ?_
          refine o1 7 8 (bt 10 255) ?_
          · intro K hK
            refine value_ (v := .pointer (some ⟨wc3.heap.size, 0, none⟩)) (w1 := wc3.alloc (.cells #[.bool false, .slice none 0 0, .slice none 0 0, .bool false, .slice none 0 0, .slice none 0 0] 155)) (by rfl) rfl ?_ ?_
            · go_simp; (try rfl)
            obtain ⟨wc4, hw4, hb4, hr4⟩ : ∃ x, wc3.alloc (.cells #[.bool false, .slice none 0 0, .slice none 0 0, .bool false, .slice none 0 0, .slice none 0 0] 155) = x ∧ Go.RowKit.Below wc3.heap.size wc3 x ∧ x.heap[wc3.heap.size]? = some (.cells #[.bool false, .slice none 0 0, .slice none 0 0, .bool false, .slice none 0 0, .slice none 0 0] 155 (0, 0)) := ⟨_, rfl, (Go.RowKit.Below.refl _ _).alloc (Nat.le_refl _) _, alloc_new _ _⟩
            rw [hw4]
            have m8 : w4.heap.size ≤ wc3.heap.size := hHeld.blw.size
            (try have ne := Nat.ne_of_lt (heap_lt k7))
            have k8 := hr4
            (try replace f2 := f2.keep (Keep.of hb4 (Nat.le_refl _)) (Nat.le_refl _))
            (try replace f5 := f5.keep (Keep.of hb4 (Nat.le_refl _)) (Nat.le_refl _))
            (try replace k7 := (hb4.block _ (heap_lt k7)).trans k7)
            (try replace k8 := (hb4.block _ (heap_lt k8)).trans k8)
            refine hK.out _ _ (by exact hHeld.keep hb4 t1 t2 t3) (fun hHeld => ?_)
            clear hK K
            refine nn ?_
            exact norm_ (by rfl) (J ⟨E2, F2, G2, I2, E5, F5, G5, I5, _, _⟩ _ ⟨f2, f5, k7, k8, ne, m7, m8, hHeld⟩)
        · intro K hK
          refine value_ (v := .pointer (some ⟨wc2.heap.size, 0, none⟩)) (w1 := wc2.alloc (.cells #[.bool false, .slice none 0 0, .slice none 0 0, .bool false, .slice none 0 0, .slice none 0 0] 155)) (by rfl) rfl ?_ ?_
          · go_simp; (try rfl)
          obtain ⟨wc3, hw3, hb3, hr3⟩ : ∃ x, wc2.alloc (.cells #[.bool false, .slice none 0 0, .slice none 0 0, .bool false, .slice none 0 0, .slice none 0 0] 155) = x ∧ Go.RowKit.Below wc2.heap.size wc2 x ∧ x.heap[wc2.heap.size]? = some (.cells #[.bool false, .slice none 0 0, .slice none 0 0, .bool false, .slice none 0 0, .slice none 0 0] 155 (0, 0)) := ⟨_, rfl, (Go.RowKit.Below.refl _ _).alloc (Nat.le_refl _) _, alloc_new _ _⟩
          rw [hw3]
          have m8 : w4.heap.size ≤ wc2.heap.size := hHeld.blw.size
          (try have ne := Nat.ne_of_lt (heap_lt k7))
          have k8 := hr3
          (try replace f2 := f2.keep (Keep.of hb3 (Nat.le_refl _)) (Nat.le_refl _))
          (try replace f5 := f5.keep (Keep.of hb3 (Nat.le_refl _)) (Nat.le_refl _))
          (try replace k7 := (hb3.block _ (heap_lt k7)).trans k7)
          (try replace k8 := (hb3.block _ (heap_lt k8)).trans k8)
          refine hK.out _ _ (by exact hHeld.keep hb3 t1 t2 t3) (fun hHeld => ?_)
          clear hK K
          refine nn ?_
          refine o1 5 14 (bt 10 255) ?_
          · intro K hK
            refine goes_ Tryz.func157 (by kernel_rfl) rfl #[pv A3 B3 C3 D3 c, pv A B C D a] (by rfl) rfl rfl (by first | rfl | (simp [Act.eval]; done) | (simp [Act.eval, pv]; done) | (go_simp; rfl)) ?_
            with_reducible refine ((HL.out _ hHeld).2).mono ?_
            rintro e wc4 ⟨E5, F5, G5, I5, rfl, f5, hb4⟩
            replace f5 := f5.wide (show w4.heap.size ≤ _ from hHeld.blw.size)
            (try replace f2 := f2.keep (Keep.of hb4 (Nat.le_refl _)) (Nat.le_refl _))
            (try replace f5 := f5.keep (Keep.of hb4 (Nat.le_refl _)) (Nat.le_refl _))
            (try replace k7 := (hb4.block _ (heap_lt k7)).trans k7)
            (try replace k8 := (hb4.block _ (heap_lt k8)).trans k8)
            refine ⟨_, rfl, ?_⟩
            refine hK.out _ _ (by exact hHeld.keep hb4 t1 t2 t3) (fun hHeld => ?_)
            clear hK K
            refine nn ?_
            exact norm_ (by rfl) (J ⟨E2, F2, G2, I2, E5, F5, G5, I5, _, _⟩ _ ⟨f2, f5, k7, k8, ne, m7, m8, hHeld⟩)
      · intro K hK
        refine value_ (v := .pointer (some ⟨wc1.heap.size, 0, none⟩)) (w1 := wc1.alloc (.cells #[.bool false, .slice none 0 0, .slice none 0 0, .bool false, .slice none 0 0, .slice none 0 0] 155)) (by rfl) rfl ?_ ?_
        · go_simp; (try rfl)
        obtain ⟨wc2, hw2, hb2, hr2⟩ : ∃ x, wc1.alloc (.cells #[.bool false, .slice none 0 0, .slice none 0 0, .bool false, .slice none 0 0, .slice none 0 0] 155) = x ∧ Go.RowKit.Below wc1.heap.size wc1 x ∧ x.heap[wc1.heap.size]? = some (.cells #[.bool false, .slice none 0 0, .slice none 0 0, .bool false, .slice none 0 0, .slice none 0 0] 155 (0, 0)) := ⟨_, rfl, (Go.RowKit.Below.refl _ _).alloc (Nat.le_refl _) _, alloc_new _ _⟩
        rw [hw2]
        have m8 : w4.heap.size ≤ wc1.heap.size := hHeld.blw.size
        (try have ne := Nat.ne_of_lt (heap_lt k7))
        have k8 := hr2
        (try replace f2 := f2.keep (Keep.of hb2 (Nat.le_refl _)) (Nat.le_refl _))
        (try replace f5 := f5.keep (Keep.of hb2 (Nat.le_refl _)) (Nat.le_refl _))
        (try replace k7 := (hb2.block _ (heap_lt k7)).trans k7)
        (try replace k8 := (hb2.block _ (heap_lt k8)).trans k8)
        refine hK.out _ _ (by exact hHeld.keep hb2 t1 t2 t3) (fun hHeld => ?_)
        clear hK K
        refine nn ?_
        refine o1 2 11 (bt 10 223) ?_
        · intro K hK
          refine goes_ Tryz.func157 (by kernel_rfl) rfl #[pv A2 B2 C2 D2 b, pv A B C D a] (by rfl) rfl rfl (by first | rfl | (simp [Act.eval]; done) | (simp [Act.eval, pv]; done) | (go_simp; rfl)) ?_
          with_reducible refine ((HL.out _ hHeld).1).mono ?_
          rintro e wc3 ⟨E2, F2, G2, I2, rfl, f2, hb3⟩
          replace f2 := f2.wide (show w4.heap.size ≤ _ from hHeld.blw.size)
          (try replace f2 := f2.keep (Keep.of hb3 (Nat.le_refl _)) (Nat.le_refl _))
          (try replace f5 := f5.keep (Keep.of hb3 (Nat.le_refl _)) (Nat.le_refl _))
          (try replace k7 := (hb3.block _ (heap_lt k7)).trans k7)
          (try replace k8 := (hb3.block _ (heap_lt k8)).trans k8)
          refine ⟨_, rfl, ?_⟩
          refine hK.out _ _ (by exact hHeld.keep hb3 t1 t2 t3) (fun hHeld => ?_)
          clear hK K
          refine nn ?_
          refine o1 5 14 (bt 10 255) ?_
          · intro K hK
            refine goes_ Tryz.func157 (by kernel_rfl) rfl #[pv A3 B3 C3 D3 c, pv A B C D a] (by rfl) rfl rfl (by first | rfl | (simp [Act.eval]; done) | (simp [Act.eval, pv]; done) | (go_simp; rfl)) ?_
            with_reducible refine ((HL.out _ hHeld).2).mono ?_
            rintro e wc4 ⟨E5, F5, G5, I5, rfl, f5, hb4⟩
            replace f5 := f5.wide (show w4.heap.size ≤ _ from hHeld.blw.size)
            (try replace f2 := f2.keep (Keep.of hb4 (Nat.le_refl _)) (Nat.le_refl _))
            (try replace f5 := f5.keep (Keep.of hb4 (Nat.le_refl _)) (Nat.le_refl _))
            (try replace k7 := (hb4.block _ (heap_lt k7)).trans k7)
            (try replace k8 := (hb4.block _ (heap_lt k8)).trans k8)
            refine ⟨_, rfl, ?_⟩
            refine hK.out _ _ (by exact hHeld.keep hb4 t1 t2 t3) (fun hHeld => ?_)
            clear hK K
            refine nn ?_
            exact norm_ (by rfl) (J ⟨E2, F2, G2, I2, E5, F5, G5, I5, _, _⟩ _ ⟨f2, f5, k7, k8, ne, m7, m8, hHeld⟩)
    · intro K hK
      refine value_ (v := .pointer (some ⟨wc0.heap.size, 0, none⟩)) (w1 := wc0.alloc (.cells #[.bool false, .slice none 0 0, .slice none 0 0, .bool false, .slice none 0 0, .slice none 0 0] 155)) (by rfl) rfl ?_ ?_
      · go_simp; (try rfl)
      obtain ⟨wc1, hw1, hb1, hr1⟩ : ∃ x, wc0.alloc (.cells #[.bool false, .slice none 0 0, .slice none 0 0, .bool false, .slice none 0 0, .slice none 0 0] 155) = x ∧ Go.RowKit.Below wc0.heap.size wc0 x ∧ x.heap[wc0.heap.size]? = some (.cells #[.bool false, .slice none 0 0, .slice none 0 0, .bool false, .slice none 0 0, .slice none 0 0] 155 (0, 0)) := ⟨_, rfl, (Go.RowKit.Below.refl _ _).alloc (Nat.le_refl _) _, alloc_new _ _⟩
      rw [hw1]
      have m8 : w4.heap.size ≤ wc0.heap.size := hHeld.blw.size
      (try have ne := Nat.ne_of_lt (heap_lt k7))
      have k8 := hr1
      (try replace f2 := f2.keep (Keep.of hb1 (Nat.le_refl _)) (Nat.le_refl _))
      (try replace f5 := f5.keep (Keep.of hb1 (Nat.le_refl _)) (Nat.le_refl _))
      (try replace k7 := (hb1.block _ (heap_lt k7)).trans k7)
      (try replace k8 := (hb1.block _ (heap_lt k8)).trans k8)
      refine hK.out _ _ (by exact hHeld.keep hb1 t1 t2 t3) (fun hHeld => ?_)
      clear hK K
      refine nn ?_
      refine o2 2 11 6 7 (bt 10 159) (bt 10 219) ?_ ?_
      · intro K hK
        refine goes_ Tryz.func157 (by kernel_rfl) rfl #[pv A2 B2 C2 D2 b, pv A B C D a] (by rfl) rfl rfl (by first | rfl | (simp [Act.eval]; done) | (simp [Act.eval, pv]; done) | (go_simp; rfl)) ?_
        with_reducible refine ((HL.out _ hHeld).1).mono ?_
        rintro e wc2 ⟨E2, F2, G2, I2, rfl, f2, hb2⟩
        replace f2 := f2.wide (show w4.heap.size ≤ _ from hHeld.blw.size)
        (try replace f2 := f2.keep (Keep.of hb2 (Nat.le_refl _)) (Nat.le_refl _))
        (try replace f5 := f5.keep (Keep.of hb2 (Nat.le_refl _)) (Nat.le_refl _))
        (try replace k7 := (hb2.block _ (heap_lt k7)).trans k7)
        (try replace k8 := (hb2.block _ (heap_lt k8)).trans k8)
        refine ⟨_, rfl, ?_⟩
        refine hK.out _ _ (by exact hHeld.keep hb2 t1 t2 t3) (fun hHeld => ?_)
        clear hK K
        refine nn ?_
        refine o2 5 14 6 7 (bt 10 191) (bt 10 223) ?_ ?_
        · intro K hK
          refine goes_ Tryz.func157 (by kernel_rfl) rfl #[pv A3 B3 C3 D3 c, pv A B C D a] (by rfl) rfl rfl (by first | rfl | (simp [Act.eval]; done) | (simp [Act.eval, pv]; done) | (go_simp; rfl)) ?_
          with_reducible refine ((HL.out _ hHeld).2).mono ?_
          rintro e wc3 ⟨E5, F5, G5, I5, rfl, f5, hb3⟩
          replace f5 := f5.wide (show w4.heap.size ≤ _ from hHeld.blw.size)
          (try replace f2 := f2.keep (Keep.of hb3 (Nat.le_refl _)) (Nat.le_refl _))
          (try replace f5 := f5.keep (Keep.of hb3 (Nat.le_refl _)) (Nat.le_refl _))
          (try replace k7 := (hb3.block _ (heap_lt k7)).trans k7)
          (try replace k8 := (hb3.block _ (heap_lt k8)).trans k8)
          refine ⟨_, rfl, ?_⟩
          refine hK.out _ _ (by exact hHeld.keep hb3 t1 t2 t3) (fun hHeld => ?_)
          clear hK K
          refine nn ?_
          refine o1 6 7 (bt 10 255) ?_
          · intro K hK
            refine value_ (v := .pointer (some ⟨wc3.heap.size, 0, none⟩)) (w1 := wc3.alloc (.cells #[.bool false, .slice none 0 0, .slice none 0 0, .bool false, .slice none 0 0, .slice none 0 0] 155)) (by rfl) rfl ?_ ?_
            · go_simp; (try rfl)
            obtain ⟨wc4, hw4, hb4, hr4⟩ : ∃ x, wc3.alloc (.cells #[.bool false, .slice none 0 0, .slice none 0 0, .bool false, .slice none 0 0, .slice none 0 0] 155) = x ∧ Go.RowKit.Below wc3.heap.size wc3 x ∧ x.heap[wc3.heap.size]? = some (.cells #[.bool false, .slice none 0 0, .slice none 0 0, .bool false, .slice none 0 0, .slice none 0 0] 155 (0, 0)) := ⟨_, rfl, (Go.RowKit.Below.refl _ _).alloc (Nat.le_refl _) _, alloc_new _ _⟩
            rw [hw4]
            have m7 : w4.heap.size ≤ wc3.heap.size := hHeld.blw.size
            (try have ne := Nat.ne_of_gt (heap_lt k8))
            have k7 := hr4
            (try replace f2 := f2.keep (Keep.of hb4 (Nat.le_refl _)) (Nat.le_refl _))
            (try replace f5 := f5.keep (Keep.of hb4 (Nat.le_refl _)) (Nat.le_refl _))
            (try replace k7 := (hb4.block _ (heap_lt k7)).trans k7)
            (try replace k8 := (hb4.block _ (heap_lt k8)).trans k8)
            refine hK.out _ _ (by exact hHeld.keep hb4 t1 t2 t3) (fun hHeld => ?_)
            clear hK K
            refine nn ?_
            exact norm_ (by rfl) (J ⟨E2, F2, G2, I2, E5, F5, G5, I5, _, _⟩ _ ⟨f2, f5, k7, k8, ne, m7, m8, hHeld⟩)
        · intro K hK
          refine value_ (v := .pointer (some ⟨wc2.heap.size, 0, none⟩)) (w1 := wc2.alloc (.cells #[.bool false, .slice none 0 0, .slice none 0 0, .bool false, .slice none 0 0, .slice none 0 0] 155)) (by rfl) rfl ?_ ?_
          · go_simp; (try rfl)
          obtain ⟨wc3, hw3, hb3, hr3⟩ : ∃ x, wc2.alloc (.cells #[.bool false, .slice none 0 0, .slice none 0 0, .bool false, .slice none 0 0, .slice none 0 0] 155) = x ∧ Go.RowKit.Below wc2.heap.size wc2 x ∧ x.heap[wc2.heap.size]? = some (.cells #[.bool false, .slice none 0 0, .slice none 0 0, .bool false, .slice none 0 0, .slice none 0 0] 155 (0, 0)) := ⟨_, rfl, (Go.RowKit.Below.refl _ _).alloc (Nat.le_refl _) _, alloc_new _ _⟩
          rw [hw3]
          have m7 : w4.heap.size ≤ wc2.heap.size := hHeld.blw.size
          (try have ne := Nat.ne_of_gt (heap_lt k8))
          have k7 := hr3
          (try replace f2 := f2.keep (Keep.of hb3 (Nat.le_refl _)) (Nat.le_refl _))
          (try replace f5 := f5.keep (Keep.of hb3 (Nat.le_refl _)) (Nat.le_refl _))
          (try replace k7 := (hb3.block _ (heap_lt k7)).trans k7)
          (try replace k8 := (hb3.block _ (heap_lt k8)).trans k8)
          refine hK.out _ _ (by exact hHeld.keep hb3 t1 t2 t3) (fun hHeld => ?_)
          clear hK K
          refine nn ?_
          refine o1 5 14 (bt 10 255) ?_
          · intro K hK
            refine goes_ Tryz.func157 (by kernel_rfl) rfl #[pv A3 B3 C3 D3 c, pv A B C D a] (by rfl) rfl rfl (by first | rfl | (simp [Act.eval]; done) | (simp [Act.eval, pv]; done) | (go_simp; rfl)) ?_
            with_reducible refine ((HL.out _ hHeld).2).mono ?_
            rintro e wc4 ⟨E5, F5, G5, I5, rfl, f5, hb4⟩
            replace f5 := f5.wide (show w4.heap.size ≤ _ from hHeld.blw.size)
            (try replace f2 := f2.keep (Keep.of hb4 (Nat.le_refl _)) (Nat.le_refl _))
            (try replace f5 := f5.keep (Keep.of hb4 (Nat.le_refl _)) (Nat.le_refl _))
            (try replace k7 := (hb4.block _ (heap_lt k7)).trans k7)
            (try replace k8 := (hb4.block _ (heap_lt k8)).trans k8)
            refine ⟨_, rfl, ?_⟩
            refine hK.out _ _ (by exact hHeld.keep hb4 t1 t2 t3) (fun hHeld => ?_)
            clear hK K
            refine nn ?_
            exact norm_ (by rfl) (J ⟨E2, F2, G2, I2, E5, F5, G5, I5, _, _⟩ _ ⟨f2, f5, k7, k8, ne, m7, m8, hHeld⟩)
      · intro K hK
        refine value_ (v := .pointer (some ⟨wc1.heap.size, 0, none⟩)) (w1 := wc1.alloc (.cells #[.bool false, .slice none 0 0, .slice none 0 0, .bool false, .slice none 0 0, .slice none 0 0] 155)) (by rfl) rfl ?_ ?_
        · go_simp; (try rfl)
        obtain ⟨wc2, hw2, hb2, hr2⟩ : ∃ x, wc1.alloc (.cells #[.bool false, .slice none 0 0, .slice none 0 0, .bool false, .slice none 0 0, .slice none 0 0] 155) = x ∧ Go.RowKit.Below wc1.heap.size wc1 x ∧ x.heap[wc1.heap.size]? = some (.cells #[.bool false, .slice none 0 0, .slice none 0 0, .bool false, .slice none 0 0, .slice none 0 0] 155 (0, 0)) := ⟨_, rfl, (Go.RowKit.Below.refl _ _).alloc (Nat.le_refl _) _, alloc_new _ _⟩
        rw [hw2]
        have m7 : w4.heap.size ≤ wc1.heap.size := hHeld.blw.size
        (try have ne := Nat.ne_of_gt (heap_lt k8))
        have k7 := hr2
        (try replace f2 := f2.keep (Keep.of hb2 (Nat.le_refl _)) (Nat.le_refl _))
        (try replace f5 := f5.keep (Keep.of hb2 (Nat.le_refl _)) (Nat.le_refl _))
        (try replace k7 := (hb2.block _ (heap_lt k7)).trans k7)
        (try replace k8 := (hb2.block _ (heap_lt k8)).trans k8)
        refine hK.out _ _ (by exact hHeld.keep hb2 t1 t2 t3) (fun hHeld => ?_)
        clear hK K
        refine nn ?_
        refine o1 2 11 (bt 10 223) ?_
        · intro K hK
          refine goes_ Tryz.func157 (by kernel_rfl) rfl #[pv A2 B2 C2 D2 b, pv A B C D a] (by rfl) rfl rfl (by first | rfl | (simp [Act.eval]; done) | (simp [Act.eval, pv]; done) | (go_simp; rfl)) ?_
          with_reducible refine ((HL.out _ hHeld).1).mono ?_
          rintro e wc3 ⟨E2, F2, G2, I2, rfl, f2, hb3⟩
          replace f2 := f2.wide (show w4.heap.size ≤ _ from hHeld.blw.size)
          (try replace f2 := f2.keep (Keep.of hb3 (Nat.le_refl _)) (Nat.le_refl _))
          (try replace f5 := f5.keep (Keep.of hb3 (Nat.le_refl _)) (Nat.le_refl _))
          (try replace k7 := (hb3.block _ (heap_lt k7)).trans k7)
          (try replace k8 := (hb3.block _ (heap_lt k8)).trans k8)
          refine ⟨_, rfl, ?_⟩
          refine hK.out _ _ (by exact hHeld.keep hb3 t1 t2 t3) (fun hHeld => ?_)
          clear hK K
          refine nn ?_
          refine o1 5 14 (bt 10 255) ?_
          · intro K hK
            refine goes_ Tryz.func157 (by kernel_rfl) rfl #[pv A3 B3 C3 D3 c, pv A B C D a] (by rfl) rfl rfl (by first | rfl | (simp [Act.eval]; done) | (simp [Act.eval, pv]; done) | (go_simp; rfl)) ?_
            with_reducible refine ((HL.out _ hHeld).2).mono ?_
            rintro e wc4 ⟨E5, F5, G5, I5, rfl, f5, hb4⟩
            replace f5 := f5.wide (show w4.heap.size ≤ _ from hHeld.blw.size)
            (try replace f2 := f2.keep (Keep.of hb4 (Nat.le_refl _)) (Nat.le_refl _))
            (try replace f5 := f5.keep (Keep.of hb4 (Nat.le_refl _)) (Nat.le_refl _))
            (try replace k7 := (hb4.block _ (heap_lt k7)).trans k7)
            (try replace k8 := (hb4.block _ (heap_lt k8)).trans k8)
            refine ⟨_, rfl, ?_⟩
            refine hK.out _ _ (by exact hHeld.keep hb4 t1 t2 t3) (fun hHeld => ?_)
            clear hK K
            refine nn ?_
            exact norm_ (by rfl) (J ⟨E2, F2, G2, I2, E5, F5, G5, I5, _, _⟩ _ ⟨f2, f5, k7, k8, ne, m7, m8, hHeld⟩)
  rintro ⟨e1, f1, g1, i1, e2, f2, g2, i2, g7, g8⟩ wj ⟨k2, k5, k7, k8, ne, m7, m8, hHeld⟩
  dsimp only at k2 k5 k7 k8 ne m7 m8 ⊢
  have HJ := Lib.hid (And.intro k2 (And.intro k5 (And.intro ne (And.intro k7 (And.intro k8 (And.intro m7 (And.intro m8 hHeld)))))))
  clear k2 k5 ne m7 m8 hHeld
  unfold pv
  refine na ?_
  refine last_ (i := 8) (N := none) (bt 10 511) rfl rfl (by kernel_rfl) (by decide) (fun K hK => ?_)
  obtain ⟨y0, y1, y2, y3, y4, y5, y6, y7, y8, y9, y10, y11⟩ := row6 k7
  clear k7
  refine skip_ (w1 := ?_) (by rfl) rfl ?_ ?_
  rotate_left
  · go_simp
    rfl
  refine hK.out _ _ ?_
  clear hK K
  have k8b := (sixSet_other (o := 0) (v0 := .bool (decide (u.1.num < 0))) (v1 := .slice e1 (qn u.1).length (qn u.1).length) (v2 := .slice f1 (qd u.1).length (qd u.1).length) (v3 := .bool (decide (u.2.num < 0))) (v4 := .slice g1 (qn u.2).length (qn u.2).length) (v5 := .slice i1 (qd u.2).length (qd u.2).length) g8 (Ne.symm HJ.out.2.2.1)).trans k8
  unfold sixSet at k8b
  simp only [Nat.zero_add] at k8b
  generalize hw9 : World.setCell (World.setCell (World.setCell (World.setCell (World.setCell (World.setCell wj _ _) _ _) _ _) _ _) _ _) _ _ = w9 at k8b ⊢
  have HW9 := Lib.hid hw9
  clear hw9 k8
  refine last_ (i := 9) (N := none) (bt 10 1023) rfl rfl (by kernel_rfl) (by decide) (fun K hK => ?_)
  obtain ⟨z0, z1, z2, z3, z4, z5, z6, z7, z8, z9, z10, z11⟩ := row6 k8b
  clear k8b y0 y1 y2 y3 y4 y5 y6 y7 y8 y9 y10 y11
  refine skip_ (w1 := ?_) (by rfl) rfl ?_ ?_
  rotate_left
  · go_simp
    rfl
  refine hK.out _ _ ?_
  clear hK K
  refine done_ (by kernel_rfl) ?_
  obtain ⟨k2, k5, ne, k7, k8, m7, m8, hq⟩ := HJ.out
  obtain ⟨p7, p8, fu, fv, hBk, l7, l8⟩ := area_mid k2 k5 ne k7 k8 m7 m8 hq.blw _ rfl
  unfold sixSet at p7 p8 fu fv hBk l7 l8
  simp only [Nat.zero_add] at p7 p8 fu fv hBk l7 l8
  rw [HW9.out] at p7 p8 fu fv hBk l7 l8
  clear k2 k5 ne k7 k8 m7 m8 hq HW9 HJ z0 z1 z2 z3 z4 z5 z6 z7 z8 z9 z10 z11 HL hi hi2 t1 t2 t3
  generalize World.setCell (World.setCell (World.setCell (World.setCell (World.setCell (World.setCell w9 _ _) _ _) _ _) _ _) _ _) _ _ = wk at *
  have sk := hBk.size
  have HKK := Lib.hid (And.intro fu (And.intro fv hBk))
  have hT : AreaT wk g7 g8 e1 f1 g1 i1 e2 f2 g2 i2 u v wk.drew := ⟨(Below.refl _ _).drew, p7.keep (Below.refl _ _).drew l7, p8.keep (Below.refl _ _).drew l8⟩
  clear fu fv hBk p7 p8
  ((try dsimp only); repeat (first | go_values | go_skip | go_guarded | go_step | go_upon))
  refine start_ (n := 15) (S := fun w' => AreaT wk g7 g8 e1 f1 g1 i1 e2 f2 g2 i2 u v w') (ds := [14]) (bt 15 0) (by kernel_rfl) rfl rfl (hT) (fun hHeld => ?_)
  refine pv_ 0 15 ?_
  refine ld_ 1 16 ?_ hHeld ?_ ?_; rotate_left
  · rintro w' ⟨_, ⟨q0, q1, q2, q3, q4, q5⟩, ⟨r0, r1, r2, r3, r4, r5⟩⟩
    go_simp; with_reducible rfl
  refine pv_ 2 17 ?_
  refine ld_ 3 18 ?_ hHeld ?_ ?_; rotate_left
  · rintro w' ⟨_, ⟨q0, q1, q2, q3, q4, q5⟩, ⟨r0, r1, r2, r3, r4, r5⟩⟩
    go_simp; with_reducible rfl
  refine pv_ 6 21 ?_
  refine ld_ 7 22 ?_ hHeld ?_ ?_; rotate_left
  · rintro w' ⟨_, ⟨q0, q1, q2, q3, q4, q5⟩, ⟨r0, r1, r2, r3, r4, r5⟩⟩
    go_simp; with_reducible rfl
  refine pv_ 8 23 ?_
  refine ld_ 9 24 ?_ hHeld ?_ ?_; rotate_left
  · rintro w' ⟨_, ⟨q0, q1, q2, q3, q4, q5⟩, ⟨r0, r1, r2, r3, r4, r5⟩⟩
    go_simp; with_reducible rfl
  refine join_ (σ := Nat × Nat) 4 (bt 15 2047) (fun s => [(19, .slice (some ⟨s.1, 0, none⟩) 2 2), (20, .agg #[.bool false, .slice (some ⟨s.1, 0, none⟩) 2 2]), (25, .slice (some ⟨s.2, 0, none⟩) 2 2)]) (fun s w' => w'.heap[s.1]? = some (.cells #[.bool (decide (u.1.num < 0)), .slice e1 (qn u.1).length (qn u.1).length, .slice f1 (qd u.1).length (qd u.1).length, .bool (decide (v.2.num < 0)), .slice g2 (qn v.2).length (qn v.2).length, .slice i2 (qd v.2).length (qd v.2).length] 26 (0, 0)) ∧ w'.heap[s.2]? = some (.cells #[.bool (decide (u.2.num < 0)), .slice g1 (qn u.2).length (qn u.2).length, .slice i1 (qd u.2).length (qd u.2).length, .bool (decide (v.1.num < 0)), .slice e2 (qn v.1).length (qn v.1).length, .slice f2 (qd v.1).length (qd v.1).length] 26 (0, 0)) ∧ AreaT wk g7 g8 e1 f1 g1 i1 e2 f2 g2 i2 u v w') ?_ ?_
  rotate_left
  · intro J
    generalize hwc0 : wk.drew = wc0 at *
    refine o2 4 19 10 25 (bt 15 991) (bt 15 1999) ?_ ?_
    · intro K hK
      refine value_ (v := .slice (some ⟨wc0.heap.size, 0, none⟩) 2 2) (w1 := wc0.alloc (.cells #[.bool (decide (u.1.num < 0)), .slice e1 (qn u.1).length (qn u.1).length, .slice f1 (qd u.1).length (qd u.1).length, .bool (decide (v.2.num < 0)), .slice g2 (qn v.2).length (qn v.2).length, .slice i2 (qd v.2).length (qd v.2).length] 26)) (by rfl) rfl ?_ ?_
      · go_simp; (try rfl)
      obtain ⟨wc1, hw1, hb1, hr1⟩ : ∃ x, wc0.alloc (.cells #[.bool (decide (u.1.num < 0)), .slice e1 (qn u.1).length (qn u.1).length, .slice f1 (qd u.1).length (qd u.1).length, .bool (decide (v.2.num < 0)), .slice g2 (qn v.2).length (qn v.2).length, .slice i2 (qd v.2).length (qd v.2).length] 26) = x ∧ Go.RowKit.Below wc0.heap.size wc0 x ∧ x.heap[wc0.heap.size]? = some (.cells #[.bool (decide (u.1.num < 0)), .slice e1 (qn u.1).length (qn u.1).length, .slice f1 (qd u.1).length (qd u.1).length, .bool (decide (v.2.num < 0)), .slice g2 (qn v.2).length (qn v.2).length, .slice i2 (qd v.2).length (qd v.2).length] 26 (0, 0)) := ⟨_, rfl, (Go.RowKit.Below.refl _ _).alloc (Nat.le_refl _) _, alloc_new _ _⟩
      rw [hw1]
      generalize hb4 : wc0.heap.size = b4 at hr1 ⊢
      have r4 := hr1
      (try replace r4 := (hb1.block _ (heap_lt r4)).trans r4)
      (try replace r10 := (hb1.block _ (heap_lt r10)).trans r10)
      refine hK.out _ _ (by exact hHeld.keep hb1 l7 l8) (fun hHeld => ?_)
      clear hK K
      refine nn ?_
      refine o2 5 20 10 25 (bt 15 1023) (bt 15 2015) ?_ ?_
      · intro K hK
        refine go_ Tryz.func159 #[.slice (some ⟨b4, 0, none⟩) 2 2] ?_
        with_reducible refine (pPlus _ _ _ _).mono ?_
        rintro e wc2 ⟨rfl, hb2⟩
        (try replace r4 := (hb2.block _ (heap_lt r4)).trans r4)
        (try replace r10 := (hb2.block _ (heap_lt r10)).trans r10)
        refine ⟨_, rfl, ?_⟩
        refine hK.out _ _ (by exact hHeld.keep hb2 l7 l8) (fun hHeld => ?_)
        clear hK K
        refine nn ?_
        refine o1 10 25 (bt 15 2047) ?_
        · intro K hK
          refine value_ (v := .slice (some ⟨wc2.heap.size, 0, none⟩) 2 2) (w1 := wc2.alloc (.cells #[.bool (decide (u.2.num < 0)), .slice g1 (qn u.2).length (qn u.2).length, .slice i1 (qd u.2).length (qd u.2).length, .bool (decide (v.1.num < 0)), .slice e2 (qn v.1).length (qn v.1).length, .slice f2 (qd v.1).length (qd v.1).length] 26)) (by rfl) rfl ?_ ?_
          · go_simp; (try rfl)
          obtain ⟨wc3, hw3, hb3, hr3⟩ : ∃ x, wc2.alloc (.cells #[.bool (decide (u.2.num < 0)), .slice g1 (qn u.2).length (qn u.2).length, .slice i1 (qd u.2).length (qd u.2).length, .bool (decide (v.1.num < 0)), .slice e2 (qn v.1).length (qn v.1).length, .slice f2 (qd v.1).length (qd v.1).length] 26) = x ∧ Go.RowKit.Below wc2.heap.size wc2 x ∧ x.heap[wc2.heap.size]? = some (.cells #[.bool (decide (u.2.num < 0)), .slice g1 (qn u.2).length (qn u.2).length, .slice i1 (qd u.2).length (qd u.2).length, .bool (decide (v.1.num < 0)), .slice e2 (qn v.1).length (qn v.1).length, .slice f2 (qd v.1).length (qd v.1).length] 26 (0, 0)) := ⟨_, rfl, (Go.RowKit.Below.refl _ _).alloc (Nat.le_refl _) _, alloc_new _ _⟩
          rw [hw3]
          generalize hb10 : wc2.heap.size = b10 at hr3 ⊢
          have r10 := hr3
          (try replace r4 := (hb3.block _ (heap_lt r4)).trans r4)
          (try replace r10 := (hb3.block _ (heap_lt r10)).trans r10)
          refine hK.out _ _ (by exact hHeld.keep hb3 l7 l8) (fun hHeld => ?_)
          clear hK K
          refine nn ?_
          exact norm_ (by rfl) (J (_, _) _ ⟨r4, r10, hHeld⟩)
      · intro K hK
        refine value_ (v := .slice (some ⟨wc1.heap.size, 0, none⟩) 2 2) (w1 := wc1.alloc (.cells #[.bool (decide (u.2.num < 0)), .slice g1 (qn u.2).length (qn u.2).length, .slice i1 (qd u.2).length (qd u.2).length, .bool (decide (v.1.num < 0)), .slice e2 (qn v.1).length (qn v.1).length, .slice f2 (qd v.1).length (qd v.1).length] 26)) (by rfl) rfl ?_ ?_
        · go_simp; (try rfl)
        obtain ⟨wc2, hw2, hb2, hr2⟩ : ∃ x, wc1.alloc (.cells #[.bool (decide (u.2.num < 0)), .slice g1 (qn u.2).length (qn u.2).length, .slice i1 (qd u.2).length (qd u.2).length, .bool (decide (v.1.num < 0)), .slice e2 (qn v.1).length (qn v.1).length, .slice f2 (qd v.1).length (qd v.1).length] 26) = x ∧ Go.RowKit.Below wc1.heap.size wc1 x ∧ x.heap[wc1.heap.size]? = some (.cells #[.bool (decide (u.2.num < 0)), .slice g1 (qn u.2).length (qn u.2).length, .slice i1 (qd u.2).length (qd u.2).length, .bool (decide (v.1.num < 0)), .slice e2 (qn v.1).length (qn v.1).length, .slice f2 (qd v.1).length (qd v.1).length] 26 (0, 0)) := ⟨_, rfl, (Go.RowKit.Below.refl _ _).alloc (Nat.le_refl _) _, alloc_new _ _⟩
        rw [hw2]
        generalize hb10 : wc1.heap.size = b10 at hr2 ⊢
        have r10 := hr2
        (try replace r4 := (hb2.block _ (heap_lt r4)).trans r4)
        (try replace r10 := (hb2.block _ (heap_lt r10)).trans r10)
        refine hK.out _ _ (by exact hHeld.keep hb2 l7 l8) (fun hHeld => ?_)
        clear hK K
        refine nn ?_
        refine o1 5 20 (bt 15 2047) ?_
        · intro K hK
          refine go_ Tryz.func159 #[.slice (some ⟨b4, 0, none⟩) 2 2] ?_
          with_reducible refine (pPlus _ _ _ _).mono ?_
          rintro e wc3 ⟨rfl, hb3⟩
          (try replace r4 := (hb3.block _ (heap_lt r4)).trans r4)
          (try replace r10 := (hb3.block _ (heap_lt r10)).trans r10)
          refine ⟨_, rfl, ?_⟩
          refine hK.out _ _ (by exact hHeld.keep hb3 l7 l8) (fun hHeld => ?_)
          clear hK K
          refine nn ?_
          exact norm_ (by rfl) (J (_, _) _ ⟨r4, r10, hHeld⟩)
    · intro K hK
      refine value_ (v := .slice (some ⟨wc0.heap.size, 0, none⟩) 2 2) (w1 := wc0.alloc (.cells #[.bool (decide (u.2.num < 0)), .slice g1 (qn u.2).length (qn u.2).length, .slice i1 (qd u.2).length (qd u.2).length, .bool (decide (v.1.num < 0)), .slice e2 (qn v.1).length (qn v.1).length, .slice f2 (qd v.1).length (qd v.1).length] 26)) (by rfl) rfl ?_ ?_
      · go_simp; (try rfl)
      obtain ⟨wc1, hw1, hb1, hr1⟩ : ∃ x, wc0.alloc (.cells #[.bool (decide (u.2.num < 0)), .slice g1 (qn u.2).length (qn u.2).length, .slice i1 (qd u.2).length (qd u.2).length, .bool (decide (v.1.num < 0)), .slice e2 (qn v.1).length (qn v.1).length, .slice f2 (qd v.1).length (qd v.1).length] 26) = x ∧ Go.RowKit.Below wc0.heap.size wc0 x ∧ x.heap[wc0.heap.size]? = some (.cells #[.bool (decide (u.2.num < 0)), .slice g1 (qn u.2).length (qn u.2).length, .slice i1 (qd u.2).length (qd u.2).length, .bool (decide (v.1.num < 0)), .slice e2 (qn v.1).length (qn v.1).length, .slice f2 (qd v.1).length (qd v.1).length] 26 (0, 0)) := ⟨_, rfl, (Go.RowKit.Below.refl _ _).alloc (Nat.le_refl _) _, alloc_new _ _⟩
      rw [hw1]
      generalize hb10 : wc0.heap.size = b10 at hr1 ⊢
      have r10 := hr1
      (try replace r4 := (hb1.block _ (heap_lt r4)).trans r4)
      (try replace r10 := (hb1.block _ (heap_lt r10)).trans r10)
      refine hK.out _ _ (by exact hHeld.keep hb1 l7 l8) (fun hHeld => ?_)
      clear hK K
      refine nn ?_
      refine o1 4 19 (bt 15 2015) ?_
      · intro K hK
        refine value_ (v := .slice (some ⟨wc1.heap.size, 0, none⟩) 2 2) (w1 := wc1.alloc (.cells #[.bool (decide (u.1.num < 0)), .slice e1 (qn u.1).length (qn u.1).length, .slice f1 (qd u.1).length (qd u.1).length, .bool (decide (v.2.num < 0)), .slice g2 (qn v.2).length (qn v.2).length, .slice i2 (qd v.2).length (qd v.2).length] 26)) (by rfl) rfl ?_ ?_
        · go_simp; (try rfl)
        obtain ⟨wc2, hw2, hb2, hr2⟩ : ∃ x, wc1.alloc (.cells #[.bool (decide (u.1.num < 0)), .slice e1 (qn u.1).length (qn u.1).length, .slice f1 (qd u.1).length (qd u.1).length, .bool (decide (v.2.num < 0)), .slice g2 (qn v.2).length (qn v.2).length, .slice i2 (qd v.2).length (qd v.2).length] 26) = x ∧ Go.RowKit.Below wc1.heap.size wc1 x ∧ x.heap[wc1.heap.size]? = some (.cells #[.bool (decide (u.1.num < 0)), .slice e1 (qn u.1).length (qn u.1).length, .slice f1 (qd u.1).length (qd u.1).length, .bool (decide (v.2.num < 0)), .slice g2 (qn v.2).length (qn v.2).length, .slice i2 (qd v.2).length (qd v.2).length] 26 (0, 0)) := ⟨_, rfl, (Go.RowKit.Below.refl _ _).alloc (Nat.le_refl _) _, alloc_new _ _⟩
        rw [hw2]
        generalize hb4 : wc1.heap.size = b4 at hr2 ⊢
        have r4 := hr2
        (try replace r4 := (hb2.block _ (heap_lt r4)).trans r4)
        (try replace r10 := (hb2.block _ (heap_lt r10)).trans r10)
        refine hK.out _ _ (by exact hHeld.keep hb2 l7 l8) (fun hHeld => ?_)
        clear hK K
        refine nn ?_
        refine o1 5 20 (bt 15 2047) ?_
        · intro K hK
          refine go_ Tryz.func159 #[.slice (some ⟨b4, 0, none⟩) 2 2] ?_
          with_reducible refine (pPlus _ _ _ _).mono ?_
          rintro e wc3 ⟨rfl, hb3⟩
          (try replace r4 := (hb3.block _ (heap_lt r4)).trans r4)
          (try replace r10 := (hb3.block _ (heap_lt r10)).trans r10)
          refine ⟨_, rfl, ?_⟩
          refine hK.out _ _ (by exact hHeld.keep hb3 l7 l8) (fun hHeld => ?_)
          clear hK K
          refine nn ?_
          exact norm_ (by rfl) (J (_, _) _ ⟨r4, r10, hHeld⟩)
  rintro ⟨b4, b10⟩ wj ⟨r4, r10, hHeld⟩
  dsimp only at r4 r10 ⊢
  refine na ?_
  refine ca_ 11 26 Tryz.func160 #[.slice (some ⟨b10, 0, none⟩) 2 2] ?_
  with_reducible refine (pMinus _ _ _ _).mono ?_
  rintro e w' ⟨rfl, hb11⟩
  replace r4 := (hb11.block _ (heap_lt r4)).trans r4
  replace r10 := (hb11.block _ (heap_lt r10)).trans r10
  have hs11 := hb11.size
  refine ⟨_, rfl, (by first | (exact hHeld.keep ((Go.RowKit.Below.refl _ _).alloc (Nat.le_refl _) _) l7 l8) | (exact hHeld.keep hb13 l7 l8) | (exact hHeld.keep hb11 l7 l8)), fun hHeld => ?_⟩
  refine nn ?_
  have hHeld11 := hHeld
  refine one_ (i := 12) (N := some 27) (bt 15 8191) rfl rfl (by kernel_rfl) (by decide) (fun K hK => ?_)
  refine value_ (v := ?_) (w1 := ?_) (by rfl) rfl ?_ ?_
  rotate_left
  rotate_left
  · go_simp
    first | rfl | (refine ⟨?_, ?_⟩ <;> rfl)
  refine hK.out _ _ (by first | (exact hHeld.keep ((Go.RowKit.Below.refl _ _).alloc (Nat.le_refl _) _) l7 l8) | (exact hHeld.keep hb13 l7 l8) | (exact hHeld.keep hb11 l7 l8)) (fun hHeld => ?_)
  clear hK K
  refine nn ?_
  have hbk := hHeld11.blw
  have hsk := hbk.size
  have pu := (HKK.out.1.ins.keep (Keep.of hbk (Nat.le_refl _))).wide (Nat.zero_le _) hsk
  have pw := (HKK.out.2.1.ins.keep (Keep.of hbk (Nat.le_refl _))).wide (Nat.zero_le _) hsk
  have hSu := area_sum r4 r10 pu pw HS.out.1 HS.out.2 (by omega)
  rw [HA.out] at hSu
  have HSum := Lib.hid hSu
  clear hSu pu pw
  refine ca_ 13 28 Tryz.func158 #[.slice (some ⟨w'.heap.size, 0, none⟩) 2 2] ?_
  with_reducible refine (HSum.out).mono ?_
  rintro e w' ⟨E, F, rfl, hf13, hb13⟩
  clear HSum
  refine ⟨_, rfl, (by first | (exact hHeld.keep ((Go.RowKit.Below.refl _ _).alloc (Nat.le_refl _) _) l7 l8) | (exact hHeld.keep hb13 l7 l8) | (exact hHeld.keep hb11 l7 l8)), fun hHeld => ?_⟩
  refine nn ?_
  refine last_ (i := 14) (N := none) (bt 15 32767) rfl rfl (by kernel_rfl) (by decide) (fun K hK => ?_)
  have hkf := hHeld11.blw
  have hown := (hb13.block (w.heap.size + 1 + 1 + 1) (by rw [World.size_alloc]; have := hkf.size; omega)).trans (alloc_old ((hkf.block _ (by omega)).trans ((HKK.out.2.2.block _ (by omega)).trans H.out.1)))
  obtain ⟨z0, z1, z2, z3, z4, z5⟩ := row3 hown
  have HO := Lib.hid hown
  clear hown
  unfold qv
  refine skip_ (w1 := ?_) (by rfl) rfl ?_ ?_
  rotate_left
  · go_simp
    rfl
  refine hK.out _ _ ?_
  clear hK K
  refine done_ (by kernel_rfl) ?_
  ((try dsimp only); repeat (first | go_values | go_skip | go_guarded | go_step | go_upon))
  refine bodyPost_ret (results_cell_row rfl _ _ (w.heap.size + 1 + 1 + 1) _ _ _ _ rfl (heap_set_three HO.out _ _ _) rfl rfl rfl) rfl ?_
  have hsz := hkf.size
  rw [World.size_alloc] at hf13 hb13
  have hT2 := (in_three (g := w.heap.size + 1 + 1 + 1) (x := .bool (decide (r.num < 0))) (y := .slice E (qn r).length (qn r).length) (z := .slice F (qd r).length (qd r).length) (by omega) hf13).wide (lo' := w.heap.size) (by omega) (Nat.le_refl _)
  have hf := (((H.out.2.1.trans (HKK.out.2.2.mono (by omega))).trans (hkf.mono (by omega))).alloc (by omega) (.cells #[.bool false, .slice (some ⟨b4, 0, none⟩) 2 2, .bool true, .slice (some ⟨b10, 0, none⟩) 2 2] 211)).trans (hb13.mono (by omega))
  refine ⟨E, F, rfl, ?_, below_three (by omega) hf⟩
  rw [three_size]
  exact hT2
end Go.Proofs.YtfpofmifmapmfaaGreatDoor

namespace Go.Proofs.YtfpofmifmapmfaaGreatDoor
open Go.RowKit Go.Proofs.YtfpofmifmapmfaaGreatDoorW.PrintLast
set_option linter.unusedVariables false
set_option linter.unusedSimpArgs false
def FinP (p : Pt) : Prop := Fin64 p.1 ∧ Fin64 p.2
theorem pl_sz {p : Pt} (h : FinP p) : PSz 1075 (pl p) := ⟨fval_sz h.1, fval_sz h.2⟩
theorem area_sz {n : Nat} {a b c : Pl} (ha : PSz n a) (hb : PSz n b) (hc : PSz n c) : Sz (8 * n + 10) (area2 a b c) := by
  unfold area2
  exact ((((hb.1.sub ha.1).mul (hc.2.sub ha.2)).sub ((hb.2.sub ha.2).mul (hc.1.sub ha.1)))).mono (by omega)
theorem pts3 {w : World} {g : Nat} {a b c : Pt} {t : TypeId} {f : Nat × Nat} (h : w.heap[g]? = some (.cells #[.int .u64 a.1, .int .u64 a.2, .int .u64 b.1, .int .u64 b.2, .int .u64 c.1, .int .u64 c.2] t f)) : PtsAt w g 0 [a, b, c] := by
  intro i hi
  match i, hi with
  | 0, _ => exact ⟨by rw [cell_of_cells h]; rfl, by rw [cell_of_cells h]; rfl⟩
  | 1, _ => exact ⟨by rw [cell_of_cells h]; rfl, by rw [cell_of_cells h]; rfl⟩
  | 2, _ => exact ⟨by rw [cell_of_cells h]; rfl, by rw [cell_of_cells h]; rfl⟩
theorem pts2 {w : World} {g : Nat} {a b : Pt} {t : TypeId} {f : Nat × Nat} (h : w.heap[g]? = some (.cells #[.int .u64 a.1, .int .u64 a.2, .int .u64 b.1, .int .u64 b.2] t f)) : PtsAt w g 0 [a, b] := by
  intro i hi
  match i, hi with
  | 0, _ => exact ⟨by rw [cell_of_cells h]; rfl, by rw [cell_of_cells h]; rfl⟩
  | 1, _ => exact ⟨by rw [cell_of_cells h]; rfl, by rw [cell_of_cells h]; rfl⟩
structure Three (w : World) (g lo : Nat) (A B C D A2 B2 C2 D2 A3 B3 C3 D3 : Option Addr) (a b c : Pl) : Prop where
  s1 : Six w g 0 A B C D a
  s2 : Six w g 6 A2 B2 C2 D2 b
  s3 : Six w g 12 A3 B3 C3 D3 c
  p1 : PlIn lo w.heap.size w A B C D a
  p2 : PlIn lo w.heap.size w A2 B2 C2 D2 b
  p3 : PlIn lo w.heap.size w A3 B3 C3 D3 c
theorem Three.keep {w w' : World} {g lo : Nat} {A B C D A2 B2 C2 D2 A3 B3 C3 D3 : Option Addr} {a b c : Pl} (h : Three w g lo A B C D A2 B2 C2 D2 A3 B3 C3 D3 a b c) (k : Below w.heap.size w w') (hg : g < w.heap.size) : Three w' g lo A B C D A2 B2 C2 D2 A3 B3 C3 D3 a b c :=
  ⟨h.s1.keep k hg, h.s2.keep k hg, h.s3.keep k hg, (h.p1.keep (Keep.of k (Nat.le_refl _))).wide (Nat.le_refl _) k.size, (h.p2.keep (Keep.of k (Nat.le_refl _))).wide (Nat.le_refl _) k.size, (h.p3.keep (Keep.of k (Nat.le_refl _))).wide (Nat.le_refl _) k.size⟩
theorem places3 (a b c : Pt) (o : Nat) (w : World) (hp : PtsAt w o 0 [a, b, c]) (hb : o < w.heap.size) (fa : FinP a) (fb : FinP b) (fc : FinP c) :
    Calls Tryz.prog 98 #[.slice (some ⟨o, 0, none⟩) 3 3] w fun e w' => ∃ g A B C D A2 B2 C2 D2 A3 B3 C3 D3, g < w'.heap.size ∧ e = .returned (.tuple #[.slice (some ⟨g, 0, none⟩) 3 3, .bool true]) ∧
      Three w' g 0 A B C D A2 B2 C2 D2 A3 B3 C3 D3 (pl a) (pl b) (pl c) ∧ Below w.heap.size w w' := by
  refine (pPlaces o 0 [a, b, c] w hp hb (by simp) (by intro p h; simp at h; rcases h with rfl | rfl | rfl <;> assumption)).mono ?_
  rintro e w' ⟨g, h1, h2, rfl, h3, h4⟩
  obtain ⟨A, B, C, D, a1, a2, a3⟩ := h3 0 (by simp)
  obtain ⟨A2, B2, C2, D2, b1, b2, b3⟩ := h3 1 (by simp)
  obtain ⟨A3, B3, C3, D3, c1, c2, c3⟩ := h3 2 (by simp)
  exact ⟨g, A, B, C, D, A2, B2, C2, D2, A3, B3, C3, D3, h2, rfl, ⟨a1, b1, c1, ⟨a2.ins.wide (Nat.zero_le _) (Nat.le_refl _), a3.ins.wide (Nat.zero_le _) (Nat.le_refl _)⟩, ⟨b2.ins.wide (Nat.zero_le _) (Nat.le_refl _), b3.ins.wide (Nat.zero_le _) (Nat.le_refl _)⟩, ⟨c2.ins.wide (Nat.zero_le _) (Nat.le_refl _), c3.ins.wide (Nat.zero_le _) (Nat.le_refl _)⟩⟩, h4⟩
set_option maxRecDepth 100000 in
set_option maxHeartbeats 3200000 in
theorem pOrient (a b c : Pt) (w : World) (fa : FinP a) (fb : FinP b) (fc : FinP c) :
    Calls Tryz.prog 40 #[.agg #[.int .u64 a.1, .int .u64 a.2], .agg #[.int .u64 b.1, .int .u64 b.2], .agg #[.int .u64 c.1, .int .u64 c.2]] w fun e w' => e = .returned (.tuple #[.int .i64 (sideP a b c), .int .i64 0]) ∧ Below w.heap.size w w' := by
  have HF := Lib.hid (And.intro fa (And.intro fb fc))
  go_enter Tryz.func40, Tryz.ntmps40
  ((try dsimp only); repeat (first | go_values | go_skip | go_guarded | go_step | go_upon))
  obtain ⟨_, _, _, h4, h5, h6⟩ := four_new w (.cells #[.int .u64 a.1, .int .u64 a.2] 38) (.cells #[.int .u64 b.1, .int .u64 b.2] 38) (.cells #[.int .u64 c.1, .int .u64 c.2] 38) (.cells #[.int .u64 a.1, .int .u64 a.2, .int .u64 b.1, .int .u64 b.2, .int .u64 c.1, .int .u64 c.2] 38)
  generalize ((((w.alloc _).alloc _).alloc _).alloc _) = w4 at *
  refine (places3 a b c (w.heap.size + 1 + 1 + 1) w4 (pts3 h4) (by omega) fa fb fc).mono ?_
  rintro e w5 ⟨g, A, B, C, D, A2, B2, C2, D2, A3, B3, C3, D3, hg, rfl, h3, hb⟩
  have hB := h6.trans (hb.mono (by omega))
  have hs5 := hb.size
  have hgd : g < w5.drew.heap.size := hg
  have h3d := h3.keep (Below.refl _ _).drew hg
  have HA : Hid (∀ wz, Three wz g 0 A B C D A2 B2 C2 D2 A3 B3 C3 D3 (pl a) (pl b) (pl c) → Calls Tryz.prog 99 #[pv A B C D (pl a), pv A2 B2 C2 D2 (pl b), pv A3 B3 C3 D3 (pl c)] wz fun e w' => ∃ E F, e = .returned (qv E F (area2 (pl a) (pl b) (pl c))) ∧ RatIn wz.heap.size w'.heap.size w' E F (area2 (pl a) (pl b) (pl c)) ∧ Below wz.heap.size wz w') :=
    Lib.hid fun wz hz => pArea A B C D A2 B2 C2 D2 A3 B3 C3 D3 0 wz.heap.size 1075 _ _ _ wz hz.p1 hz.p2 hz.p3 (Nat.le_refl _) (pl_sz fa) (pl_sz fb) (pl_sz fc) (by omega)
  have hsz := area_sz (pl_sz fa) (pl_sz fb) (pl_sz fc)
  have HG : Hid (sideP a b c = qsgn (area2 (pl a) (pl b) (pl c))) := Lib.hid rfl
  have hq := hsz.lens (by omega)
  have H3 := Lib.hid (And.intro h3d (And.intro hB HG.out))
  clear h4 h6 hb h3 hB hsz h3d HG
  generalize area2 (pl a) (pl b) (pl c) = r at *
  ((try dsimp only); repeat (first | go_values | go_skip | go_guarded | go_step | go_upon))
  refine start_ (n := 13) (S := fun w' => Three w' g 0 A B C D A2 B2 C2 D2 A3 B3 C3 D3 (pl a) (pl b) (pl c) ∧ g < w'.heap.size) (ds := []) (bt 13 0) (by kernel_rfl) rfl rfl (⟨H3.out.1, hgd⟩) (fun hHeld => ?_)
  refine pv_ 0 20 ?_
  refine pv_ 1 21 ?_
  refine ld_ 2 22 ?_ hHeld ?_ ?_; rotate_left
  · rintro w' ⟨⟨⟨q0, q1, q2, q3, q4, q5⟩, ⟨r0, r1, r2, r3, r4, r5⟩, ⟨s0, s1, s2, s3, s4, s5⟩, _, _, _⟩, _⟩
    go_simp; with_reducible rfl
  refine pv_ 3 23 ?_
  refine pv_ 4 24 ?_
  refine ld_ 5 25 ?_ hHeld ?_ ?_; rotate_left
  · rintro w' ⟨⟨⟨q0, q1, q2, q3, q4, q5⟩, ⟨r0, r1, r2, r3, r4, r5⟩, ⟨s0, s1, s2, s3, s4, s5⟩, _, _, _⟩, _⟩
    go_simp; with_reducible rfl
  refine pv_ 6 26 ?_
  refine pv_ 7 27 ?_
  refine ld_ 8 28 ?_ hHeld ?_ ?_; rotate_left
  · rintro w' ⟨⟨⟨q0, q1, q2, q3, q4, q5⟩, ⟨r0, r1, r2, r3, r4, r5⟩, ⟨s0, s1, s2, s3, s4, s5⟩, _, _, _⟩, _⟩
    go_simp; with_reducible rfl
  refine ca 9 29 Tryz.func99 rfl rfl (by kernel_rfl) (by decide) (by kernel_rfl) rfl #[pv A B C D (pl a), pv A2 B2 C2 D2 (pl b), pv A3 B3 C3 D3 (pl c)] (by rfl) rfl (by first | rfl | (simp [Act.eval]; done) | (simp [Act.eval, pv]; done) | (simp [Act.eval, qv]; done) | (go_simp; rfl)) ?_
  with_reducible refine (HA.out _ hHeld.1).mono ?_
  rintro e w' ⟨E, F, rfl, hf1, hb1⟩
  refine ⟨_, rfl, (by first | (exact ⟨hHeld.1.keep hb2 hHeld.2, Nat.lt_of_lt_of_le hHeld.2 hb2.size⟩) | (exact ⟨hHeld.1.keep hb1 hHeld.2, Nat.lt_of_lt_of_le hHeld.2 hb1.size⟩)), fun hHeld => ?_⟩
  refine nn ?_
  refine ca 10 30 Tryz.func44 rfl rfl (by kernel_rfl) (by decide) (by kernel_rfl) rfl #[qv E F r] (by rfl) rfl (by first | rfl | (simp [Act.eval]; done) | (simp [Act.eval, pv]; done) | (simp [Act.eval, qv]; done) | (go_simp; rfl)) ?_
  with_reducible refine (rSignQ E F _ _ r _ hf1 (Nat.le_refl _) hq.1).mono ?_
  rintro e w' ⟨rfl, hb2⟩
  refine ⟨_, rfl, (by first | (exact ⟨hHeld.1.keep hb2 hHeld.2, Nat.lt_of_lt_of_le hHeld.2 hb2.size⟩) | (exact ⟨hHeld.1.keep hb1 hHeld.2, Nat.lt_of_lt_of_le hHeld.2 hb1.size⟩)), fun hHeld => ?_⟩
  refine nn ?_
  refine pv_ 11 6 ?_
  refine pv_ 12 7 ?_
  refine done_ (by kernel_rfl) ?_
  have hBf := (H3.out.2.1.drew.trans (hb1.mono (show w.heap.size ≤ w5.heap.size by omega))).trans (hb2.mono (Nat.le_trans (show w.heap.size ≤ w5.heap.size by omega) hb1.size))
  have HB := Lib.hid hBf
  clear hBf hb1 hb2
  ((try dsimp only); repeat (first | go_values | go_skip | go_guarded | go_step | go_upon))
  go_ret2
  exact ⟨by rw [H3.out.2.2]; rfl, HB.out⟩
structure Two (w : World) (g lo : Nat) (A B C D A2 B2 C2 D2 : Option Addr) (a b : Pl) : Prop where
  s1 : Six w g 0 A B C D a
  s2 : Six w g 6 A2 B2 C2 D2 b
  p1 : PlIn lo w.heap.size w A B C D a
  p2 : PlIn lo w.heap.size w A2 B2 C2 D2 b
theorem Two.keep {w w' : World} {g lo : Nat} {A B C D A2 B2 C2 D2 : Option Addr} {a b : Pl} (h : Two w g lo A B C D A2 B2 C2 D2 a b) (k : Below w.heap.size w w') (hg : g < w.heap.size) : Two w' g lo A B C D A2 B2 C2 D2 a b :=
  ⟨h.s1.keep k hg, h.s2.keep k hg, (h.p1.keep (Keep.of k (Nat.le_refl _))).wide (Nat.le_refl _) k.size, (h.p2.keep (Keep.of k (Nat.le_refl _))).wide (Nat.le_refl _) k.size⟩
theorem places2 (a b : Pt) (o : Nat) (w : World) (hp : PtsAt w o 0 [a, b]) (hb : o < w.heap.size) (fa : FinP a) (fb : FinP b) :
    Calls Tryz.prog 98 #[.slice (some ⟨o, 0, none⟩) 2 2] w fun e w' => ∃ g A B C D A2 B2 C2 D2, g < w'.heap.size ∧ e = .returned (.tuple #[.slice (some ⟨g, 0, none⟩) 2 2, .bool true]) ∧
      Two w' g 0 A B C D A2 B2 C2 D2 (pl a) (pl b) ∧ Below w.heap.size w w' := by
  refine (pPlaces o 0 [a, b] w hp hb (by simp) (by intro p h; simp at h; rcases h with rfl | rfl <;> assumption)).mono ?_
  rintro e w' ⟨g, h1, h2, rfl, h3, h4⟩
  obtain ⟨A, B, C, D, a1, a2, a3⟩ := h3 0 (by simp)
  obtain ⟨A2, B2, C2, D2, b1, b2, b3⟩ := h3 1 (by simp)
  exact ⟨g, A, B, C, D, A2, B2, C2, D2, h2, rfl, ⟨a1, b1, ⟨a2.ins.wide (Nat.zero_le _) (Nat.le_refl _), a3.ins.wide (Nat.zero_le _) (Nat.le_refl _)⟩, ⟨b2.ins.wide (Nat.zero_le _) (Nat.le_refl _), b3.ins.wide (Nat.zero_le _) (Nat.le_refl _)⟩⟩, h4⟩
def pcmpP (a b : Pt) : Int := pcmp (pl a) (pl b)
set_option maxRecDepth 100000 in
set_option maxHeartbeats 3200000 in
theorem pOrderP (a b : Pt) (w : World) (fa : FinP a) (fb : FinP b) :
    Calls Tryz.prog 78 #[.agg #[.int .u64 a.1, .int .u64 a.2], .agg #[.int .u64 b.1, .int .u64 b.2]] w fun e w' => e = .returned (.tuple #[.int .i64 (pcmpP a b), .int .i64 0]) ∧ Below w.heap.size w w' := by
  go_enter Tryz.func78, Tryz.ntmps78
  ((try dsimp only); repeat (first | go_values | go_skip | go_guarded | go_step | go_upon))
  obtain ⟨_, _, h4, h5, h6⟩ := three_new w (.cells #[.int .u64 a.1, .int .u64 a.2] 38) (.cells #[.int .u64 b.1, .int .u64 b.2] 38) (.cells #[.int .u64 a.1, .int .u64 a.2, .int .u64 b.1, .int .u64 b.2] 38)
  generalize (((w.alloc _).alloc _).alloc _) = w4 at *
  refine (places2 a b (w.heap.size + 1 + 1) w4 (pts2 h4) (by omega) fa fb).mono ?_
  rintro e w5 ⟨g, A, B, C, D, A2, B2, C2, D2, hg, rfl, h3, hb⟩
  have hB := h6.trans (hb.mono (by omega))
  have hs5 := hb.size
  have hgd : g < w5.drew.heap.size := hg
  have h3d := h3.keep (Below.refl _ _).drew hg
  have HA : Hid (∀ wz, Two wz g 0 A B C D A2 B2 C2 D2 (pl a) (pl b) → Calls Tryz.prog 139 #[pv A B C D (pl a), pv A2 B2 C2 D2 (pl b)] wz fun e w' => e = .returned (.int .i64 (pcmpP a b)) ∧ Below wz.heap.size wz w') :=
    Lib.hid fun wz hz => pOrder A B C D A2 B2 C2 D2 0 wz.heap.size 1075 1075 _ _ wz hz.p1 hz.p2 (Nat.le_refl _) (pl_sz fa) (pl_sz fb) (by omega)
  have H3 := Lib.hid (And.intro h3d hB)
  clear h4 h6 hb h3 hB h3d
  ((try dsimp only); repeat (first | go_values | go_skip | go_guarded | go_step | go_upon))
  refine start_ (n := 9) (S := fun w' => Two w' g 0 A B C D A2 B2 C2 D2 (pl a) (pl b) ∧ g < w'.heap.size) (ds := []) (bt 9 0) (by kernel_rfl) rfl rfl (⟨H3.out.1, hgd⟩) (fun hHeld => ?_)
  refine pv_ 0 17 ?_
  refine pv_ 1 18 ?_
  refine ld_ 2 19 ?_ hHeld ?_ ?_; rotate_left
  · rintro w' ⟨⟨⟨q0, q1, q2, q3, q4, q5⟩, ⟨r0, r1, r2, r3, r4, r5⟩, _, _⟩, _⟩
    go_simp; with_reducible rfl
  refine pv_ 3 20 ?_
  refine pv_ 4 21 ?_
  refine ld_ 5 22 ?_ hHeld ?_ ?_; rotate_left
  · rintro w' ⟨⟨⟨q0, q1, q2, q3, q4, q5⟩, ⟨r0, r1, r2, r3, r4, r5⟩, _, _⟩, _⟩
    go_simp; with_reducible rfl
  refine ca 6 23 Tryz.func139 rfl rfl (by kernel_rfl) (by decide) (by kernel_rfl) rfl #[pv A B C D (pl a), pv A2 B2 C2 D2 (pl b)] (by rfl) rfl (by first | rfl | (simp [Act.eval]; done) | (simp [Act.eval, pv]; done) | (go_simp; rfl)) ?_
  with_reducible refine (HA.out _ hHeld.1).mono ?_
  rintro e w' ⟨rfl, hb1⟩
  refine ⟨_, rfl, (by exact ⟨hHeld.1.keep hb1 hHeld.2, Nat.lt_of_lt_of_le hHeld.2 hb1.size⟩), fun hHeld => ?_⟩
  refine nn ?_
  refine pv_ 7 4 ?_
  refine pv_ 8 5 ?_
  refine done_ (by kernel_rfl) ?_
  have hBf := H3.out.2.drew.trans (hb1.mono (show w.heap.size ≤ w5.heap.size by omega))
  have HB := Lib.hid hBf
  clear hBf hb1
  ((try dsimp only); repeat (first | go_values | go_skip | go_guarded | go_step | go_upon))
  go_ret2
  exact ⟨rfl, HB.out⟩
set_option maxRecDepth 100000 in
set_option maxHeartbeats 3200000 in
theorem pBetween (a b c : Pt) (w : World) (fa : FinP a) (fb : FinP b) (fc : FinP c) :
    Calls Tryz.prog 80 #[.agg #[.int .u64 a.1, .int .u64 a.2], .agg #[.int .u64 b.1, .int .u64 b.2], .agg #[.int .u64 c.1, .int .u64 c.2]] w fun e w' => e = .returned (.tuple #[.bool (btwP a b c), .int .i64 0]) ∧ Below w.heap.size w w' := by
  go_enter Tryz.func80, Tryz.ntmps80
  ((try dsimp only); repeat (first | go_values | go_skip | go_guarded | go_step | go_upon))
  obtain ⟨_, _, _, h4, h5, h6⟩ := four_new w (.cells #[.int .u64 a.1, .int .u64 a.2] 38) (.cells #[.int .u64 b.1, .int .u64 b.2] 38) (.cells #[.int .u64 c.1, .int .u64 c.2] 38) (.cells #[.int .u64 a.1, .int .u64 a.2, .int .u64 b.1, .int .u64 b.2, .int .u64 c.1, .int .u64 c.2] 38)
  generalize ((((w.alloc _).alloc _).alloc _).alloc _) = w4 at *
  refine (places3 a b c (w.heap.size + 1 + 1 + 1) w4 (pts3 h4) (by omega) fa fb fc).mono ?_
  rintro e w5 ⟨g, A, B, C, D, A2, B2, C2, D2, A3, B3, C3, D3, hg, rfl, h3, hb⟩
  have hB := h6.trans (hb.mono (by omega))
  have hs5 := hb.size
  have hgd : g < w5.drew.heap.size := hg
  have h3d := h3.keep (Below.refl _ _).drew hg
  have HA : Hid (∀ wz, Three wz g 0 A B C D A2 B2 C2 D2 A3 B3 C3 D3 (pl a) (pl b) (pl c) →
    (Calls Tryz.prog 99 #[pv A B C D (pl a), pv A2 B2 C2 D2 (pl b), pv A3 B3 C3 D3 (pl c)] wz fun e w' => ∃ E F, e = .returned (qv E F (area2 (pl a) (pl b) (pl c))) ∧ RatIn wz.heap.size w'.heap.size w' E F (area2 (pl a) (pl b) (pl c)) ∧ Below wz.heap.size wz w') ∧
    (Calls Tryz.prog 139 #[pv A B C D (pl a), pv A3 B3 C3 D3 (pl c)] wz fun e w' => e = .returned (.int .i64 (pcmp (pl a) (pl c))) ∧ Below wz.heap.size wz w') ∧
    (Calls Tryz.prog 139 #[pv A3 B3 C3 D3 (pl c), pv A2 B2 C2 D2 (pl b)] wz fun e w' => e = .returned (.int .i64 (pcmp (pl c) (pl b))) ∧ Below wz.heap.size wz w')) :=
    Lib.hid fun wz hz => ⟨pArea A B C D A2 B2 C2 D2 A3 B3 C3 D3 0 wz.heap.size 1075 _ _ _ wz hz.p1 hz.p2 hz.p3 (Nat.le_refl _) (pl_sz fa) (pl_sz fb) (pl_sz fc) (by omega),
      pOrder A B C D A3 B3 C3 D3 0 wz.heap.size 1075 1075 _ _ wz hz.p1 hz.p3 (Nat.le_refl _) (pl_sz fa) (pl_sz fc) (by omega),
      pOrder A3 B3 C3 D3 A2 B2 C2 D2 0 wz.heap.size 1075 1075 _ _ wz hz.p3 hz.p2 (Nat.le_refl _) (pl_sz fc) (pl_sz fb) (by omega)⟩
  have hsz := area_sz (pl_sz fa) (pl_sz fb) (pl_sz fc)
  have HG : Hid (btwP a b c = (decide (qsgn (area2 (pl a) (pl b) (pl c)) = 0) && (decide (pcmp (pl a) (pl c) ≤ 0) && decide (pcmp (pl c) (pl b) ≤ 0) || decide (0 ≤ pcmp (pl a) (pl c)) && decide (0 ≤ pcmp (pl c) (pl b))))) := Lib.hid rfl
  have hq := hsz.lens (by omega)
  have c1 := pcmp_cases (pl a) (pl c)
  have c2 := pcmp_cases (pl c) (pl b)
  generalize pcmp (pl a) (pl c) = m at *
  generalize pcmp (pl c) (pl b) = n at *
  have H3 := Lib.hid (And.intro h3d (And.intro hB (And.intro c1 c2)))
  clear h4 h6 hb h3 hB hsz h3d c1 c2
  generalize area2 (pl a) (pl b) (pl c) = r at *
  ((try dsimp only); repeat (first | go_values | go_skip | go_guarded | go_step | go_upon))
  refine start_ (n := 12) (S := fun w' => Three w' g 0 A B C D A2 B2 C2 D2 A3 B3 C3 D3 (pl a) (pl b) (pl c) ∧ g < w'.heap.size) (ds := []) (bt 12 0) (by kernel_rfl) rfl rfl (⟨H3.out.1, hgd⟩) (fun hHeld => ?_)
  refine pv_ 0 22 ?_
  refine pv_ 1 23 ?_
  refine ld_ 2 24 ?_ hHeld ?_ ?_; rotate_left
  · rintro w' ⟨⟨⟨q0, q1, q2, q3, q4, q5⟩, ⟨r0, r1, r2, r3, r4, r5⟩, ⟨s0, s1, s2, s3, s4, s5⟩, _, _, _⟩, _⟩
    go_simp; with_reducible rfl
  refine pv_ 3 25 ?_
  refine pv_ 4 26 ?_
  refine ld_ 5 27 ?_ hHeld ?_ ?_; rotate_left
  · rintro w' ⟨⟨⟨q0, q1, q2, q3, q4, q5⟩, ⟨r0, r1, r2, r3, r4, r5⟩, ⟨s0, s1, s2, s3, s4, s5⟩, _, _, _⟩, _⟩
    go_simp; with_reducible rfl
  refine pv_ 6 28 ?_
  refine pv_ 7 29 ?_
  refine ld_ 8 30 ?_ hHeld ?_ ?_; rotate_left
  · rintro w' ⟨⟨⟨q0, q1, q2, q3, q4, q5⟩, ⟨r0, r1, r2, r3, r4, r5⟩, ⟨s0, s1, s2, s3, s4, s5⟩, _, _, _⟩, _⟩
    go_simp; with_reducible rfl
  refine ca 9 31 Tryz.func99 rfl rfl (by kernel_rfl) (by decide) (by kernel_rfl) rfl #[pv A B C D (pl a), pv A2 B2 C2 D2 (pl b), pv A3 B3 C3 D3 (pl c)] (by rfl) rfl (by first | rfl | (simp [Act.eval]; done) | (simp [Act.eval, pv]; done) | (simp [Act.eval, qv]; done) | (go_simp; rfl)) ?_
  with_reducible refine ((HA.out _ hHeld.1).1).mono ?_
  rintro e w' ⟨E, F, rfl, hf1, hb1⟩
  refine ⟨_, rfl, (by first | (exact ⟨hHeld.1.keep hb2 hHeld.2, Nat.lt_of_lt_of_le hHeld.2 hb2.size⟩) | (exact ⟨hHeld.1.keep hb1 hHeld.2, Nat.lt_of_lt_of_le hHeld.2 hb1.size⟩)), fun hHeld => ?_⟩
  refine nn ?_
  refine ca 10 32 Tryz.func44 rfl rfl (by kernel_rfl) (by decide) (by kernel_rfl) rfl #[qv E F r] (by rfl) rfl (by first | rfl | (simp [Act.eval]; done) | (simp [Act.eval, pv]; done) | (simp [Act.eval, qv]; done) | (go_simp; rfl)) ?_
  with_reducible refine (rSignQ E F _ _ r _ hf1 (Nat.le_refl _) hq.1).mono ?_
  rintro e w' ⟨rfl, hb2⟩
  refine ⟨_, rfl, (by first | (exact ⟨hHeld.1.keep hb2 hHeld.2, Nat.lt_of_lt_of_le hHeld.2 hb2.size⟩) | (exact ⟨hHeld.1.keep hb1 hHeld.2, Nat.lt_of_lt_of_le hHeld.2 hb1.size⟩)), fun hHeld => ?_⟩
  refine nn ?_
  refine pv_ 11 33 ?_
  refine done_ (by kernel_rfl) ?_
  have hBf := (H3.out.2.1.drew.trans (hb1.mono (show w.heap.size ≤ w5.heap.size by omega))).trans (hb2.mono (Nat.le_trans (show w.heap.size ≤ w5.heap.size by omega) hb1.size))
  have h3f := (H3.out.1.keep hb1 hgd).keep hb2 (Nat.lt_of_lt_of_le hgd hb1.size)
  have hgf := Nat.lt_of_lt_of_le (Nat.lt_of_lt_of_le hgd hb1.size) hb2.size
  have hwf := Nat.le_trans (show w.heap.size ≤ w5.drew.heap.size by show _ ≤ w5.heap.size; omega) (Nat.le_trans hb1.size hb2.size)
  have H4 := Lib.hid (And.intro h3f (And.intro hBf H3.out.2.2))
  clear hBf hb1 hb2 h3f H3 hf1 hgd hHeld
  generalize w' = wf at *
  by_cases hz : qsgn r = 0
  · rw [decide_eq_true hz, Bool.true_and] at HG
    have hzb : (qsgn r == 0) = true := beq_iff_eq.2 hz
    clear hz
    generalize qsgn r = z at *
    ((try dsimp only); repeat (first | go_values | go_skip | go_guarded | go_step | go_upon))
    have hgd : g < wf.drew.heap.size := hgf
    have h3d := H4.out.1.keep (Below.refl _ _).drew hgf
    refine start_ (n := 16) (S := fun w' => Three w' g 0 A B C D A2 B2 C2 D2 A3 B3 C3 D3 (pl a) (pl b) (pl c) ∧ g < w'.heap.size) (ds := []) (bt 16 0) (by kernel_rfl) rfl rfl (⟨h3d, hgd⟩) (fun hHeld => ?_)
    refine pv_ 0 34 ?_
    refine pv_ 1 35 ?_
    refine ld_ 2 36 ?_ hHeld ?_ ?_; rotate_left
    · rintro w' ⟨⟨⟨q0, q1, q2, q3, q4, q5⟩, ⟨r0, r1, r2, r3, r4, r5⟩, ⟨s0, s1, s2, s3, s4, s5⟩, _, _, _⟩, _⟩
      go_simp; with_reducible rfl
    refine pv_ 3 37 ?_
    refine pv_ 4 38 ?_
    refine ld_ 5 39 ?_ hHeld ?_ ?_; rotate_left
    · rintro w' ⟨⟨⟨q0, q1, q2, q3, q4, q5⟩, ⟨r0, r1, r2, r3, r4, r5⟩, ⟨s0, s1, s2, s3, s4, s5⟩, _, _, _⟩, _⟩
      go_simp; with_reducible rfl
    refine pv_ 7 41 ?_
    refine pv_ 8 42 ?_
    refine ld_ 9 43 ?_ hHeld ?_ ?_; rotate_left
    · rintro w' ⟨⟨⟨q0, q1, q2, q3, q4, q5⟩, ⟨r0, r1, r2, r3, r4, r5⟩, ⟨s0, s1, s2, s3, s4, s5⟩, _, _, _⟩, _⟩
      go_simp; with_reducible rfl
    refine pv_ 10 44 ?_
    refine pv_ 11 45 ?_
    refine ld_ 12 46 ?_ hHeld ?_ ?_; rotate_left
    · rintro w' ⟨⟨⟨q0, q1, q2, q3, q4, q5⟩, ⟨r0, r1, r2, r3, r4, r5⟩, ⟨s0, s1, s2, s3, s4, s5⟩, _, _, _⟩, _⟩
      go_simp; with_reducible rfl
    refine ca 6 40 Tryz.func139 rfl rfl (by kernel_rfl) (by decide) (by kernel_rfl) rfl #[pv A B C D (pl a), pv A3 B3 C3 D3 (pl c)] (by rfl) rfl (by first | rfl | (simp [Act.eval]; done) | (simp [Act.eval, pv]; done) | (go_simp; rfl)) ?_
    with_reducible refine ((HA.out _ hHeld.1).2.1).mono ?_
    rintro e w' ⟨rfl, hb1⟩
    refine ⟨_, rfl, (by first | (exact ⟨hHeld.1.keep hb2 hHeld.2, Nat.lt_of_lt_of_le hHeld.2 hb2.size⟩) | (exact ⟨hHeld.1.keep hb1 hHeld.2, Nat.lt_of_lt_of_le hHeld.2 hb1.size⟩)), fun hHeld => ?_⟩
    refine nn ?_
    refine ca 13 47 Tryz.func139 rfl rfl (by kernel_rfl) (by decide) (by kernel_rfl) rfl #[pv A3 B3 C3 D3 (pl c), pv A2 B2 C2 D2 (pl b)] (by rfl) rfl (by first | rfl | (simp [Act.eval]; done) | (simp [Act.eval, pv]; done) | (go_simp; rfl)) ?_
    with_reducible refine ((HA.out _ hHeld.1).2.2).mono ?_
    rintro e w' ⟨rfl, hb2⟩
    refine ⟨_, rfl, (by first | (exact ⟨hHeld.1.keep hb2 hHeld.2, Nat.lt_of_lt_of_le hHeld.2 hb2.size⟩) | (exact ⟨hHeld.1.keep hb1 hHeld.2, Nat.lt_of_lt_of_le hHeld.2 hb1.size⟩)), fun hHeld => ?_⟩
    refine nn ?_
    refine pv_ 14 10 ?_
    refine pv_ 15 11 ?_
    refine done_ (by kernel_rfl) ?_
    have hBf := (H4.out.2.1.drew.trans (hb1.mono hwf)).trans (hb2.mono (Nat.le_trans hwf hb1.size))
    have HB := Lib.hid hBf
    obtain ⟨_, _, c1, c2⟩ := H4.out
    clear hBf hb1 hb2 h3d H4 hHeld HA
    rcases c1 with rfl | rfl | rfl <;> rcases c2 with rfl | rfl | rfl
    all_goals
      ((try dsimp only); repeat (first | go_values | go_skip | go_guarded | go_step | go_upon))
      go_ret2
      exact ⟨by rw [HG.out]; rfl, HB.out⟩
  · rw [decide_eq_false hz, Bool.false_and] at HG
    have hzb : (qsgn r == 0) = false := beq_eq_false_iff_ne.2 hz
    clear hz
    generalize qsgn r = z at *
    ((try dsimp only); repeat (first | go_values | go_skip | go_guarded | go_step | go_upon))
    go_ret2
    exact ⟨by rw [HG.out]; rfl, H4.out.2.1⟩
end Go.Proofs.YtfpofmifmapmfaaGreatDoor
