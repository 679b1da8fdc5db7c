/- Package rat: the body of Add. -/
import Derived.Test.YtfpofmifmapmfaaGreatDoorKB
import Derived.Recover
import Derived.Test.YtfpofmifmapmfaaGreatDoorKA
namespace Go.Proofs.YtfpofmifmapmfaaGreatDoor
open Go.RowKit Go.Proofs.YtfpofmifmapmfaaGreatDoorW.PrintLast
set_option linter.unusedVariables false
set_option linter.unusedSimpArgs false
def qn (q : Rat) : List Int := limbs (q.num.natAbs : Nat)
def qd (q : Rat) : List Int := limbs (q.den : Nat)
def qv (A B : Option Addr) (q : Rat) : Value := .agg #[.bool (decide (q.num < 0)), .slice A (qn q).length (qn q).length, .slice B (qd q).length (qd q).length]
structure RatIn (lo up : Nat) (w : World) (A B : Option Addr) (q : Rat) : Prop where
  n : WordsIn lo up w A (qn q)
  d : WordsIn lo up w B (qd q)
structure RatFresh (lo : Nat) (w : World) (A B : Option Addr) (q : Rat) : Prop where
  n : FreshAt lo w A (qn q).length (qn q)
  d : FreshAt lo w B (qd q).length (qd q)
theorem RatIn.keep {lo up : Nat} {w w' : World} {A B : Option Addr} {q : Rat} (h : RatIn lo up w A B q) (k : Keep lo up w w') : RatIn lo up w' A B q := ⟨h.n.keep k, h.d.keep k⟩
theorem RatIn.wide {lo up lo' up' : Nat} {w : World} {A B : Option Addr} {q : Rat} (h : RatIn lo up w A B q) (h1 : lo' ≤ lo) (h2 : up ≤ up') : RatIn lo' up' w A B q := ⟨h.n.wide h1 h2, h.d.wide h1 h2⟩
theorem RatFresh.keep {lo up : Nat} {w w' : World} {A B : Option Addr} {q : Rat} (h : RatFresh lo w A B q) (k : Keep lo up w w') (hh : w.heap.size ≤ up) : RatFresh lo w' A B q := ⟨h.n.keep k hh, h.d.keep k hh⟩
theorem RatFresh.wide {lo lo' : Nat} {w : World} {A B : Option Addr} {q : Rat} (h : RatFresh lo w A B q) (hl : lo' ≤ lo) : RatFresh lo' w A B q := ⟨h.n.wide hl, h.d.wide hl⟩
theorem RatFresh.ins {lo : Nat} {w : World} {A B : Option Addr} {q : Rat} (h : RatFresh lo w A B q) : RatIn lo w.heap.size w A B q := ⟨h.n.words, h.d.words⟩
def quo (neg : Bool) (x y : Int) : Rat := mkRat (if neg then -x else x) y.toNat
theorem quo_parts (neg : Bool) {x y : Int} (hx : 0 ≤ x) (hy : 0 < y) :
    (((quo neg x y).num.natAbs : Nat) : Int) = x / (Int.gcd x y : Nat) ∧ (((quo neg x y).den : Nat) : Int) = y / (Int.gcd x y : Nat) ∧ decide ((quo neg x y).num < 0) = (neg && decide (0 < (limbs (x / (Int.gcd x y : Nat))).length)) := by
  obtain ⟨m, rfl⟩ := Int.eq_ofNat_of_zero_le hx
  obtain ⟨n, rfl⟩ := Int.eq_ofNat_of_zero_le (Int.le_of_lt hy)
  have hn : n ≠ 0 := by omega
  have hg : 0 < Nat.gcd m n := Nat.gcd_pos_of_pos_right _ (by omega)
  have e1 : quo neg (m : Int) (n : Int) = Rat.normalize (if neg then -(m : Int) else (m : Int)) n hn := by
    unfold quo
    rw [Int.toNat_natCast, Rat.normalize_eq_mkRat]
  have e2 : (if neg then -(m : Int) else (m : Int)).natAbs = m := by cases neg <;> simp
  have hgi : Int.gcd (m : Int) (n : Int) = Nat.gcd m n := Int.gcd_natCast_natCast ..
  have hq0 : (0 : Int) ≤ (m : Int) / (Nat.gcd m n : Nat) := Int.ediv_nonneg (by omega) (by omega)
  have hdv : ((Nat.gcd m n : Nat) : Int) ∣ (m : Int) := Int.natCast_dvd_natCast.2 (Nat.gcd_dvd_left m n)
  show _ = (m : Int) / (Int.gcd (m : Int) (n : Int) : Nat) ∧ _ = (n : Int) / (Int.gcd (m : Int) (n : Int) : Nat) ∧ decide ((quo neg (m : Int) (n : Int)).num < 0) = (neg && decide (0 < (limbs ((m : Int) / (Int.gcd (m : Int) (n : Int) : Nat))).length))
  rw [hgi, e1, Rat.normalize_eq]
  simp only [e2]
  have hneg : -(m : Int) / ((Nat.gcd m n : Nat) : Int) = -((m : Int) / ((Nat.gcd m n : Nat) : Int)) := Int.neg_ediv_of_dvd hdv
  have hl := limbs_len_zero hq0
  refine ⟨?_, ?_, ?_⟩
  · cases neg
    · simp only [Bool.false_eq_true, if_false]; omega
    · simp only [if_true, hneg]; omega
  · exact Int.natCast_ediv ..
  · cases neg
    · simp only [Bool.false_eq_true, if_false, Bool.false_and]; exact decide_eq_false (by omega)
    · simp only [if_true, hneg, Bool.true_and]
      exact decide_eq_decide.2 (by omega)
theorem heap_set_cell {w : World} {g : Nat} {C : Array Value} {t : TypeId} {f : Nat × Nat} (h : w.heap[g]? = some (.cells C t f)) (k : Nat) (v : Value) : (w.setCell ⟨g, k, none⟩ v).heap[g]? = some (.cells (C.setIfInBounds k v) t f) := by
  unfold World.setCell
  simp only [Array.getElem?_modify, if_pos, h, Option.map_some]
  simp
theorem heap_set_three {w : World} {g : Nat} {a b c : Value} {t : TypeId} {f : Nat × Nat} (h : w.heap[g]? = some (.cells #[a, b, c] t f)) (x y z : Value) :
    (((w.setCell ⟨g, 0, none⟩ x).setCell ⟨g, 1, none⟩ y).setCell ⟨g, 2, none⟩ z).heap[g]? = some (.cells #[x, y, z] t f) :=
  heap_set_cell (heap_set_cell (heap_set_cell h 0 x) 1 y) 2 z
set_option maxHeartbeats 800000 in
theorem rFits (A : Option Addr) (l c : Nat) (w : World) : Calls Tryz.prog 94 #[.slice A l c, .int .i64 0] w fun e w' => e = .returned (.slice A l c) ∧ w' = w := by
  go_enter Tryz.func94, Tryz.ntmps94
  go_wp2
  go_ret
  exact ⟨rfl, rfl⟩
set_option maxRecDepth 100000 in
set_option maxHeartbeats 1600000 in
theorem rLowest (neg : Bool) (A B : Option Addr) (c d lo up : Nat) (xs ys : List Int) (w : World) (hx : Ws xs) (hA : WordsIn lo up w A xs) (hy : Ws ys) (hB : WordsIn lo up w B ys) (hu : up ≤ w.heap.size)
    (hy0 : 0 < val ys) (hxl : xs.length ≤ 17592186040000) (hyl : ys.length ≤ 17592186040000) :
    Calls Tryz.prog 93 #[.bool neg, .slice A xs.length c, .slice B ys.length d] w fun e w' => ∃ A1 B1, e = .returned (qv A1 B1 (quo neg (val xs) (val ys))) ∧ RatFresh w.heap.size w' A1 B1 (quo neg (val xs) (val ys)) ∧ Below w.heap.size w w' := by
  obtain ⟨p1, p2, p3⟩ := quo_parts neg (val_nonneg hx) hy0
  have en : qn (quo neg (val xs) (val ys)) = limbs (val xs / (Int.gcd (val xs) (val ys) : Nat)) := by unfold qn; rw [p1]
  have ed : qd (quo neg (val xs) (val ys)) = limbs (val ys / (Int.gcd (val xs) (val ys) : Nat)) := by unfold qd; rw [p2]
  have H := Lib.hid (And.intro p3 (And.intro en ed))
  clear p1 p2 p3 en ed
  go_enter Tryz.func93, Tryz.ntmps93
  go_wp2_with (fail)
  refine (qLowest A B c d lo up xs ys _ hx (hA.keep ((Keep.refl _ _ _).alloc hu _)) hy (hB.keep ((Keep.refl _ _ _).alloc hu _)) (by rw [World.size_alloc]; omega) hy0 hxl hyl).mono ?_
  rintro e w1 ⟨A1, A2, rfl, hf1, hf2, hb1⟩
  rw [World.size_alloc] at hf1 hf2 hb1
  have hr1 : w1.heap[w.heap.size]? = some (.cells #[.bool false, .slice none 0 0, .slice none 0 0] 26 (0, 0)) := by
    rw [hb1.block _ (by omega), alloc_heap_at, if_pos rfl]
  have hfr : ∀ o, w1.frozen? ⟨w.heap.size, o, none⟩ = false := fun o => free_of_cells hr1 o
  have hbw : Below w.heap.size w w1 := ((Below.refl _ _).alloc (Nat.le_refl _) _).trans (hb1.mono (by omega))
  have hfr0 := hfr 0
  have hfr1 := hfr 1
  have hfr2 := hfr 2
  have hc0 : w1.cell? ⟨w.heap.size, 0, none⟩ = some (.bool false) := by rw [cell_of_cells hr1]; rfl
  have hc1 : w1.cell? ⟨w.heap.size, 1, none⟩ = some (.slice none 0 0) := by rw [cell_of_cells hr1]; rfl
  have hc2 : w1.cell? ⟨w.heap.size, 2, none⟩ = some (.slice none 0 0) := by rw [cell_of_cells hr1]; rfl
  generalize hN : val xs / ((Int.gcd (val xs) (val ys) : Nat) : Int) = N at *
  generalize hD : val ys / ((Int.gcd (val xs) (val ys) : Nat) : Int) = D at *
  have HR := Lib.hid hr1
  clear hfr hr1 hN hD
  go_wp2_with (fail)
  all_goals
    refine bodyPost_ret (results_cell_row rfl _ _ w.heap.size _ _ _ _ rfl (heap_set_three HR.out _ _ _) rfl rfl rfl) rfl ?_
    have hK : ∀ x y z : Value, Keep (w.heap.size + 1) w1.heap.size w1 (((w1.setCell ⟨w.heap.size, 0, none⟩ x).setCell ⟨w.heap.size, 1, none⟩ y).setCell ⟨w.heap.size, 2, none⟩ z) := fun x y z => (((Keep.refl (w.heap.size + 1) w1.heap.size w1).setCell (Or.inl (Nat.lt_succ_self _)) _).setCell (Or.inl (Nat.lt_succ_self _)) _).setCell (Or.inl (Nat.lt_succ_self _)) _
    refine ⟨A1, A2, ?_, ⟨?_, ?_⟩, ((hbw.setCell (Nat.le_refl _) _).setCell (Nat.le_refl _) _).setCell (Nat.le_refl _) _⟩
    · obtain ⟨p3, en, ed⟩ := H.out
      unfold qv
      rw [p3, en, ed]
      simp [*]
    · rw [H.out.2.1]
      exact (hf1.keep (hK _ _ _) (Nat.le_refl _)).wide (Nat.le_succ _)
    · rw [H.out.2.2]
      exact (hf2.keep (hK _ _ _) (Nat.le_refl _)).wide (Nat.le_succ _)
end Go.Proofs.YtfpofmifmapmfaaGreatDoor

namespace Go.Proofs.YtfpofmifmapmfaaGreatDoor
open Go.RowKit Go.Proofs.YtfpofmifmapmfaaGreatDoorW.PrintLast
set_option linter.unusedVariables false
set_option linter.unusedSimpArgs false
set_option maxRecDepth 100000 in
set_option maxHeartbeats 1600000 in
theorem rNormal (A : Option Addr) (c lo up : Nat) (n : Int) (w : World) (hA : WordsIn lo up w A (limbs n)) (hn : 0 ≤ n) (hl : (limbs n).length ≤ 4096) :
    Calls Tryz.prog 177 #[.slice A (limbs n).length c] w fun e w' => e = .returned (.bool true) ∧ w' = w := by
  by_cases h0 : n = 0
  · have hl0 : (limbs n).length = 0 := by rw [h0, limbs_zero]; rfl
    generalize (limbs n).length = l at *
    subst hl0
    go_enter Tryz.func177, Tryz.ntmps177
    go_wp2
    go_ret
    exact ⟨rfl, rfl⟩
  · have hp : 0 < n := by omega
    have hl0 : 0 < (limbs n).length := by have := (limbs_len_zero hn).1; omega
    obtain ⟨b, o, rfl, hb1, hb2, hcv⟩ := hA.at (i := (limbs n).length - 1) (by omega)
    have hlast := limbs_last hp
    generalize (limbs n).getD ((limbs n).length - 1) 0 = v at *
    obtain ⟨m, hm⟩ : ∃ m, (limbs n).length = m + 1 := ⟨(limbs n).length - 1, by omega⟩
    have hvb : (v == 0) = false := beq_eq_false_iff_ne.2 hlast
    have hlb : ((((m + 1 : Nat)) : Int) == 0) = false := beq_eq_false_iff_ne.2 (by omega)
    rw [hm] at hcv hl ⊢
    rw [Nat.add_sub_cancel] at hcv
    have H := Lib.hid (And.intro hm hlast)
    clear hm hlast hA h0
    go_enter Tryz.func177, Tryz.ntmps177
    go_wp2
    go_ret
    refine ⟨?_, rfl⟩
    show Ending.returned (.bool ((m : Int) + 1 == 0 || v != 0)) = .returned (.bool true)
    rw [bne_iff_ne.2 H.out.2, Bool.or_true]
set_option maxRecDepth 100000 in
set_option maxHeartbeats 1600000 in
theorem rMul (A B : Option Addr) (c d lo up : Nat) (xs ys : List Int) (w : World) (hx : Ws xs) (hA : WordsIn lo up w A xs) (hy : Ws ys) (hB : WordsIn lo up w B ys) (hu : up ≤ w.heap.size) (hxc : xs.length ≤ c) (hyd : ys.length ≤ d) (hl : c ≤ 17592186044416) (hl2 : d ≤ 17592186044416) (hs : (limbs (val xs * val ys)).length ≤ 4096) :
    Calls Tryz.prog 92 #[.slice A xs.length c, .slice B ys.length d] w fun e w' => ∃ A1, e = .returned (.slice A1 (limbs (val xs * val ys)).length (limbs (val xs * val ys)).length) ∧ FreshAt w.heap.size w' A1 (limbs (val xs * val ys)).length (limbs (val xs * val ys)) ∧ Below w.heap.size w w' := by
  have HM := Lib.hid (nMul A B c d lo up xs ys w hx hA hy hB hu hxc hyd hl hl2 hs)
  go_enter Tryz.func92, Tryz.ntmps92
  go_wp2_with (first | (go_at_call 150; refine HM.out.mono ?_; rintro e w1 ⟨A1, rfl, hf1, hb1⟩) | (go_at_call 94; refine (rFits _ _ _ _).mono ?_; rintro e w2 ⟨rfl, rfl⟩))
  go_ret
  exact ⟨A1, rfl, hf1, hb1⟩
theorem gcd_low (q : Rat) : Int.gcd (q.num.natAbs : Nat) (q.den : Nat) = 1 := by
  rw [Int.gcd_natCast_natCast]; exact q.reduced
set_option maxRecDepth 100000 in
set_option maxHeartbeats 1600000 in
theorem rCheck (A B : Option Addr) (lo up : Nat) (q : Rat) (w : World) (h : RatIn lo up w A B q) (hu : up ≤ w.heap.size) (hn : (qn q).length ≤ 4096) (hd : (qd q).length ≤ 4096) :
    Calls Tryz.prog 116 #[qv A B q] w fun e w' => e = .returned (.int .i64 0) ∧ Below w.heap.size w w' := by
  have hd0 : 0 < (qd q).length := by
    have := (limbs_len_zero (show (0:Int) ≤ (q.den : Nat) by omega)).1
    have := q.den_pos
    unfold qd
    omega
  have hneg : (decide (q.num < 0) && ((((qn q).length : Nat) : Int) == 0)) = false := by
    by_cases hq : q.num < 0
    · have := (limbs_len_zero (show (0:Int) ≤ (q.num.natAbs : Nat) by omega)).1
      have : 0 < (qn q).length := by unfold qn; omega
      rw [Bool.and_eq_false_iff]; exact Or.inr (beq_eq_false_iff_ne.2 (by omega))
    · rw [Bool.and_eq_false_iff]; exact Or.inl (decide_eq_false hq)
  have hN1 := fun (w' : World) (hk : Keep lo up w w') => rNormal A (qn q).length lo up (q.num.natAbs : Nat) w' (h.n.keep hk) (by omega) hn
  have hN2 := fun (w' : World) (hk : Keep lo up w w') => rNormal B (qd q).length lo up (q.den : Nat) w' (h.d.keep hk) (by omega) hd
  have HN := Lib.hid (And.intro hN1 hN2)
  clear hN1 hN2
  have hk0 : Keep lo up w (w.alloc (.cells #[.bool (decide (q.num < 0)), .slice A (qn q).length (qn q).length, .slice B (qd q).length (qd q).length] 26)) := (Keep.refl _ _ _).alloc hu _
  have hk1 := h.keep hk0
  have hG := qGcd A B (qn q).length (qd q).length lo up (qn q) (qd q) _ (limbs_ws _) hk1.n (limbs_ws _) hk1.d (by rw [World.size_alloc]; omega) (by omega) (by omega)
  rw [show val (qn q) = (q.num.natAbs : Nat) from val_limbs (by omega), show val (qd q) = (q.den : Nat) from val_limbs (by omega), gcd_low, World.size_alloc] at hG
  rw [show limbs ((1 : Nat) : Int) = [1] from limbs_len_one (by omega) (by omega)] at hG
  have HG := Lib.hid hG
  have HK := Lib.hid hk0
  clear hG hk0 hk1 h
  have hdb : ((((qd q).length : Nat) : Int) == 0) = false := beq_eq_false_iff_ne.2 (by omega)
  unfold qv
  generalize decide (q.num < 0) = s at *
  have hbw : Below w.heap.size w (w.alloc (.cells #[.bool s, .slice A (qn q).length (qn q).length, .slice B (qd q).length (qd q).length] 26)) := (Below.refl _ _).alloc (Nat.le_refl _) _
  have HB := Lib.hid hbw
  clear hbw
  cases s
  · clear hneg
    go_enter Tryz.func116, Tryz.ntmps116
    go_wp2_with (first | (go_at_call_of 177 (Value.slice A (qn q).length (qn q).length); refine (HN.out.1 _ HK.out).mono ?_; rintro e w1 ⟨rfl, rfl⟩) | (go_at_call_of 177 (Value.slice B (qd q).length (qd q).length); refine (HN.out.2 _ HK.out).mono ?_; rintro e w1 ⟨rfl, rfl⟩) |
      (go_at_call 179; refine HG.out.mono ?_; rintro e w1 ⟨G, rfl, hf1, hb1⟩))
    have hWo := nWord G 1 0 w1.heap.size [1] w1 (Ws.cons (by omega) (by omega) Ws.nil) (hf1.words.wide (Nat.zero_le _) (Nat.le_refl _)) (by simp) (by simp [val_cons, val_nil])
    rw [show val [1] = 1 by simp [val_cons, val_nil]] at hWo
    have HW := Lib.hid hWo
    clear hWo
    go_wp2_with (first | (go_at_call 178; refine HW.out.mono ?_; rintro e w2 ⟨rfl, rfl⟩))
    go_ways
    go_ret
    exact ⟨rfl, HB.out.trans (hb1.mono (Nat.le_succ _))⟩
  · rw [Bool.true_and] at hneg
    go_enter Tryz.func116, Tryz.ntmps116
    go_wp2_with (first | (go_at_call_of 177 (Value.slice A (qn q).length (qn q).length); refine (HN.out.1 _ HK.out).mono ?_; rintro e w1 ⟨rfl, rfl⟩) | (go_at_call_of 177 (Value.slice B (qd q).length (qd q).length); refine (HN.out.2 _ HK.out).mono ?_; rintro e w1 ⟨rfl, rfl⟩) |
      (go_at_call 179; refine HG.out.mono ?_; rintro e w1 ⟨G, rfl, hf1, hb1⟩))
    have hWo := nWord G 1 0 w1.heap.size [1] w1 (Ws.cons (by omega) (by omega) Ws.nil) (hf1.words.wide (Nat.zero_le _) (Nat.le_refl _)) (by simp) (by simp [val_cons, val_nil])
    rw [show val [1] = 1 by simp [val_cons, val_nil]] at hWo
    have HW := Lib.hid hWo
    clear hWo
    go_wp2_with (first | (go_at_call 178; refine HW.out.mono ?_; rintro e w2 ⟨rfl, rfl⟩))
    go_ways
    go_ret
    exact ⟨rfl, HB.out.trans (hb1.mono (Nat.le_succ _))⟩
end Go.Proofs.YtfpofmifmapmfaaGreatDoor

namespace Go.Proofs.YtfpofmifmapmfaaGreatDoor
open Go.RowKit Go.Proofs.YtfpofmifmapmfaaGreatDoorW.PrintLast
set_option linter.unusedVariables false
set_option linter.unusedSimpArgs false
theorem results_pair {P : Program} {fn : Func} {p p' : Tmp} {ty ty' : TypeId} (h : fn.results = #[.cell p ty, .cell p' ty']) (tmps : Array Value) (w : World) (g g' : Nat) (t : TypeId) (cs : Array Value) (fr : Nat × Nat) (d : TypeDesc) (v : Value)
    (hp : tmps.getD p undef = .pointer (some ⟨g, 0, none⟩)) (hg : w.heap[g]? = some (.cells cs t fr))
    (hu : P.underlying ty = some d) (hd : (match d with | .struct _ | .array _ _ => true | _ => false) = true) (hi : (P.info? ty).map (·.size) = some cs.size)
    (hp' : tmps.getD p' undef = .pointer (some ⟨g', 0, none⟩)) (hl : (loadVar ty' ⟨g', 0, none⟩).run P w = .ok v w) :
    (results fn tmps).run P w = .ok (.tuple #[.agg cs, v]) w := by
  have h1 : tmps[p]?.getD undef = .pointer (some ⟨g, 0, none⟩) := by simpa using hp
  have h2 : tmps[p']?.getD undef = .pointer (some ⟨g', 0, none⟩) := by simpa using hp'
  simp [results, h, h1, h2, asAddr, run_loadVar_row w g t ty cs fr d hg hu hd hi, hl]
set_option maxRecDepth 100000 in
set_option maxHeartbeats 1600000 in
theorem rIdle (p q : Value) (w : World) :
    CallsD Tryz.prog 149 #[p, q] .returning w fun e u' w' => e = .returned (.tuple #[]) ∧ u' = .returning ∧ w' = w := by
  refine callsD_of_wpS Tryz.func149 rfl fun c₀ cs hu => ?_
  apply wpS_seq
  apply wpS_region
  simp [wpOpsS, go_sem, recoverD, hu, Tryz.ntmps149, Exit.thenS]
  apply wpS_seq
  apply wpS_region
  simp [wpOpsS, go_sem, Exit.thenS]
  refine wpS_cond (t := false) (by simp [Act.eval, Array.replicate]) ?_
  simp only [Bool.false_eq_true, if_false]
  refine wpS_of_wp (wp_skip ?_)
  cases c₀
  simp_all [bodyPostS, results, Tryz.results149]
set_option maxRecDepth 100000 in
set_option maxHeartbeats 1600000 in
theorem rReckonedAdd (x y : Value) (A B C D : Option Addr) (lo up : Nat) (p q : Rat) (w : World) (R : Bool → Option Addr → Nat → Nat → Option Addr → Nat → Nat → World → Prop)
    (hp : RatIn lo up w A B p) (hq : RatIn lo up w C D q) (hu : up ≤ w.heap.size) (hpn : (qn p).length ≤ 4096) (hpd : (qd p).length ≤ 4096) (hqn : (qn q).length ≤ 4096) (hqd : (qd q).length ≤ 4096)
    (hF : ∀ w0, Below w.heap.size w w0 → w.heap.size + 4 ≤ w0.heap.size → Calls Tryz.prog 91 #[x, y] w0 fun e w' => ∃ s E l l' F m m', e = .returned (.agg #[.bool s, .slice E l l', .slice F m m']) ∧ R s E l l' F m m' w' ∧ Keep w.heap.size (w.heap.size + 4) w0 w') :
    Calls Tryz.prog 90 #[qv A B p, qv C D q, .func (.func 91) #[] #[x, y]] w fun e w' => ∃ s E l l' F m m' w1, e = .returned (.tuple #[.agg #[.bool s, .slice E l l', .slice F m m'], .int .i64 0]) ∧ R s E l l' F m m' w1 ∧
      w' = (((w1.setCell ⟨w.heap.size + 2, 0, none⟩ (.bool s)).setCell ⟨w.heap.size + 2, 1, none⟩ (.slice E l l')).setCell ⟨w.heap.size + 2, 2, none⟩ (.slice F m m')).setCell ⟨w.heap.size + 3, 0, none⟩ (.int .i64 0) := by
  have hs4 : ((((w.alloc (.cells #[.bool (decide (p.num < 0)), .slice A (qn p).length (qn p).length, .slice B (qd p).length (qd p).length] 26)).alloc (.cells #[.bool (decide (q.num < 0)), .slice C (qn q).length (qn q).length, .slice D (qd q).length (qd q).length] 26)).alloc (.cells #[.bool false, .slice none 0 0, .slice none 0 0] 26)).alloc (.cells #[.int .i64 0] 27)).heap.size = w.heap.size + 4 := by simp only [World.size_alloc]
  have hk4 : Keep lo up w ((((w.alloc (.cells #[.bool (decide (p.num < 0)), .slice A (qn p).length (qn p).length, .slice B (qd p).length (qd p).length] 26)).alloc (.cells #[.bool (decide (q.num < 0)), .slice C (qn q).length (qn q).length, .slice D (qd q).length (qd q).length] 26)).alloc (.cells #[.bool false, .slice none 0 0, .slice none 0 0] 26)).alloc (.cells #[.int .i64 0] 27)) := ((((Keep.refl lo up w).alloc hu _).alloc (by simp only [World.size_alloc]; omega) _).alloc (by simp only [World.size_alloc]; omega) _).alloc (by simp only [World.size_alloc]; omega) _
  have hb4 : Below w.heap.size w ((((w.alloc (.cells #[.bool (decide (p.num < 0)), .slice A (qn p).length (qn p).length, .slice B (qd p).length (qd p).length] 26)).alloc (.cells #[.bool (decide (q.num < 0)), .slice C (qn q).length (qn q).length, .slice D (qd q).length (qd q).length] 26)).alloc (.cells #[.bool false, .slice none 0 0, .slice none 0 0] 26)).alloc (.cells #[.int .i64 0] 27)) := ((((Below.refl w.heap.size w).alloc (Nat.le_refl _) _).alloc (by simp only [World.size_alloc]; omega) _).alloc (by simp only [World.size_alloc]; omega) _).alloc (by simp only [World.size_alloc]; omega) _
  have hc2 : ((((w.alloc (.cells #[.bool (decide (p.num < 0)), .slice A (qn p).length (qn p).length, .slice B (qd p).length (qd p).length] 26)).alloc (.cells #[.bool (decide (q.num < 0)), .slice C (qn q).length (qn q).length, .slice D (qd q).length (qd q).length] 26)).alloc (.cells #[.bool false, .slice none 0 0, .slice none 0 0] 26)).alloc (.cells #[.int .i64 0] 27)).heap[w.heap.size + 1]? = some (.cells #[.bool (decide (q.num < 0)), .slice C (qn q).length (qn q).length, .slice D (qd q).length (qd q).length] 26 (0, 0)) := by
    rw [alloc_heap_at, if_neg (by simp only [World.size_alloc]; omega), alloc_heap_at, if_neg (by simp only [World.size_alloc]; omega), alloc_heap_at, if_pos (by simp only [World.size_alloc])]
  have hc3 : ((((w.alloc (.cells #[.bool (decide (p.num < 0)), .slice A (qn p).length (qn p).length, .slice B (qd p).length (qd p).length] 26)).alloc (.cells #[.bool (decide (q.num < 0)), .slice C (qn q).length (qn q).length, .slice D (qd q).length (qd q).length] 26)).alloc (.cells #[.bool false, .slice none 0 0, .slice none 0 0] 26)).alloc (.cells #[.int .i64 0] 27)).heap[w.heap.size + 2]? = some (.cells #[.bool false, .slice none 0 0, .slice none 0 0] 26 (0, 0)) := by
    rw [alloc_heap_at, if_neg (by simp only [World.size_alloc]; omega), alloc_heap_at, if_pos (by simp only [World.size_alloc])]
  have hc4 : ((((w.alloc (.cells #[.bool (decide (p.num < 0)), .slice A (qn p).length (qn p).length, .slice B (qd p).length (qd p).length] 26)).alloc (.cells #[.bool (decide (q.num < 0)), .slice C (qn q).length (qn q).length, .slice D (qd q).length (qd q).length] 26)).alloc (.cells #[.bool false, .slice none 0 0, .slice none 0 0] 26)).alloc (.cells #[.int .i64 0] 27)).heap[w.heap.size + 3]? = some (.cells #[.int .i64 0] 27 (0, 0)) := by
    rw [alloc_heap_at, if_pos (by simp only [World.size_alloc])]
  have HC1 := Lib.hid (rCheck A B lo up p _ (hp.keep hk4) (by rw [hs4]; omega) hpn hpd)
  have HS := Lib.hid (And.intro hs4 (And.intro hb4 (And.intro hc2 (And.intro hc3 hc4))))
  have HQ := Lib.hid (hq.keep hk4)
  have HF := Lib.hid hF
  clear hF hp hq hs4 hb4 hc2 hc3 hc4 hk4
  have hmf : ∀ (fn : Fn) (first cap : Array Value) (w : World), (Instr.makeFunc fn first cap).run Tryz.prog w = .ok (.func fn first cap) w := fun _ _ _ _ => rfl
  unfold qv
  go_enter_defers Tryz.func90, Tryz.ntmps90
  go_wp2_with (fail)
  refine HC1.out.mono ?_
  rintro e w1 ⟨rfl, hb1⟩
  obtain ⟨hs4, hb4, hc2, hc3, hc4⟩ := HS.out
  rw [hs4] at hb1
  have hs1 := hb1.size
  rw [hs4] at hs1
  have hr2 := (hb1.block (w.heap.size + 1) (by omega)).trans hc2
  have hr3 := (hb1.block (w.heap.size + 2) (by omega)).trans hc3
  have hr4 := (hb1.block (w.heap.size + 3) (by omega)).trans hc4
  have d0 : w1.cell? ⟨w.heap.size + 1, 0, none⟩ = some (.bool (decide (q.num < 0))) := by rw [cell_of_cells hr2]; rfl
  have d1 : w1.cell? ⟨w.heap.size + 1, 1, none⟩ = some (.slice C (qn q).length (qn q).length) := by rw [cell_of_cells hr2]; rfl
  have d2 : w1.cell? ⟨w.heap.size + 1, 2, none⟩ = some (.slice D (qd q).length (qd q).length) := by rw [cell_of_cells hr2]; rfl
  have HC2 := Lib.hid (rCheck C D lo up q w1 (HQ.out.keep (Keep.of hb1 (by omega))) (by omega) hqn hqd)
  have HB1 := Lib.hid (And.intro (hb4.trans (hb1.mono (by omega))) (And.intro hr3 hr4))
  clear hs4 hb4 hc2 hc3 hc4 hr2 hr3 hr4 hb1
  go_wp2_with (first | (go_at_call 116; refine HC2.out.mono ?_; rintro e w2 ⟨rfl, hb2⟩))
  have hs2 := hb2.size
  refine (HF.out w2 (HB1.out.1.trans (hb2.mono (by omega))) (by omega)).mono ?_
  rintro e w3 ⟨s, E, l, l', F, m, m', rfl, hR, hK⟩
  obtain ⟨_, hr3, hr4⟩ := HB1.out
  have hr3' := (hK (w.heap.size + 2) (by omega) (by omega)).trans ((hb2.block (w.heap.size + 2) (by omega)).trans hr3)
  have hr4' := (hK (w.heap.size + 3) (by omega) (by omega)).trans ((hb2.block (w.heap.size + 3) (by omega)).trans hr4)
  have e0 : w3.cell? ⟨w.heap.size + 1 + 1, 0, none⟩ = some (.bool false) := by rw [cell_of_cells hr3']; rfl
  have e1 : w3.cell? ⟨w.heap.size + 1 + 1, 1, none⟩ = some (.slice none 0 0) := by rw [cell_of_cells hr3']; rfl
  have e2 : w3.cell? ⟨w.heap.size + 1 + 1, 2, none⟩ = some (.slice none 0 0) := by rw [cell_of_cells hr3']; rfl
  have e3 : w3.cell? ⟨w.heap.size + 1 + 1 + 1, 0, none⟩ = some (.int .i64 0) := by rw [cell_of_cells hr4']; rfl
  have f0 : w3.frozen? ⟨w.heap.size + 1 + 1, 0, none⟩ = false := free_of_cells hr3' 0
  have f1 : w3.frozen? ⟨w.heap.size + 1 + 1, 1, none⟩ = false := free_of_cells hr3' 1
  have f2 : w3.frozen? ⟨w.heap.size + 1 + 1, 2, none⟩ = false := free_of_cells hr3' 2
  have f3 : w3.frozen? ⟨w.heap.size + 1 + 1 + 1, 0, none⟩ = false := free_of_cells hr4' 0
  have HR3 := Lib.hid (And.intro hr3' hr4')
  clear hr3 hr4 hr3' hr4' hK
  go_wp2_with (fail)
  refine leaves_cons (f := 149) (args := #[.pointer (some ⟨w.heap.size + 1 + 1, 0, none⟩), .pointer (some ⟨w.heap.size + 1 + 1 + 1, 0, none⟩)]) (by simp) (by simp [go_sem]) ?_
  refine (rIdle _ _ _).mono ?_
  rintro e u' w'' ⟨rfl, rfl, rfl⟩
  have hh : (((((w3.setCell ⟨w.heap.size + 1 + 1, 0, none⟩ (.bool s)).setCell ⟨w.heap.size + 1 + 1, 1, none⟩ (.slice E l l')).setCell ⟨w.heap.size + 1 + 1, 2, none⟩ (.slice F m m')).setCell ⟨w.heap.size + 1 + 1 + 1, 0, none⟩ (.int .i64 0))).heap[w.heap.size + 2]? = some (.cells #[.bool s, .slice E l l', .slice F m m'] 26 (0, 0)) := by
    rw [Below.heap_setCell _ _ _ _ (by show w.heap.size + 2 ≠ w.heap.size + 1 + 1 + 1; omega)]
    exact heap_set_three HR3.out.1 _ _ _
  have hh2 : (((((w3.setCell ⟨w.heap.size + 1 + 1, 0, none⟩ (.bool s)).setCell ⟨w.heap.size + 1 + 1, 1, none⟩ (.slice E l l')).setCell ⟨w.heap.size + 1 + 1, 2, none⟩ (.slice F m m')).setCell ⟨w.heap.size + 1 + 1 + 1, 0, none⟩ (.int .i64 0))).heap[w.heap.size + 3]? = some (.cells #[.int .i64 0] 27 (0, 0)) := by
    refine heap_set_cell (C := #[.int .i64 0]) ?_ 0 (.int .i64 0)
    rw [Below.heap_setCell _ _ _ _ (by show w.heap.size + 1 + 1 + 1 ≠ w.heap.size + 1 + 1; omega), Below.heap_setCell _ _ _ _ (by show w.heap.size + 1 + 1 + 1 ≠ w.heap.size + 1 + 1; omega), Below.heap_setCell _ _ _ _ (by show w.heap.size + 1 + 1 + 1 ≠ w.heap.size + 1 + 1; omega)]
    exact HR3.out.2
  have hcc := (cell_of_cells hh2 0).trans (show (#[Value.int .i64 0] : Array Value)[0]? = some (.int .i64 0) from rfl)
  exact ⟨_, results_pair (p := 6) (p' := 7) rfl _ _ (w.heap.size + 2) (w.heap.size + 3) _ _ _ _ (.int .i64 0) rfl hh rfl rfl rfl rfl (by simp [loadVar, go_sem, hcc]), s, E, l, l', F, m, m', w3, rfl, hR, rfl⟩
end Go.Proofs.YtfpofmifmapmfaaGreatDoor

namespace Go.Proofs.YtfpofmifmapmfaaGreatDoor
open Go.RowKit Go.Proofs.YtfpofmifmapmfaaGreatDoorW.PrintLast
set_option linter.unusedVariables false
set_option linter.unusedSimpArgs false
structure Caught (w : World) (b : Nat) (A B : Option Addr) (q : Rat) : Prop where
  c0 : w.cell? ⟨b, 0, none⟩ = some (.bool (decide (q.num < 0)))
  c1 : w.cell? ⟨b, 1, none⟩ = some (.slice A (qn q).length (qn q).length)
  c2 : w.cell? ⟨b, 2, none⟩ = some (.slice B (qd q).length (qd q).length)
theorem Caught.keep {w w' : World} {b B' : Nat} {A B : Option Addr} {q : Rat} (h : Caught w b A B q) (k : Below B' w w') (hb : b < B') : Caught w' b A B q :=
  ⟨(k.cell (p := ⟨b, 0, none⟩) hb).trans h.c0, (k.cell (p := ⟨b, 1, none⟩) hb).trans h.c1, (k.cell (p := ⟨b, 2, none⟩) hb).trans h.c2⟩
theorem quo_mul (p q : Rat) : quo (!(decide (p.num < 0) == decide (q.num < 0))) ((p.num.natAbs : Nat) * (q.num.natAbs : Nat) : Int) ((p.den : Nat) * (q.den : Nat) : Int) = p * q := by
  unfold quo
  have e : (if (!(decide (p.num < 0) == decide (q.num < 0))) = true then -((p.num.natAbs : Nat) * (q.num.natAbs : Nat) : Int) else ((p.num.natAbs : Nat) * (q.num.natAbs : Nat) : Int)) = p.num * q.num := by
    by_cases h1 : p.num < 0 <;> by_cases h2 : q.num < 0
    · have a : ((p.num.natAbs : Nat) : Int) = -p.num := by omega
      have b : ((q.num.natAbs : Nat) : Int) = -q.num := by omega
      rw [a, b]; simp [h1, h2, Int.neg_mul, Int.mul_neg, Int.neg_neg]
    · have a : ((p.num.natAbs : Nat) : Int) = -p.num := by omega
      have b : ((q.num.natAbs : Nat) : Int) = q.num := by omega
      rw [a, b]; simp [h1, h2, Int.neg_mul, Int.mul_neg, Int.neg_neg]
    · have a : ((p.num.natAbs : Nat) : Int) = p.num := by omega
      have b : ((q.num.natAbs : Nat) : Int) = -q.num := by omega
      rw [a, b]; simp [h1, h2, Int.neg_mul, Int.mul_neg, Int.neg_neg]
    · have a : ((p.num.natAbs : Nat) : Int) = p.num := by omega
      have b : ((q.num.natAbs : Nat) : Int) = q.num := by omega
      rw [a, b]; simp [h1, h2, Int.neg_mul, Int.mul_neg, Int.neg_neg]
  rw [e, ← Int.natCast_mul, Int.toNat_natCast, Rat.mul_def, Rat.normalize_eq_mkRat]
theorem lt0 (w : World) (o : Obj) : w.heap.size < (w.alloc o).drew.heap.size := by
  show w.heap.size < (w.alloc o).heap.size
  rw [World.size_alloc]; omega
theorem lt1 {w : World} {o : Obj} {b : Nat} (h : b < w.heap.size) : b < (w.alloc o).drew.heap.size := by
  show b < (w.alloc o).heap.size
  rw [World.size_alloc]; omega
theorem lt2 {w w1 : World} {o : Obj} {b : Nat} (h : b < w.heap.size) (b1 : Below (w.alloc o).drew.heap.size (w.alloc o).drew w1) : b < w1.heap.size := Nat.lt_of_lt_of_le (lt1 h) b1.size
theorem lt3 {w w1 w2 : World} {o : Obj} {b : Nat} (h : b < w.heap.size) (b1 : Below (w.alloc o).drew.heap.size (w.alloc o).drew w1) (b2 : Below w1.heap.size w1 w2) : b < w2.heap.size := Nat.lt_of_lt_of_le (lt2 h b1) b2.size
theorem three_kept {w0 w1 w2 w3 : World} {g : Nat} {x y z : Value} {t : TypeId} (h : w0.heap[g]? = some (.cells #[x, y, z] t (0, 0))) (b1 : Below w0.heap.size w0 w1) (b2 : Below w1.heap.size w1 w2) (b3 : Below w2.heap.size w2 w3) :
    w3.cell? ⟨g, 0, none⟩ = some x ∧ w3.cell? ⟨g, 1, none⟩ = some y ∧ w3.cell? ⟨g, 2, none⟩ = some z ∧ w3.frozen? ⟨g, 0, none⟩ = false ∧ w3.frozen? ⟨g, 1, none⟩ = false ∧ w3.frozen? ⟨g, 2, none⟩ = false ∧ Hid (w3.heap[g]? = some (.cells #[x, y, z] t (0, 0))) := by
  have hg := heap_lt h
  have s1 := b1.size
  have s2 := b2.size
  have hr := (b3.block g (by omega)).trans ((b2.block g (by omega)).trans ((b1.block g hg).trans h))
  exact ⟨by rw [cell_of_cells hr]; rfl, by rw [cell_of_cells hr]; rfl, by rw [cell_of_cells hr]; rfl, free_of_cells hr 0, free_of_cells hr 1, free_of_cells hr 2, hr⟩
set_option maxRecDepth 100000 in
set_option maxHeartbeats 3200000 in
theorem rMulBody (bp bq : Nat) (A B C D : Option Addr) (lo up : Nat) (p q : Rat) (w : World) (hp : RatIn lo up w A B p) (hq : RatIn lo up w C D q) (hu : up ≤ w.heap.size)
    (hcp : Caught w bp A B p) (hcq : Caught w bq C D q) (hbp : bp < w.heap.size) (hbq : bq < w.heap.size)
    (hs1 : (limbs ((p.num.natAbs : Nat) * (q.num.natAbs : Nat) : Int)).length ≤ 4096) (hs2 : (limbs ((p.den : Nat) * (q.den : Nat) : Int)).length ≤ 4096) (hs3 : (qn p).length ≤ 4096 ∧ (qd p).length ≤ 4096 ∧ (qn q).length ≤ 4096 ∧ (qd q).length ≤ 4096) :
    Calls Tryz.prog 188 #[.pointer (some ⟨bp, 0, none⟩), .pointer (some ⟨bq, 0, none⟩)] w fun e w' => ∃ E F, e = .returned (qv E F (p * q)) ∧ RatFresh w.heap.size w' E F (p * q) ∧ Below w.heap.size w w' := by
  have e1 : val (qn p) = (p.num.natAbs : Nat) := val_limbs (by omega)
  have e2 : val (qn q) = (q.num.natAbs : Nat) := val_limbs (by omega)
  have e3 : val (qd p) = (p.den : Nat) := val_limbs (by omega)
  have e4 : val (qd q) = (q.den : Nat) := val_limbs (by omega)
  have hlp := hs3
  obtain ⟨l1, l2, l3, l4⟩ := hs3
  have HM1 : Hid (∀ (w' : World) (hk : Keep lo up w w') (hz : up ≤ w'.heap.size), Calls Tryz.prog 92 #[.slice A (qn p).length (qn p).length, .slice C (qn q).length (qn q).length] w' fun e w'' => ∃ A1, e = .returned (.slice A1 (limbs ((p.num.natAbs : Nat) * (q.num.natAbs : Nat) : Int)).length (limbs ((p.num.natAbs : Nat) * (q.num.natAbs : Nat) : Int)).length) ∧ FreshAt w'.heap.size w'' A1 (limbs ((p.num.natAbs : Nat) * (q.num.natAbs : Nat) : Int)).length (limbs ((p.num.natAbs : Nat) * (q.num.natAbs : Nat) : Int)) ∧ Below w'.heap.size w' w'') := Lib.hid fun w' hk hz => by
    have := rMul A C (qn p).length (qn q).length lo up (qn p) (qn q) w' (limbs_ws _) (hp.n.keep hk) (limbs_ws _) (hq.n.keep hk) hz (Nat.le_refl _) (Nat.le_refl _) (by omega) (by omega) (by rw [e1, e2]; exact hs1)
    rw [e1, e2] at this; exact this
  have HM2 : Hid (∀ (w' : World) (hk : Keep lo up w w') (hz : up ≤ w'.heap.size), Calls Tryz.prog 92 #[.slice B (qd p).length (qd p).length, .slice D (qd q).length (qd q).length] w' fun e w'' => ∃ A1, e = .returned (.slice A1 (limbs ((p.den : Nat) * (q.den : Nat) : Int)).length (limbs ((p.den : Nat) * (q.den : Nat) : Int)).length) ∧ FreshAt w'.heap.size w'' A1 (limbs ((p.den : Nat) * (q.den : Nat) : Int)).length (limbs ((p.den : Nat) * (q.den : Nat) : Int)) ∧ Below w'.heap.size w' w'') := Lib.hid fun w' hk hz => by
    have := rMul B D (qd p).length (qd q).length lo up (qd p) (qd q) w' (limbs_ws _) (hp.d.keep hk) (limbs_ws _) (hq.d.keep hk) hz (Nat.le_refl _) (Nat.le_refl _) (by omega) (by omega) (by rw [e3, e4]; exact hs2)
    rw [e3, e4] at this; exact this
  have hN0 : (0 : Int) ≤ (p.num.natAbs : Nat) * (q.num.natAbs : Nat) := Int.mul_nonneg (by omega) (by omega)
  have hD0 : (0 : Int) < (p.den : Nat) * (q.den : Nat) := Int.mul_pos (by have := p.den_pos; omega) (by have := q.den_pos; omega)
  generalize hNN : ((p.num.natAbs : Nat) * (q.num.natAbs : Nat) : Int) = N at *
  generalize hDD : ((p.den : Nat) * (q.den : Nat) : Int) = D' at *
  have HND := Lib.hid (And.intro hNN hDD)
  clear hNN hDD e1 e2 e3 e4
  have HC := Lib.hid (And.intro hcp hcq)
  clear hcp hcq
  go_enter Tryz.func188, Tryz.ntmps188
  go_wp2_with (fail)
  have hka : Keep lo up w (w.alloc (.cells #[.bool false, .slice none 0 0, .slice none 0 0] 26)) := (Keep.refl _ _ _).alloc hu _
  have hba : Below w.heap.size w (w.alloc (.cells #[.bool false, .slice none 0 0, .slice none 0 0] 26)) := (Below.refl _ _).alloc (Nat.le_refl _) _
  have hba0 : (w.alloc (.cells #[.bool false, .slice none 0 0, .slice none 0 0] 26)).drew.heap[w.heap.size]? = some (.cells #[.bool false, .slice none 0 0, .slice none 0 0] 26 (0, 0)) := by
    show (w.alloc _).heap[w.heap.size]? = _
    rw [alloc_heap_at, if_pos rfl]
  refine start_ (n := 17) (S := fun w' => Caught w' bp A B p ∧ Caught w' bq C D q) (ds := [16]) (bt 17 0) (by kernel_rfl) rfl rfl (⟨HC.out.1.keep hba.drew hbp, HC.out.2.keep hba.drew hbq⟩) (fun hHeld => ?_)
  refine pv_ 0 3 ?_
  refine ld_ 1 4 ?_ hHeld ?_ ?_; rotate_left
  · rintro w' ⟨⟨s1, s2, s3⟩, ⟨s4, s5, s6⟩⟩
    go_simp; with_reducible rfl
  refine pv_ 2 5 ?_
  refine ld_ 3 6 ?_ hHeld ?_ ?_; rotate_left
  · rintro w' ⟨⟨s1, s2, s3⟩, ⟨s4, s5, s6⟩⟩
    go_simp; with_reducible rfl
  refine pv_ 4 7 ?_
  refine pv_ 5 8 ?_
  refine ld_ 6 9 ?_ hHeld ?_ ?_; rotate_left
  · rintro w' ⟨⟨s1, s2, s3⟩, ⟨s4, s5, s6⟩⟩
    go_simp; with_reducible rfl
  refine pv_ 7 10 ?_
  refine ld_ 8 11 ?_ hHeld ?_ ?_; rotate_left
  · rintro w' ⟨⟨s1, s2, s3⟩, ⟨s4, s5, s6⟩⟩
    go_simp; with_reducible rfl
  refine pv_ 10 13 ?_
  refine ld_ 11 14 ?_ hHeld ?_ ?_; rotate_left
  · rintro w' ⟨⟨s1, s2, s3⟩, ⟨s4, s5, s6⟩⟩
    go_simp; with_reducible rfl
  refine pv_ 12 15 ?_
  refine ld_ 13 16 ?_ hHeld ?_ ?_; rotate_left
  · rintro w' ⟨⟨s1, s2, s3⟩, ⟨s4, s5, s6⟩⟩
    go_simp; with_reducible rfl
  refine ca_ 9 12 Tryz.func92 #[.slice A (qn p).length (qn p).length, .slice C (qn q).length (qn q).length] ?_
  with_reducible refine (HM1.out _ hka.drew (by simp; omega)).mono ?_
  rintro e w' ⟨A1, rfl, hf1, hb1⟩
  refine ⟨_, rfl, (by first | (exact ⟨hHeld.1.keep hb3 (lt3 hbp hb1 hb2), hHeld.2.keep hb3 (lt3 hbq hb1 hb2)⟩) | (exact ⟨hHeld.1.keep hb2 (lt2 hbp hb1), hHeld.2.keep hb2 (lt2 hbq hb1)⟩) | (exact ⟨hHeld.1.keep hb1 (lt1 hbp), hHeld.2.keep hb1 (lt1 hbq)⟩)), fun hHeld => ?_⟩
  refine nn ?_
  refine ca_ 14 17 Tryz.func92 #[.slice B (qd p).length (qd p).length, .slice D (qd q).length (qd q).length] ?_
  with_reducible refine (HM2.out _ (hka.drew.below hb1 (by simp; omega)) (by have := hb1.size; simp at this; omega)).mono ?_
  rintro e w' ⟨A2, rfl, hf2, hb2⟩
  refine ⟨_, rfl, (by first | (exact ⟨hHeld.1.keep hb3 (lt3 hbp hb1 hb2), hHeld.2.keep hb3 (lt3 hbq hb1 hb2)⟩) | (exact ⟨hHeld.1.keep hb2 (lt2 hbp hb1), hHeld.2.keep hb2 (lt2 hbq hb1)⟩) | (exact ⟨hHeld.1.keep hb1 (lt1 hbp), hHeld.2.keep hb1 (lt1 hbq)⟩)), fun hHeld => ?_⟩
  refine nn ?_
  refine ca_ 15 18 Tryz.func93 #[.bool (!(decide (p.num < 0) == decide (q.num < 0))), .slice A1 (limbs N).length (limbs N).length, .slice A2 (limbs D').length (limbs D').length] ?_
  with_reducible refine (rLowest (!(decide (p.num < 0) == decide (q.num < 0))) A1 A2 _ _ 0 _ _ _ _ (limbs_ws _) ((hf1.words.keep (Keep.of hb2 (Nat.le_refl _))).wide (Nat.zero_le _) hb2.size) (limbs_ws _) (hf2.words.wide (Nat.zero_le _) (Nat.le_refl _)) (Nat.le_refl _) (by rw [val_limbs (Int.le_of_lt hD0)]; exact hD0) (by omega) (by omega)).mono ?_
  rintro e w' ⟨E, F, rfl, hf3, hb3⟩
  refine ⟨_, rfl, (by first | (exact ⟨hHeld.1.keep hb3 (lt3 hbp hb1 hb2), hHeld.2.keep hb3 (lt3 hbq hb1 hb2)⟩) | (exact ⟨hHeld.1.keep hb2 (lt2 hbp hb1), hHeld.2.keep hb2 (lt2 hbq hb1)⟩) | (exact ⟨hHeld.1.keep hb1 (lt1 hbp), hHeld.2.keep hb1 (lt1 hbq)⟩)), fun hHeld => ?_⟩
  refine nn ?_
  refine last_ (i := 16) (N := none) (bt 17 131071) rfl rfl (by kernel_rfl) (by decide) (fun K hK => ?_)
  obtain ⟨d0, d1, d2, g0, g1, g2, HR⟩ := three_kept hba0 hb1 hb2 hb3
  unfold qv
  refine skip_ (w1 := ?_) (by rfl) rfl ?_ ?_
  rotate_left
  · go_simp
    rfl
  refine hK.out _ _ ?_
  clear hK K
  refine done_ (by kernel_rfl) ?_
  go_wp2_with (fail)
  have hq' : quo (!(decide (p.num < 0) == decide (q.num < 0))) (val (limbs N)) (val (limbs D')) = p * q := by
    rw [val_limbs hN0, val_limbs (Int.le_of_lt hD0), ← HND.out.1, ← HND.out.2]; exact quo_mul p q
  refine bodyPost_ret (results_cell_row rfl _ _ w.heap.size _ _ _ _ rfl (heap_set_three HR _ _ _) rfl rfl rfl) rfl ?_
  rw [hq'] at hf3 ⊢
  have t1 := Nat.le_of_lt (lt0 w _ : w.heap.size < (w.alloc (.cells #[.bool false, .slice none 0 0, .slice none 0 0] 26)).drew.heap.size)
  have t2 := Nat.lt_of_lt_of_le (lt0 w _) hb1.size
  have t3 := Nat.lt_of_lt_of_le t2 hb2.size
  refine ⟨E, F, rfl, (hf3.keep (up := w'.heap.size) ((((Keep.refl _ _ _).setCell (Or.inl t3) _).setCell (Or.inl t3) _).setCell (Or.inl t3) _) (Nat.le_refl _)).wide (Nat.le_of_lt t3), ?_⟩
  exact (((((hba.drew.trans (hb1.mono t1)).trans (hb2.mono (Nat.le_of_lt t2))).trans (hb3.mono (Nat.le_of_lt t3))).setCell (Nat.le_refl _) _).setCell (Nat.le_refl _) _).setCell (Nat.le_refl _) _
end Go.Proofs.YtfpofmifmapmfaaGreatDoor

namespace Go.Proofs.YtfpofmifmapmfaaGreatDoor
open Go.RowKit Go.Proofs.YtfpofmifmapmfaaGreatDoorW.PrintLast
set_option linter.unusedVariables false
set_option linter.unusedSimpArgs false
set_option maxRecDepth 100000 in
set_option maxHeartbeats 1600000 in
theorem rReckonedMul (x y : Value) (A B C D : Option Addr) (lo up : Nat) (p q : Rat) (w : World) (R : Bool → Option Addr → Nat → Nat → Option Addr → Nat → Nat → World → Prop)
    (hp : RatIn lo up w A B p) (hq : RatIn lo up w C D q) (hu : up ≤ w.heap.size) (hpn : (qn p).length ≤ 4096) (hpd : (qd p).length ≤ 4096) (hqn : (qn q).length ≤ 4096) (hqd : (qd q).length ≤ 4096)
    (hF : ∀ w0, Below w.heap.size w w0 → w.heap.size + 4 ≤ w0.heap.size → Calls Tryz.prog 188 #[x, y] w0 fun e w' => ∃ s E l l' F m m', e = .returned (.agg #[.bool s, .slice E l l', .slice F m m']) ∧ R s E l l' F m m' w' ∧ Keep w.heap.size (w.heap.size + 4) w0 w') :
    Calls Tryz.prog 90 #[qv A B p, qv C D q, .func (.func 188) #[] #[x, y]] w fun e w' => ∃ s E l l' F m m' w1, e = .returned (.tuple #[.agg #[.bool s, .slice E l l', .slice F m m'], .int .i64 0]) ∧ R s E l l' F m m' w1 ∧
      w' = (((w1.setCell ⟨w.heap.size + 2, 0, none⟩ (.bool s)).setCell ⟨w.heap.size + 2, 1, none⟩ (.slice E l l')).setCell ⟨w.heap.size + 2, 2, none⟩ (.slice F m m')).setCell ⟨w.heap.size + 3, 0, none⟩ (.int .i64 0) := by
  have hs4 : ((((w.alloc (.cells #[.bool (decide (p.num < 0)), .slice A (qn p).length (qn p).length, .slice B (qd p).length (qd p).length] 26)).alloc (.cells #[.bool (decide (q.num < 0)), .slice C (qn q).length (qn q).length, .slice D (qd q).length (qd q).length] 26)).alloc (.cells #[.bool false, .slice none 0 0, .slice none 0 0] 26)).alloc (.cells #[.int .i64 0] 27)).heap.size = w.heap.size + 4 := by simp only [World.size_alloc]
  have hk4 : Keep lo up w ((((w.alloc (.cells #[.bool (decide (p.num < 0)), .slice A (qn p).length (qn p).length, .slice B (qd p).length (qd p).length] 26)).alloc (.cells #[.bool (decide (q.num < 0)), .slice C (qn q).length (qn q).length, .slice D (qd q).length (qd q).length] 26)).alloc (.cells #[.bool false, .slice none 0 0, .slice none 0 0] 26)).alloc (.cells #[.int .i64 0] 27)) := ((((Keep.refl lo up w).alloc hu _).alloc (by simp only [World.size_alloc]; omega) _).alloc (by simp only [World.size_alloc]; omega) _).alloc (by simp only [World.size_alloc]; omega) _
  have hb4 : Below w.heap.size w ((((w.alloc (.cells #[.bool (decide (p.num < 0)), .slice A (qn p).length (qn p).length, .slice B (qd p).length (qd p).length] 26)).alloc (.cells #[.bool (decide (q.num < 0)), .slice C (qn q).length (qn q).length, .slice D (qd q).length (qd q).length] 26)).alloc (.cells #[.bool false, .slice none 0 0, .slice none 0 0] 26)).alloc (.cells #[.int .i64 0] 27)) := ((((Below.refl w.heap.size w).alloc (Nat.le_refl _) _).alloc (by simp only [World.size_alloc]; omega) _).alloc (by simp only [World.size_alloc]; omega) _).alloc (by simp only [World.size_alloc]; omega) _
  have hc2 : ((((w.alloc (.cells #[.bool (decide (p.num < 0)), .slice A (qn p).length (qn p).length, .slice B (qd p).length (qd p).length] 26)).alloc (.cells #[.bool (decide (q.num < 0)), .slice C (qn q).length (qn q).length, .slice D (qd q).length (qd q).length] 26)).alloc (.cells #[.bool false, .slice none 0 0, .slice none 0 0] 26)).alloc (.cells #[.int .i64 0] 27)).heap[w.heap.size + 1]? = some (.cells #[.bool (decide (q.num < 0)), .slice C (qn q).length (qn q).length, .slice D (qd q).length (qd q).length] 26 (0, 0)) := by
    rw [alloc_heap_at, if_neg (by simp only [World.size_alloc]; omega), alloc_heap_at, if_neg (by simp only [World.size_alloc]; omega), alloc_heap_at, if_pos (by simp only [World.size_alloc])]
  have hc3 : ((((w.alloc (.cells #[.bool (decide (p.num < 0)), .slice A (qn p).length (qn p).length, .slice B (qd p).length (qd p).length] 26)).alloc (.cells #[.bool (decide (q.num < 0)), .slice C (qn q).length (qn q).length, .slice D (qd q).length (qd q).length] 26)).alloc (.cells #[.bool false, .slice none 0 0, .slice none 0 0] 26)).alloc (.cells #[.int .i64 0] 27)).heap[w.heap.size + 2]? = some (.cells #[.bool false, .slice none 0 0, .slice none 0 0] 26 (0, 0)) := by
    rw [alloc_heap_at, if_neg (by simp only [World.size_alloc]; omega), alloc_heap_at, if_pos (by simp only [World.size_alloc])]
  have hc4 : ((((w.alloc (.cells #[.bool (decide (p.num < 0)), .slice A (qn p).length (qn p).length, .slice B (qd p).length (qd p).length] 26)).alloc (.cells #[.bool (decide (q.num < 0)), .slice C (qn q).length (qn q).length, .slice D (qd q).length (qd q).length] 26)).alloc (.cells #[.bool false, .slice none 0 0, .slice none 0 0] 26)).alloc (.cells #[.int .i64 0] 27)).heap[w.heap.size + 3]? = some (.cells #[.int .i64 0] 27 (0, 0)) := by
    rw [alloc_heap_at, if_pos (by simp only [World.size_alloc])]
  have HC1 := Lib.hid (rCheck A B lo up p _ (hp.keep hk4) (by rw [hs4]; omega) hpn hpd)
  have HS := Lib.hid (And.intro hs4 (And.intro hb4 (And.intro hc2 (And.intro hc3 hc4))))
  have HQ := Lib.hid (hq.keep hk4)
  have HF := Lib.hid hF
  clear hF hp hq hs4 hb4 hc2 hc3 hc4 hk4
  have hmf : ∀ (fn : Fn) (first cap : Array Value) (w : World), (Instr.makeFunc fn first cap).run Tryz.prog w = .ok (.func fn first cap) w := fun _ _ _ _ => rfl
  unfold qv
  go_enter_defers Tryz.func90, Tryz.ntmps90
  go_wp2_with (fail)
  refine HC1.out.mono ?_
  rintro e w1 ⟨rfl, hb1⟩
  obtain ⟨hs4, hb4, hc2, hc3, hc4⟩ := HS.out
  rw [hs4] at hb1
  have hs1 := hb1.size
  rw [hs4] at hs1
  have hr2 := (hb1.block (w.heap.size + 1) (by omega)).trans hc2
  have hr3 := (hb1.block (w.heap.size + 2) (by omega)).trans hc3
  have hr4 := (hb1.block (w.heap.size + 3) (by omega)).trans hc4
  have d0 : w1.cell? ⟨w.heap.size + 1, 0, none⟩ = some (.bool (decide (q.num < 0))) := by rw [cell_of_cells hr2]; rfl
  have d1 : w1.cell? ⟨w.heap.size + 1, 1, none⟩ = some (.slice C (qn q).length (qn q).length) := by rw [cell_of_cells hr2]; rfl
  have d2 : w1.cell? ⟨w.heap.size + 1, 2, none⟩ = some (.slice D (qd q).length (qd q).length) := by rw [cell_of_cells hr2]; rfl
  have HC2 := Lib.hid (rCheck C D lo up q w1 (HQ.out.keep (Keep.of hb1 (by omega))) (by omega) hqn hqd)
  have HB1 := Lib.hid (And.intro (hb4.trans (hb1.mono (by omega))) (And.intro hr3 hr4))
  clear hs4 hb4 hc2 hc3 hc4 hr2 hr3 hr4 hb1
  go_wp2_with (first | (go_at_call 116; refine HC2.out.mono ?_; rintro e w2 ⟨rfl, hb2⟩))
  have hs2 := hb2.size
  refine (HF.out w2 (HB1.out.1.trans (hb2.mono (by omega))) (by omega)).mono ?_
  rintro e w3 ⟨s, E, l, l', F, m, m', rfl, hR, hK⟩
  obtain ⟨_, hr3, hr4⟩ := HB1.out
  have hr3' := (hK (w.heap.size + 2) (by omega) (by omega)).trans ((hb2.block (w.heap.size + 2) (by omega)).trans hr3)
  have hr4' := (hK (w.heap.size + 3) (by omega) (by omega)).trans ((hb2.block (w.heap.size + 3) (by omega)).trans hr4)
  have e0 : w3.cell? ⟨w.heap.size + 1 + 1, 0, none⟩ = some (.bool false) := by rw [cell_of_cells hr3']; rfl
  have e1 : w3.cell? ⟨w.heap.size + 1 + 1, 1, none⟩ = some (.slice none 0 0) := by rw [cell_of_cells hr3']; rfl
  have e2 : w3.cell? ⟨w.heap.size + 1 + 1, 2, none⟩ = some (.slice none 0 0) := by rw [cell_of_cells hr3']; rfl
  have e3 : w3.cell? ⟨w.heap.size + 1 + 1 + 1, 0, none⟩ = some (.int .i64 0) := by rw [cell_of_cells hr4']; rfl
  have f0 : w3.frozen? ⟨w.heap.size + 1 + 1, 0, none⟩ = false := free_of_cells hr3' 0
  have f1 : w3.frozen? ⟨w.heap.size + 1 + 1, 1, none⟩ = false := free_of_cells hr3' 1
  have f2 : w3.frozen? ⟨w.heap.size + 1 + 1, 2, none⟩ = false := free_of_cells hr3' 2
  have f3 : w3.frozen? ⟨w.heap.size + 1 + 1 + 1, 0, none⟩ = false := free_of_cells hr4' 0
  have HR3 := Lib.hid (And.intro hr3' hr4')
  clear hr3 hr4 hr3' hr4' hK
  go_wp2_with (fail)
  refine leaves_cons (f := 149) (args := #[.pointer (some ⟨w.heap.size + 1 + 1, 0, none⟩), .pointer (some ⟨w.heap.size + 1 + 1 + 1, 0, none⟩)]) (by simp) (by simp [go_sem]) ?_
  refine (rIdle _ _ _).mono ?_
  rintro e u' w'' ⟨rfl, rfl, rfl⟩
  have hh : (((((w3.setCell ⟨w.heap.size + 1 + 1, 0, none⟩ (.bool s)).setCell ⟨w.heap.size + 1 + 1, 1, none⟩ (.slice E l l')).setCell ⟨w.heap.size + 1 + 1, 2, none⟩ (.slice F m m')).setCell ⟨w.heap.size + 1 + 1 + 1, 0, none⟩ (.int .i64 0))).heap[w.heap.size + 2]? = some (.cells #[.bool s, .slice E l l', .slice F m m'] 26 (0, 0)) := by
    rw [Below.heap_setCell _ _ _ _ (by show w.heap.size + 2 ≠ w.heap.size + 1 + 1 + 1; omega)]
    exact heap_set_three HR3.out.1 _ _ _
  have hh2 : (((((w3.setCell ⟨w.heap.size + 1 + 1, 0, none⟩ (.bool s)).setCell ⟨w.heap.size + 1 + 1, 1, none⟩ (.slice E l l')).setCell ⟨w.heap.size + 1 + 1, 2, none⟩ (.slice F m m')).setCell ⟨w.heap.size + 1 + 1 + 1, 0, none⟩ (.int .i64 0))).heap[w.heap.size + 3]? = some (.cells #[.int .i64 0] 27 (0, 0)) := by
    refine heap_set_cell (C := #[.int .i64 0]) ?_ 0 (.int .i64 0)
    rw [Below.heap_setCell _ _ _ _ (by show w.heap.size + 1 + 1 + 1 ≠ w.heap.size + 1 + 1; omega), Below.heap_setCell _ _ _ _ (by show w.heap.size + 1 + 1 + 1 ≠ w.heap.size + 1 + 1; omega), Below.heap_setCell _ _ _ _ (by show w.heap.size + 1 + 1 + 1 ≠ w.heap.size + 1 + 1; omega)]
    exact HR3.out.2
  have hcc := (cell_of_cells hh2 0).trans (show (#[Value.int .i64 0] : Array Value)[0]? = some (.int .i64 0) from rfl)
  exact ⟨_, results_pair (p := 6) (p' := 7) rfl _ _ (w.heap.size + 2) (w.heap.size + 3) _ _ _ _ (.int .i64 0) rfl hh rfl rfl rfl rfl (by simp [loadVar, go_sem, hcc]), s, E, l, l', F, m, m', w3, rfl, hR, rfl⟩
set_option maxRecDepth 100000 in
set_option maxHeartbeats 1600000 in
theorem rReckonedDiv (x y : Value) (A B C D : Option Addr) (lo up : Nat) (p q : Rat) (w : World) (R : Bool → Option Addr → Nat → Nat → Option Addr → Nat → Nat → World → Prop)
    (hp : RatIn lo up w A B p) (hq : RatIn lo up w C D q) (hu : up ≤ w.heap.size) (hpn : (qn p).length ≤ 4096) (hpd : (qd p).length ≤ 4096) (hqn : (qn q).length ≤ 4096) (hqd : (qd q).length ≤ 4096)
    (hF : ∀ w0, Below w.heap.size w w0 → w.heap.size + 4 ≤ w0.heap.size → Calls Tryz.prog 189 #[x, y] w0 fun e w' => ∃ s E l l' F m m', e = .returned (.agg #[.bool s, .slice E l l', .slice F m m']) ∧ R s E l l' F m m' w' ∧ Keep w.heap.size (w.heap.size + 4) w0 w') :
    Calls Tryz.prog 90 #[qv A B p, qv C D q, .func (.func 189) #[] #[x, y]] w fun e w' => ∃ s E l l' F m m' w1, e = .returned (.tuple #[.agg #[.bool s, .slice E l l', .slice F m m'], .int .i64 0]) ∧ R s E l l' F m m' w1 ∧
      w' = (((w1.setCell ⟨w.heap.size + 2, 0, none⟩ (.bool s)).setCell ⟨w.heap.size + 2, 1, none⟩ (.slice E l l')).setCell ⟨w.heap.size + 2, 2, none⟩ (.slice F m m')).setCell ⟨w.heap.size + 3, 0, none⟩ (.int .i64 0) := by
  have hs4 : ((((w.alloc (.cells #[.bool (decide (p.num < 0)), .slice A (qn p).length (qn p).length, .slice B (qd p).length (qd p).length] 26)).alloc (.cells #[.bool (decide (q.num < 0)), .slice C (qn q).length (qn q).length, .slice D (qd q).length (qd q).length] 26)).alloc (.cells #[.bool false, .slice none 0 0, .slice none 0 0] 26)).alloc (.cells #[.int .i64 0] 27)).heap.size = w.heap.size + 4 := by simp only [World.size_alloc]
  have hk4 : Keep lo up w ((((w.alloc (.cells #[.bool (decide (p.num < 0)), .slice A (qn p).length (qn p).length, .slice B (qd p).length (qd p).length] 26)).alloc (.cells #[.bool (decide (q.num < 0)), .slice C (qn q).length (qn q).length, .slice D (qd q).length (qd q).length] 26)).alloc (.cells #[.bool false, .slice none 0 0, .slice none 0 0] 26)).alloc (.cells #[.int .i64 0] 27)) := ((((Keep.refl lo up w).alloc hu _).alloc (by simp only [World.size_alloc]; omega) _).alloc (by simp only [World.size_alloc]; omega) _).alloc (by simp only [World.size_alloc]; omega) _
  have hb4 : Below w.heap.size w ((((w.alloc (.cells #[.bool (decide (p.num < 0)), .slice A (qn p).length (qn p).length, .slice B (qd p).length (qd p).length] 26)).alloc (.cells #[.bool (decide (q.num < 0)), .slice C (qn q).length (qn q).length, .slice D (qd q).length (qd q).length] 26)).alloc (.cells #[.bool false, .slice none 0 0, .slice none 0 0] 26)).alloc (.cells #[.int .i64 0] 27)) := ((((Below.refl w.heap.size w).alloc (Nat.le_refl _) _).alloc (by simp only [World.size_alloc]; omega) _).alloc (by simp only [World.size_alloc]; omega) _).alloc (by simp only [World.size_alloc]; omega) _
  have hc2 : ((((w.alloc (.cells #[.bool (decide (p.num < 0)), .slice A (qn p).length (qn p).length, .slice B (qd p).length (qd p).length] 26)).alloc (.cells #[.bool (decide (q.num < 0)), .slice C (qn q).length (qn q).length, .slice D (qd q).length (qd q).length] 26)).alloc (.cells #[.bool false, .slice none 0 0, .slice none 0 0] 26)).alloc (.cells #[.int .i64 0] 27)).heap[w.heap.size + 1]? = some (.cells #[.bool (decide (q.num < 0)), .slice C (qn q).length (qn q).length, .slice D (qd q).length (qd q).length] 26 (0, 0)) := by
    rw [alloc_heap_at, if_neg (by simp only [World.size_alloc]; omega), alloc_heap_at, if_neg (by simp only [World.size_alloc]; omega), alloc_heap_at, if_pos (by simp only [World.size_alloc])]
  have hc3 : ((((w.alloc (.cells #[.bool (decide (p.num < 0)), .slice A (qn p).length (qn p).length, .slice B (qd p).length (qd p).length] 26)).alloc (.cells #[.bool (decide (q.num < 0)), .slice C (qn q).length (qn q).length, .slice D (qd q).length (qd q).length] 26)).alloc (.cells #[.bool false, .slice none 0 0, .slice none 0 0] 26)).alloc (.cells #[.int .i64 0] 27)).heap[w.heap.size + 2]? = some (.cells #[.bool false, .slice none 0 0, .slice none 0 0] 26 (0, 0)) := by
    rw [alloc_heap_at, if_neg (by simp only [World.size_alloc]; omega), alloc_heap_at, if_pos (by simp only [World.size_alloc])]
  have hc4 : ((((w.alloc (.cells #[.bool (decide (p.num < 0)), .slice A (qn p).length (qn p).length, .slice B (qd p).length (qd p).length] 26)).alloc (.cells #[.bool (decide (q.num < 0)), .slice C (qn q).length (qn q).length, .slice D (qd q).length (qd q).length] 26)).alloc (.cells #[.bool false, .slice none 0 0, .slice none 0 0] 26)).alloc (.cells #[.int .i64 0] 27)).heap[w.heap.size + 3]? = some (.cells #[.int .i64 0] 27 (0, 0)) := by
    rw [alloc_heap_at, if_pos (by simp only [World.size_alloc])]
  have HC1 := Lib.hid (rCheck A B lo up p _ (hp.keep hk4) (by rw [hs4]; omega) hpn hpd)
  have HS := Lib.hid (And.intro hs4 (And.intro hb4 (And.intro hc2 (And.intro hc3 hc4))))
  have HQ := Lib.hid (hq.keep hk4)
  have HF := Lib.hid hF
  clear hF hp hq hs4 hb4 hc2 hc3 hc4 hk4
  have hmf : ∀ (fn : Fn) (first cap : Array Value) (w : World), (Instr.makeFunc fn first cap).run Tryz.prog w = .ok (.func fn first cap) w := fun _ _ _ _ => rfl
  unfold qv
  go_enter_defers Tryz.func90, Tryz.ntmps90
  go_wp2_with (fail)
  refine HC1.out.mono ?_
  rintro e w1 ⟨rfl, hb1⟩
  obtain ⟨hs4, hb4, hc2, hc3, hc4⟩ := HS.out
  rw [hs4] at hb1
  have hs1 := hb1.size
  rw [hs4] at hs1
  have hr2 := (hb1.block (w.heap.size + 1) (by omega)).trans hc2
  have hr3 := (hb1.block (w.heap.size + 2) (by omega)).trans hc3
  have hr4 := (hb1.block (w.heap.size + 3) (by omega)).trans hc4
  have d0 : w1.cell? ⟨w.heap.size + 1, 0, none⟩ = some (.bool (decide (q.num < 0))) := by rw [cell_of_cells hr2]; rfl
  have d1 : w1.cell? ⟨w.heap.size + 1, 1, none⟩ = some (.slice C (qn q).length (qn q).length) := by rw [cell_of_cells hr2]; rfl
  have d2 : w1.cell? ⟨w.heap.size + 1, 2, none⟩ = some (.slice D (qd q).length (qd q).length) := by rw [cell_of_cells hr2]; rfl
  have HC2 := Lib.hid (rCheck C D lo up q w1 (HQ.out.keep (Keep.of hb1 (by omega))) (by omega) hqn hqd)
  have HB1 := Lib.hid (And.intro (hb4.trans (hb1.mono (by omega))) (And.intro hr3 hr4))
  clear hs4 hb4 hc2 hc3 hc4 hr2 hr3 hr4 hb1
  go_wp2_with (first | (go_at_call 116; refine HC2.out.mono ?_; rintro e w2 ⟨rfl, hb2⟩))
  have hs2 := hb2.size
  refine (HF.out w2 (HB1.out.1.trans (hb2.mono (by omega))) (by omega)).mono ?_
  rintro e w3 ⟨s, E, l, l', F, m, m', rfl, hR, hK⟩
  obtain ⟨_, hr3, hr4⟩ := HB1.out
  have hr3' := (hK (w.heap.size + 2) (by omega) (by omega)).trans ((hb2.block (w.heap.size + 2) (by omega)).trans hr3)
  have hr4' := (hK (w.heap.size + 3) (by omega) (by omega)).trans ((hb2.block (w.heap.size + 3) (by omega)).trans hr4)
  have e0 : w3.cell? ⟨w.heap.size + 1 + 1, 0, none⟩ = some (.bool false) := by rw [cell_of_cells hr3']; rfl
  have e1 : w3.cell? ⟨w.heap.size + 1 + 1, 1, none⟩ = some (.slice none 0 0) := by rw [cell_of_cells hr3']; rfl
  have e2 : w3.cell? ⟨w.heap.size + 1 + 1, 2, none⟩ = some (.slice none 0 0) := by rw [cell_of_cells hr3']; rfl
  have e3 : w3.cell? ⟨w.heap.size + 1 + 1 + 1, 0, none⟩ = some (.int .i64 0) := by rw [cell_of_cells hr4']; rfl
  have f0 : w3.frozen? ⟨w.heap.size + 1 + 1, 0, none⟩ = false := free_of_cells hr3' 0
  have f1 : w3.frozen? ⟨w.heap.size + 1 + 1, 1, none⟩ = false := free_of_cells hr3' 1
  have f2 : w3.frozen? ⟨w.heap.size + 1 + 1, 2, none⟩ = false := free_of_cells hr3' 2
  have f3 : w3.frozen? ⟨w.heap.size + 1 + 1 + 1, 0, none⟩ = false := free_of_cells hr4' 0
  have HR3 := Lib.hid (And.intro hr3' hr4')
  clear hr3 hr4 hr3' hr4' hK
  go_wp2_with (fail)
  refine leaves_cons (f := 149) (args := #[.pointer (some ⟨w.heap.size + 1 + 1, 0, none⟩), .pointer (some ⟨w.heap.size + 1 + 1 + 1, 0, none⟩)]) (by simp) (by simp [go_sem]) ?_
  refine (rIdle _ _ _).mono ?_
  rintro e u' w'' ⟨rfl, rfl, rfl⟩
  have hh : (((((w3.setCell ⟨w.heap.size + 1 + 1, 0, none⟩ (.bool s)).setCell ⟨w.heap.size + 1 + 1, 1, none⟩ (.slice E l l')).setCell ⟨w.heap.size + 1 + 1, 2, none⟩ (.slice F m m')).setCell ⟨w.heap.size + 1 + 1 + 1, 0, none⟩ (.int .i64 0))).heap[w.heap.size + 2]? = some (.cells #[.bool s, .slice E l l', .slice F m m'] 26 (0, 0)) := by
    rw [Below.heap_setCell _ _ _ _ (by show w.heap.size + 2 ≠ w.heap.size + 1 + 1 + 1; omega)]
    exact heap_set_three HR3.out.1 _ _ _
  have hh2 : (((((w3.setCell ⟨w.heap.size + 1 + 1, 0, none⟩ (.bool s)).setCell ⟨w.heap.size + 1 + 1, 1, none⟩ (.slice E l l')).setCell ⟨w.heap.size + 1 + 1, 2, none⟩ (.slice F m m')).setCell ⟨w.heap.size + 1 + 1 + 1, 0, none⟩ (.int .i64 0))).heap[w.heap.size + 3]? = some (.cells #[.int .i64 0] 27 (0, 0)) := by
    refine heap_set_cell (C := #[.int .i64 0]) ?_ 0 (.int .i64 0)
    rw [Below.heap_setCell _ _ _ _ (by show w.heap.size + 1 + 1 + 1 ≠ w.heap.size + 1 + 1; omega), Below.heap_setCell _ _ _ _ (by show w.heap.size + 1 + 1 + 1 ≠ w.heap.size + 1 + 1; omega), Below.heap_setCell _ _ _ _ (by show w.heap.size + 1 + 1 + 1 ≠ w.heap.size + 1 + 1; omega)]
    exact HR3.out.2
  have hcc := (cell_of_cells hh2 0).trans (show (#[Value.int .i64 0] : Array Value)[0]? = some (.int .i64 0) from rfl)
  exact ⟨_, results_pair (p := 6) (p' := 7) rfl _ _ (w.heap.size + 2) (w.heap.size + 3) _ _ _ _ (.int .i64 0) rfl hh rfl rfl rfl rfl (by simp [loadVar, go_sem, hcc]), s, E, l, l', F, m, m', w3, rfl, hR, rfl⟩
set_option maxRecDepth 100000 in
set_option maxHeartbeats 1600000 in
theorem rReckonedCmp (x y z : Value) (A B C D : Option Addr) (lo up : Nat) (p q : Rat) (w : World) (R : Bool → Option Addr → Nat → Nat → Option Addr → Nat → Nat → World → Prop)
    (hp : RatIn lo up w A B p) (hq : RatIn lo up w C D q) (hu : up ≤ w.heap.size) (hpn : (qn p).length ≤ 4096) (hpd : (qd p).length ≤ 4096) (hqn : (qn q).length ≤ 4096) (hqd : (qd q).length ≤ 4096)
    (hF : ∀ w0, Below w.heap.size w w0 → w.heap.size + 4 ≤ w0.heap.size → Calls Tryz.prog 264 #[x, y, z] w0 fun e w' => ∃ s E l l' F m m', e = .returned (.agg #[.bool s, .slice E l l', .slice F m m']) ∧ R s E l l' F m m' w' ∧ Keep w.heap.size (w.heap.size + 4) w0 w') :
    Calls Tryz.prog 90 #[qv A B p, qv C D q, .func (.func 264) #[] #[x, y, z]] w fun e w' => ∃ s E l l' F m m' w1, e = .returned (.tuple #[.agg #[.bool s, .slice E l l', .slice F m m'], .int .i64 0]) ∧ R s E l l' F m m' w1 ∧
      w' = (((w1.setCell ⟨w.heap.size + 2, 0, none⟩ (.bool s)).setCell ⟨w.heap.size + 2, 1, none⟩ (.slice E l l')).setCell ⟨w.heap.size + 2, 2, none⟩ (.slice F m m')).setCell ⟨w.heap.size + 3, 0, none⟩ (.int .i64 0) := by
  have hs4 : ((((w.alloc (.cells #[.bool (decide (p.num < 0)), .slice A (qn p).length (qn p).length, .slice B (qd p).length (qd p).length] 26)).alloc (.cells #[.bool (decide (q.num < 0)), .slice C (qn q).length (qn q).length, .slice D (qd q).length (qd q).length] 26)).alloc (.cells #[.bool false, .slice none 0 0, .slice none 0 0] 26)).alloc (.cells #[.int .i64 0] 27)).heap.size = w.heap.size + 4 := by simp only [World.size_alloc]
  have hk4 : Keep lo up w ((((w.alloc (.cells #[.bool (decide (p.num < 0)), .slice A (qn p).length (qn p).length, .slice B (qd p).length (qd p).length] 26)).alloc (.cells #[.bool (decide (q.num < 0)), .slice C (qn q).length (qn q).length, .slice D (qd q).length (qd q).length] 26)).alloc (.cells #[.bool false, .slice none 0 0, .slice none 0 0] 26)).alloc (.cells #[.int .i64 0] 27)) := ((((Keep.refl lo up w).alloc hu _).alloc (by simp only [World.size_alloc]; omega) _).alloc (by simp only [World.size_alloc]; omega) _).alloc (by simp only [World.size_alloc]; omega) _
  have hb4 : Below w.heap.size w ((((w.alloc (.cells #[.bool (decide (p.num < 0)), .slice A (qn p).length (qn p).length, .slice B (qd p).length (qd p).length] 26)).alloc (.cells #[.bool (decide (q.num < 0)), .slice C (qn q).length (qn q).length, .slice D (qd q).length (qd q).length] 26)).alloc (.cells #[.bool false, .slice none 0 0, .slice none 0 0] 26)).alloc (.cells #[.int .i64 0] 27)) := ((((Below.refl w.heap.size w).alloc (Nat.le_refl _) _).alloc (by simp only [World.size_alloc]; omega) _).alloc (by simp only [World.size_alloc]; omega) _).alloc (by simp only [World.size_alloc]; omega) _
  have hc2 : ((((w.alloc (.cells #[.bool (decide (p.num < 0)), .slice A (qn p).length (qn p).length, .slice B (qd p).length (qd p).length] 26)).alloc (.cells #[.bool (decide (q.num < 0)), .slice C (qn q).length (qn q).length, .slice D (qd q).length (qd q).length] 26)).alloc (.cells #[.bool false, .slice none 0 0, .slice none 0 0] 26)).alloc (.cells #[.int .i64 0] 27)).heap[w.heap.size + 1]? = some (.cells #[.bool (decide (q.num < 0)), .slice C (qn q).length (qn q).length, .slice D (qd q).length (qd q).length] 26 (0, 0)) := by
    rw [alloc_heap_at, if_neg (by simp only [World.size_alloc]; omega), alloc_heap_at, if_neg (by simp only [World.size_alloc]; omega), alloc_heap_at, if_pos (by simp only [World.size_alloc])]
  have hc3 : ((((w.alloc (.cells #[.bool (decide (p.num < 0)), .slice A (qn p).length (qn p).length, .slice B (qd p).length (qd p).length] 26)).alloc (.cells #[.bool (decide (q.num < 0)), .slice C (qn q).length (qn q).length, .slice D (qd q).length (qd q).length] 26)).alloc (.cells #[.bool false, .slice none 0 0, .slice none 0 0] 26)).alloc (.cells #[.int .i64 0] 27)).heap[w.heap.size + 2]? = some (.cells #[.bool false, .slice none 0 0, .slice none 0 0] 26 (0, 0)) := by
    rw [alloc_heap_at, if_neg (by simp only [World.size_alloc]; omega), alloc_heap_at, if_pos (by simp only [World.size_alloc])]
  have hc4 : ((((w.alloc (.cells #[.bool (decide (p.num < 0)), .slice A (qn p).length (qn p).length, .slice B (qd p).length (qd p).length] 26)).alloc (.cells #[.bool (decide (q.num < 0)), .slice C (qn q).length (qn q).length, .slice D (qd q).length (qd q).length] 26)).alloc (.cells #[.bool false, .slice none 0 0, .slice none 0 0] 26)).alloc (.cells #[.int .i64 0] 27)).heap[w.heap.size + 3]? = some (.cells #[.int .i64 0] 27 (0, 0)) := by
    rw [alloc_heap_at, if_pos (by simp only [World.size_alloc])]
  have HC1 := Lib.hid (rCheck A B lo up p _ (hp.keep hk4) (by rw [hs4]; omega) hpn hpd)
  have HS := Lib.hid (And.intro hs4 (And.intro hb4 (And.intro hc2 (And.intro hc3 hc4))))
  have HQ := Lib.hid (hq.keep hk4)
  have HF := Lib.hid hF
  clear hF hp hq hs4 hb4 hc2 hc3 hc4 hk4
  have hmf : ∀ (fn : Fn) (first cap : Array Value) (w : World), (Instr.makeFunc fn first cap).run Tryz.prog w = .ok (.func fn first cap) w := fun _ _ _ _ => rfl
  unfold qv
  go_enter_defers Tryz.func90, Tryz.ntmps90
  go_wp2_with (fail)
  refine HC1.out.mono ?_
  rintro e w1 ⟨rfl, hb1⟩
  obtain ⟨hs4, hb4, hc2, hc3, hc4⟩ := HS.out
  rw [hs4] at hb1
  have hs1 := hb1.size
  rw [hs4] at hs1
  have hr2 := (hb1.block (w.heap.size + 1) (by omega)).trans hc2
  have hr3 := (hb1.block (w.heap.size + 2) (by omega)).trans hc3
  have hr4 := (hb1.block (w.heap.size + 3) (by omega)).trans hc4
  have d0 : w1.cell? ⟨w.heap.size + 1, 0, none⟩ = some (.bool (decide (q.num < 0))) := by rw [cell_of_cells hr2]; rfl
  have d1 : w1.cell? ⟨w.heap.size + 1, 1, none⟩ = some (.slice C (qn q).length (qn q).length) := by rw [cell_of_cells hr2]; rfl
  have d2 : w1.cell? ⟨w.heap.size + 1, 2, none⟩ = some (.slice D (qd q).length (qd q).length) := by rw [cell_of_cells hr2]; rfl
  have HC2 := Lib.hid (rCheck C D lo up q w1 (HQ.out.keep (Keep.of hb1 (by omega))) (by omega) hqn hqd)
  have HB1 := Lib.hid (And.intro (hb4.trans (hb1.mono (by omega))) (And.intro hr3 hr4))
  clear hs4 hb4 hc2 hc3 hc4 hr2 hr3 hr4 hb1
  go_wp2_with (first | (go_at_call 116; refine HC2.out.mono ?_; rintro e w2 ⟨rfl, hb2⟩))
  have hs2 := hb2.size
  refine (HF.out w2 (HB1.out.1.trans (hb2.mono (by omega))) (by omega)).mono ?_
  rintro e w3 ⟨s, E, l, l', F, m, m', rfl, hR, hK⟩
  obtain ⟨_, hr3, hr4⟩ := HB1.out
  have hr3' := (hK (w.heap.size + 2) (by omega) (by omega)).trans ((hb2.block (w.heap.size + 2) (by omega)).trans hr3)
  have hr4' := (hK (w.heap.size + 3) (by omega) (by omega)).trans ((hb2.block (w.heap.size + 3) (by omega)).trans hr4)
  have e0 : w3.cell? ⟨w.heap.size + 1 + 1, 0, none⟩ = some (.bool false) := by rw [cell_of_cells hr3']; rfl
  have e1 : w3.cell? ⟨w.heap.size + 1 + 1, 1, none⟩ = some (.slice none 0 0) := by rw [cell_of_cells hr3']; rfl
  have e2 : w3.cell? ⟨w.heap.size + 1 + 1, 2, none⟩ = some (.slice none 0 0) := by rw [cell_of_cells hr3']; rfl
  have e3 : w3.cell? ⟨w.heap.size + 1 + 1 + 1, 0, none⟩ = some (.int .i64 0) := by rw [cell_of_cells hr4']; rfl
  have f0 : w3.frozen? ⟨w.heap.size + 1 + 1, 0, none⟩ = false := free_of_cells hr3' 0
  have f1 : w3.frozen? ⟨w.heap.size + 1 + 1, 1, none⟩ = false := free_of_cells hr3' 1
  have f2 : w3.frozen? ⟨w.heap.size + 1 + 1, 2, none⟩ = false := free_of_cells hr3' 2
  have f3 : w3.frozen? ⟨w.heap.size + 1 + 1 + 1, 0, none⟩ = false := free_of_cells hr4' 0
  have HR3 := Lib.hid (And.intro hr3' hr4')
  clear hr3 hr4 hr3' hr4' hK
  go_wp2_with (fail)
  refine leaves_cons (f := 149) (args := #[.pointer (some ⟨w.heap.size + 1 + 1, 0, none⟩), .pointer (some ⟨w.heap.size + 1 + 1 + 1, 0, none⟩)]) (by simp) (by simp [go_sem]) ?_
  refine (rIdle _ _ _).mono ?_
  rintro e u' w'' ⟨rfl, rfl, rfl⟩
  have hh : (((((w3.setCell ⟨w.heap.size + 1 + 1, 0, none⟩ (.bool s)).setCell ⟨w.heap.size + 1 + 1, 1, none⟩ (.slice E l l')).setCell ⟨w.heap.size + 1 + 1, 2, none⟩ (.slice F m m')).setCell ⟨w.heap.size + 1 + 1 + 1, 0, none⟩ (.int .i64 0))).heap[w.heap.size + 2]? = some (.cells #[.bool s, .slice E l l', .slice F m m'] 26 (0, 0)) := by
    rw [Below.heap_setCell _ _ _ _ (by show w.heap.size + 2 ≠ w.heap.size + 1 + 1 + 1; omega)]
    exact heap_set_three HR3.out.1 _ _ _
  have hh2 : (((((w3.setCell ⟨w.heap.size + 1 + 1, 0, none⟩ (.bool s)).setCell ⟨w.heap.size + 1 + 1, 1, none⟩ (.slice E l l')).setCell ⟨w.heap.size + 1 + 1, 2, none⟩ (.slice F m m')).setCell ⟨w.heap.size + 1 + 1 + 1, 0, none⟩ (.int .i64 0))).heap[w.heap.size + 3]? = some (.cells #[.int .i64 0] 27 (0, 0)) := by
    refine heap_set_cell (C := #[.int .i64 0]) ?_ 0 (.int .i64 0)
    rw [Below.heap_setCell _ _ _ _ (by show w.heap.size + 1 + 1 + 1 ≠ w.heap.size + 1 + 1; omega), Below.heap_setCell _ _ _ _ (by show w.heap.size + 1 + 1 + 1 ≠ w.heap.size + 1 + 1; omega), Below.heap_setCell _ _ _ _ (by show w.heap.size + 1 + 1 + 1 ≠ w.heap.size + 1 + 1; omega)]
    exact HR3.out.2
  have hcc := (cell_of_cells hh2 0).trans (show (#[Value.int .i64 0] : Array Value)[0]? = some (.int .i64 0) from rfl)
  exact ⟨_, results_pair (p := 6) (p' := 7) rfl _ _ (w.heap.size + 2) (w.heap.size + 3) _ _ _ _ (.int .i64 0) rfl hh rfl rfl rfl rfl (by simp [loadVar, go_sem, hcc]), s, E, l, l', F, m, m', w3, rfl, hR, rfl⟩
end Go.Proofs.YtfpofmifmapmfaaGreatDoor

namespace Go.Proofs.YtfpofmifmapmfaaGreatDoor
open Go.RowKit Go.Proofs.YtfpofmifmapmfaaGreatDoorW.PrintLast
set_option linter.unusedVariables false
set_option linter.unusedSimpArgs false
def Sz (n : Nat) (q : Rat) : Prop := ((q.num.natAbs : Nat) : Int) < 2 ^ n ∧ ((q.den : Nat) : Int) < 2 ^ n
theorem Sz.mono {m n : Nat} {q : Rat} (h : Sz m q) (hm : m ≤ n) : Sz n q := by
  have := ipow_le hm
  exact ⟨by have := h.1; omega, by have := h.2; omega⟩
theorem Sz.neg {n : Nat} {q : Rat} (h : Sz n q) : Sz n (-q) := by
  unfold Sz; rw [Rat.neg_num, Rat.neg_den, Int.natAbs_neg]; exact h
theorem sz_quo {n : Nat} {neg : Bool} {x y : Int} (hx : 0 ≤ x) (hy : 0 < y) (h1 : x < 2 ^ n) (h2 : y < 2 ^ n) : Sz n (quo neg x y) := by
  obtain ⟨p1, p2, _⟩ := quo_parts neg hx hy
  have a := Int.ediv_le_self (b := ((Int.gcd x y : Nat) : Int)) hx
  have b := Int.ediv_le_self (b := ((Int.gcd x y : Nat) : Int)) (Int.le_of_lt hy)
  exact ⟨by omega, by omega⟩
theorem mul_lt_pow {x y : Int} {m n : Nat} (hx : 0 ≤ x) (hy : 0 ≤ y) (h1 : x < 2 ^ m) (h2 : y < 2 ^ n) : x * y < 2 ^ (m + n) := by
  rw [Int.pow_add]
  have c : (0:Int) < 2 ^ m := Int.pow_pos (by decide)
  calc x * y ≤ 2 ^ m * y := Int.mul_le_mul_of_nonneg_right (by omega) hy
    _ < 2 ^ m * 2 ^ n := Int.mul_lt_mul_of_pos_left h2 c
theorem divInt_pos (x : Int) {y : Int} (hy : 0 < y) : Rat.divInt x y = mkRat x y.toNat := by
  obtain ⟨n, rfl⟩ := Int.eq_ofNat_of_zero_le (Int.le_of_lt hy)
  simp [Rat.divInt_ofNat]
theorem add_is (a b : Rat) : a + b = mkRat (a.num * b.den + b.num * a.den) (a.den * b.den) := by
  rw [Rat.add_def, Rat.normalize_eq_mkRat]
theorem abs_mul_nat (x : Int) (d : Nat) : ((x.natAbs : Nat) : Int) * (d : Int) = ((x * (d : Int)).natAbs : Nat) := by
  rw [Int.natAbs_mul, Int.natAbs_natCast, Int.natCast_mul]
theorem neg_mul_nat {x : Int} {d : Nat} (hd : 0 < d) : (x < 0 ↔ x * (d : Int) < 0) := by
  constructor
  · intro h; exact Int.mul_neg_of_neg_of_pos h (by omega)
  · intro h
    by_cases h0 : x < 0
    · exact h0
    · have := Int.mul_nonneg (show 0 ≤ x by omega) (show (0:Int) ≤ d by omega); omega
theorem quo_of {neg : Bool} {x : Int} {y : Int} {P : Int} {D : Nat} (h : (if neg then -x else x) = P) (hy : y = (D : Int)) : quo neg x y = mkRat P D := by
  unfold quo; rw [h, hy, Int.toNat_natCast]
def an (a b : Rat) : Int := (a.num.natAbs : Nat) * (b.den : Nat)
def dd (a b : Rat) : Int := (a.den : Nat) * (b.den : Nat)
theorem an_abs (a b : Rat) : an a b = ((a.num * b.den).natAbs : Nat) := abs_mul_nat _ _
theorem an_nonneg (a b : Rat) : 0 ≤ an a b := by rw [an_abs]; omega
theorem dd_pos (a b : Rat) : 0 < dd a b := Int.mul_pos (by have := a.den_pos; omega) (by have := b.den_pos; omega)
theorem an_zero (a b : Rat) : an a b = 0 ↔ a.num = 0 := by
  rw [an_abs]
  have := b.den_pos
  constructor
  · intro h
    have h2 : a.num * b.den = 0 := by omega
    rcases Int.mul_eq_zero.1 h2 with e | e
    · exact e
    · omega
  · intro h; rw [h, Int.zero_mul]; rfl
theorem quo_add_same (a b : Rat) (h : (decide (a.num < 0) == decide (b.num < 0)) = true ∨ an a b = 0 ∨ an b a = 0) : quo (decide (a.num < 0) || decide (b.num < 0)) (an a b + an b a) (dd a b) = a + b := by
  rw [add_is]
  refine quo_of ?_ (by unfold dd; rw [Int.natCast_mul])
  have h1 := neg_mul_nat (x := a.num) b.den_pos
  have h2 := neg_mul_nat (x := b.num) a.den_pos
  rw [an_abs, an_abs] at *
  generalize a.num * (b.den : Int) = P at *
  generalize b.num * (a.den : Int) = Q at *
  by_cases x1 : a.num < 0 <;> by_cases x2 : b.num < 0 <;> simp [x1, x2] at h ⊢ <;> omega
theorem quo_add_less (a b : Rat) (h : (decide (a.num < 0) == decide (b.num < 0)) = false) (h2 : an a b < an b a) : quo (decide (b.num < 0)) (an b a - an a b) (dd a b) = a + b := by
  rw [add_is]
  refine quo_of ?_ (by unfold dd; rw [Int.natCast_mul])
  have h1 := neg_mul_nat (x := a.num) b.den_pos
  have h2 := neg_mul_nat (x := b.num) a.den_pos
  rw [an_abs, an_abs] at *
  generalize a.num * (b.den : Int) = P at *
  generalize b.num * (a.den : Int) = Q at *
  by_cases x1 : a.num < 0 <;> by_cases x2 : b.num < 0 <;> simp [x1, x2] at h ⊢ <;> omega
theorem quo_add_more (a b : Rat) (h : (decide (a.num < 0) == decide (b.num < 0)) = false) (h2 : an b a ≤ an a b) : quo (decide (a.num < 0)) (an a b - an b a) (dd a b) = a + b := by
  rw [add_is]
  refine quo_of ?_ (by unfold dd; rw [Int.natCast_mul])
  have h1 := neg_mul_nat (x := a.num) b.den_pos
  have h2 := neg_mul_nat (x := b.num) a.den_pos
  rw [an_abs, an_abs] at *
  generalize a.num * (b.den : Int) = P at *
  generalize b.num * (a.den : Int) = Q at *
  by_cases x1 : a.num < 0 <;> by_cases x2 : b.num < 0 <;> simp [x1, x2] at h ⊢ <;> omega
theorem an_lt {m n : Nat} {a b : Rat} (ha : Sz m a) (hb : Sz n b) : an a b < 2 ^ (m + n) := mul_lt_pow (by omega) (by omega) ha.1 hb.2
theorem dd_lt {m n : Nat} {a b : Rat} (ha : Sz m a) (hb : Sz n b) : dd a b < 2 ^ (m + n) := mul_lt_pow (by omega) (by omega) ha.2 hb.2
theorem Sz.add {m n : Nat} {a b : Rat} (ha : Sz m a) (hb : Sz n b) : Sz (m + n + 1) (a + b) := by
  have l1 := an_lt ha hb
  have l2 := an_lt hb ha
  have l3 := dd_lt ha hb
  have p1 := an_nonneg a b
  have p2 := an_nonneg b a
  rw [show n + m = m + n by omega] at l2
  have e : (2:Int) ^ (m + n + 1) = 2 ^ (m + n) + 2 ^ (m + n) := by rw [Int.pow_succ]; omega
  by_cases h : (decide (a.num < 0) == decide (b.num < 0)) = true
  · rw [← quo_add_same a b (Or.inl h)]
    exact sz_quo (by omega) (dd_pos a b) (by omega) (by omega)
  · have h := Bool.eq_false_iff.2 h
    by_cases h2 : an a b < an b a
    · rw [← quo_add_less a b h h2]; exact sz_quo (by omega) (dd_pos a b) (by omega) (by omega)
    · rw [← quo_add_more a b h (by omega)]; exact sz_quo (by omega) (dd_pos a b) (by omega) (by omega)
theorem Sz.sub {m n : Nat} {a b : Rat} (ha : Sz m a) (hb : Sz n b) : Sz (m + n + 1) (a - b) := by
  rw [Rat.sub_eq_add_neg]; exact ha.add hb.neg
theorem quo_div (p q : Rat) (hq : q.num ≠ 0) : quo (!(decide (p.num < 0) == decide (q.num < 0))) (an p q) ((p.den : Nat) * (q.num.natAbs : Nat) : Int) = p / q := by
  have hp := p.den_pos
  have hd : (0:Int) < (p.den : Nat) * (q.num.natAbs : Nat) := Int.mul_pos (by omega) (by omega)
  have e : p / q = Rat.divInt (p.num * q.den) (p.den * q.num) := by
    rw [Rat.div_def, Rat.inv_def]
    conv => lhs; lhs; rw [← Rat.num_divInt_den p]
    rw [Rat.divInt_mul_divInt]
  have h1 := neg_mul_nat (x := p.num) q.den_pos
  rw [e]
  unfold quo
  rw [← divInt_pos _ hd]
  by_cases h2 : q.num < 0
  · have a : ((q.num.natAbs : Nat) : Int) = -q.num := by omega
    rw [a, ← Rat.neg_divInt_neg (p.num * q.den), Int.mul_neg]
    congr 1
    rw [an_abs]
    by_cases h3 : p.num < 0 <;> simp [h2, h3] <;> generalize p.num * (q.den : Int) = P at * <;> omega
  · have a : ((q.num.natAbs : Nat) : Int) = q.num := by omega
    rw [a]
    congr 1
    rw [an_abs]
    by_cases h3 : p.num < 0 <;> simp [h2, h3] <;> generalize p.num * (q.den : Int) = P at * <;> omega
theorem Sz.div {m n : Nat} {a b : Rat} (ha : Sz m a) (hb : Sz n b) (h0 : b.num ≠ 0) : Sz (m + n) (a / b) := by
  rw [← quo_div a b h0]
  have hp := a.den_pos
  exact sz_quo (an_nonneg a b) (Int.mul_pos (by omega) (by omega)) (an_lt ha hb) (mul_lt_pow (by omega) (by omega) ha.2 hb.1)
def qcmp (a b : Rat) : Int := icmp (a.num * b.den) (b.num * a.den)
theorem qcmp_lt {a b : Rat} : qcmp a b = -1 ↔ a < b := by
  rw [Rat.lt_iff]; unfold qcmp icmp; split
  · simp [*]
  · split <;> simp [*]
theorem qcmp_eq {a b : Rat} : qcmp a b = 0 ↔ a = b := by
  unfold qcmp icmp
  constructor
  · intro h
    have e : a.num * b.den = b.num * a.den := by
      split at h
      · omega
      · split at h
        · assumption
        · omega
    have e1 : a ≤ b := by rw [Rat.le_iff]; omega
    have e2 : b ≤ a := by rw [Rat.le_iff]; omega
    exact Rat.le_antisymm e1 e2
  · rintro rfl; simp
theorem qcmp_gt {a b : Rat} : qcmp a b = 1 ↔ b < a := by
  rw [Rat.lt_iff]; unfold qcmp icmp; split
  · simp; omega
  · split
    · simp; omega
    · simp; omega
theorem qcmp_cases (a b : Rat) : (qcmp a b = -1 ∧ a < b) ∨ (qcmp a b = 0 ∧ a = b) ∨ (qcmp a b = 1 ∧ b < a) := by
  have h : qcmp a b = -1 ∨ qcmp a b = 0 ∨ qcmp a b = 1 := by unfold qcmp icmp; split <;> (try split) <;> simp
  rcases h with h | h | h
  · exact Or.inl ⟨h, qcmp_lt.1 h⟩
  · exact Or.inr (Or.inl ⟨h, qcmp_eq.1 h⟩)
  · exact Or.inr (Or.inr ⟨h, qcmp_gt.1 h⟩)
def qsgn (a : Rat) : Int := if a.num = 0 then 0 else if a.num < 0 then -1 else 1
theorem qcmp_of_sgn_lt {a b : Rat} (h : qsgn a < qsgn b) : qcmp a b = -1 := by
  have h1 := neg_mul_nat (x := a.num) b.den_pos
  have h2 := neg_mul_nat (x := b.num) a.den_pos
  have z1 := an_zero a b
  have z2 := an_zero b a
  rw [an_abs] at z1 z2
  unfold qcmp icmp
  unfold qsgn at h
  rw [if_pos]
  repeat' split at h
  all_goals omega
theorem qcmp_of_sgn_gt {a b : Rat} (h : qsgn b < qsgn a) : qcmp a b = 1 := by
  have h1 := neg_mul_nat (x := a.num) b.den_pos
  have h2 := neg_mul_nat (x := b.num) a.den_pos
  have z1 := an_zero a b
  have z2 := an_zero b a
  rw [an_abs] at z1 z2
  unfold qcmp icmp
  unfold qsgn at h
  rw [if_neg, if_neg]
  all_goals
    repeat' split at h
    all_goals omega
theorem icmp_neg_abs {P Q : Int} (hP : P < 0) (hQ : Q < 0) : icmp P Q = - icmp ((P.natAbs : Nat) : Int) ((Q.natAbs : Nat) : Int) := by
  unfold icmp
  rcases Int.lt_trichotomy P Q with h | h | h
  · rw [if_pos h, if_neg (by omega), if_neg (by omega)]
  · rw [if_neg (by omega), if_pos h, if_neg (by omega), if_pos (by omega)]; rfl
  · rw [if_neg (by omega), if_neg (by omega), if_pos (by omega)]; rfl
theorem icmp_pos_abs {P Q : Int} (hP : 0 ≤ P) (hQ : 0 ≤ Q) : icmp P Q = icmp ((P.natAbs : Nat) : Int) ((Q.natAbs : Nat) : Int) := by
  rw [show ((P.natAbs : Nat) : Int) = P by omega, show ((Q.natAbs : Nat) : Int) = Q by omega]
theorem qcmp_of_sgn_eq {a b : Rat} (h : qsgn a = qsgn b) : qcmp a b = if qsgn a < 0 then - icmp (an a b) (an b a) else icmp (an a b) (an b a) := by
  have h1 := neg_mul_nat (x := a.num) b.den_pos
  have h2 := neg_mul_nat (x := b.num) a.den_pos
  have key : (a.num < 0 ∧ b.num < 0 ∧ qsgn a = -1) ∨ (0 ≤ a.num ∧ 0 ≤ b.num ∧ 0 ≤ qsgn a) := by
    unfold qsgn at h ⊢
    repeat' split at h
    all_goals (first | (exfalso; omega) | (rw [if_pos (by assumption)]; omega) | (rw [if_neg (by assumption), if_pos (by assumption)]; omega) | (rw [if_neg (by assumption), if_neg (by assumption)]; omega))
  unfold qcmp
  rw [an_abs, an_abs]
  rcases key with ⟨x, y, z⟩ | ⟨x, y, z⟩
  · rw [if_pos (by omega)]; exact icmp_neg_abs (h1.1 x) (h2.1 y)
  · rw [if_neg (by omega)]; exact icmp_pos_abs (by omega) (by omega)
theorem Sz.mul {m n : Nat} {a b : Rat} (ha : Sz m a) (hb : Sz n b) : Sz (m + n) (a * b) := by
  rw [← quo_mul a b]
  have h1 := a.den_pos
  have h2 := b.den_pos
  exact sz_quo (Int.mul_nonneg (by omega) (by omega)) (Int.mul_pos (by omega) (by omega)) (mul_lt_pow (by omega) (by omega) ha.1 hb.1) (mul_lt_pow (by omega) (by omega) ha.2 hb.2)
theorem len_of {x : Int} {n : Nat} (h : x < 2 ^ n) (hn : n ≤ 262144) : (limbs x).length ≤ 4096 :=
  limbs_len_le_of (k := 4096) (by rw [Wpow_eq]; have := ipow_le (show n ≤ 64 * 4096 by omega); omega)
theorem Sz.lens {n : Nat} {q : Rat} (h : Sz n q) (hn : n ≤ 262144) : (qn q).length ≤ 4096 ∧ (qd q).length ≤ 4096 := ⟨len_of h.1 hn, len_of h.2 hn⟩
end Go.Proofs.YtfpofmifmapmfaaGreatDoor

namespace Go.Proofs.YtfpofmifmapmfaaGreatDoor
open Go.RowKit Go.Proofs.YtfpofmifmapmfaaGreatDoorW.PrintLast
set_option linter.unusedVariables false
set_option linter.unusedSimpArgs false
theorem caught_new {w : World} {b : Nat} {A B : Option Addr} {q : Rat} {t : TypeId} (h : w.heap[b]? = some (.cells #[.bool (decide (q.num < 0)), .slice A (qn q).length (qn q).length, .slice B (qd q).length (qd q).length] t (0, 0))) : Caught w b A B q :=
  ⟨by rw [cell_of_cells h]; rfl, by rw [cell_of_cells h]; rfl, by rw [cell_of_cells h]; rfl⟩
theorem row3 {w : World} {g : Nat} {x y z : Value} {t : TypeId} (h : w.heap[g]? = some (.cells #[x, y, z] t (0, 0))) :
    w.cell? ⟨g, 0, none⟩ = some x ∧ w.cell? ⟨g, 1, none⟩ = some y ∧ w.cell? ⟨g, 2, none⟩ = some z ∧ w.frozen? ⟨g, 0, none⟩ = false ∧ w.frozen? ⟨g, 1, none⟩ = false ∧ w.frozen? ⟨g, 2, none⟩ = false :=
  ⟨by rw [cell_of_cells h]; rfl, by rw [cell_of_cells h]; rfl, by rw [cell_of_cells h]; rfl, free_of_cells h 0, free_of_cells h 1, free_of_cells h 2⟩
theorem three_new (w : World) (o1 o2 o3 : Obj) : (((w.alloc o1).alloc o2).alloc o3).heap[w.heap.size]? = some o1 ∧ (((w.alloc o1).alloc o2).alloc o3).heap[w.heap.size + 1]? = some o2 ∧ (((w.alloc o1).alloc o2).alloc o3).heap[w.heap.size + 2]? = some o3 ∧ (((w.alloc o1).alloc o2).alloc o3).heap.size = w.heap.size + 3 ∧ Below w.heap.size w (((w.alloc o1).alloc o2).alloc o3) := by
  refine ⟨?_, ?_, ?_, by simp only [World.size_alloc], (((Below.refl _ _).alloc (Nat.le_refl _) _).alloc (by simp only [World.size_alloc]; omega) _).alloc (by simp only [World.size_alloc]; omega) _⟩
  · rw [alloc_heap_at, if_neg (by simp only [World.size_alloc]; omega), alloc_heap_at, if_neg (by simp only [World.size_alloc]; omega), alloc_heap_at, if_pos rfl]
  · rw [alloc_heap_at, if_neg (by simp only [World.size_alloc]; omega), alloc_heap_at, if_pos (by simp only [World.size_alloc])]
  · rw [alloc_heap_at, if_pos (by simp only [World.size_alloc])]
def zeroRat : Array Value := #[.bool false, .slice none 0 0, .slice none 0 0]
def RatOut (n : Nat) (q : Rat) (s : Bool) (E : Option Addr) (l l' : Nat) (F : Option Addr) (m m' : Nat) (w w' : World) : Prop :=
  s = decide (q.num < 0) ∧ l = (qn q).length ∧ l' = (qn q).length ∧ m = (qd q).length ∧ m' = (qd q).length ∧ RatFresh (n + 4) w' E F q ∧ Below n w w'
theorem fourSet_keep {w : World} {n : Nat} {v1 v2 v3 v4 : Value} (lo : Nat) (h : n + 4 ≤ lo) (up : Nat) : Keep lo up w ((((w.setCell ⟨n + 2, 0, none⟩ v1).setCell ⟨n + 2, 1, none⟩ v2).setCell ⟨n + 2, 2, none⟩ v3).setCell ⟨n + 3, 0, none⟩ v4) :=
  ((((Keep.refl _ _ _).setCell (Or.inl (by show n + 2 < lo; omega)) _).setCell (Or.inl (by show n + 2 < lo; omega)) _).setCell (Or.inl (by show n + 2 < lo; omega)) _).setCell (Or.inl (by show n + 3 < lo; omega)) _
theorem fourSet_below {w0 w : World} {n : Nat} {v1 v2 v3 v4 : Value} (h : Below n w0 w) : Below n w0 ((((w.setCell ⟨n + 2, 0, none⟩ v1).setCell ⟨n + 2, 1, none⟩ v2).setCell ⟨n + 2, 2, none⟩ v3).setCell ⟨n + 3, 0, none⟩ v4) :=
  (((h.setCell (by show n ≤ n + 2; omega) _).setCell (by show n ≤ n + 2; omega) _).setCell (by show n ≤ n + 2; omega) _).setCell (by show n ≤ n + 3; omega) _
theorem heap_fourSet {w : World} {g n : Nat} {o : Obj} {v1 v2 v3 v4 : Value} (h : w.heap[g]? = some o) (hg : g < n + 2) : ((((w.setCell ⟨n + 2, 0, none⟩ v1).setCell ⟨n + 2, 1, none⟩ v2).setCell ⟨n + 2, 2, none⟩ v3).setCell ⟨n + 3, 0, none⟩ v4).heap[g]? = some o := by
  rw [Below.heap_setCell _ _ _ _ (by show g ≠ n + 3; omega), Below.heap_setCell _ _ _ _ (by show g ≠ n + 2; omega), Below.heap_setCell _ _ _ _ (by show g ≠ n + 2; omega), Below.heap_setCell _ _ _ _ (by show g ≠ n + 2; omega), h]
def fourSet (n : Nat) (v1 v2 v3 v4 : Value) (w : World) : World := (((w.setCell ⟨n + 2, 0, none⟩ v1).setCell ⟨n + 2, 1, none⟩ v2).setCell ⟨n + 2, 2, none⟩ v3).setCell ⟨n + 3, 0, none⟩ v4
theorem after_reck {w0 w1 w3 : World} {n g B : Nat} {o : Obj} {E F : Option Addr} {q : Rat} (v1 v2 v3 v4 : Value) (hf : RatFresh (n + 4) w3 E F q) (hb : Below n w1 w3) (hr : w1.heap[g]? = some o) (hg : g < n) (h0 : Below B w0 w1) (hB : B ≤ n) :
    (fourSet n v1 v2 v3 v4 w3).heap[g]? = some o ∧ RatFresh (n + 4) (fourSet n v1 v2 v3 v4 w3) E F q ∧ Below B w0 (fourSet n v1 v2 v3 v4 w3) :=
  ⟨heap_fourSet ((hb.block _ hg).trans hr) (by omega), hf.keep (fourSet_keep (n + 4) (Nat.le_refl _) w3.heap.size) (Nat.le_refl _), h0.trans ((fourSet_below hb).mono hB)⟩
theorem results_row_tmp {P : Program} {fn : Func} {p u : Tmp} {ty : TypeId} (h : fn.results = #[.cell p ty, .tmp u]) (tmps : Array Value) (w : World) (g : Nat) (t : TypeId) (cs : Array Value) (fr : Nat × Nat) (d : TypeDesc)
    (hp : tmps.getD p undef = .pointer (some ⟨g, 0, none⟩)) (hg : w.heap[g]? = some (.cells cs t fr))
    (hu : P.underlying ty = some d) (hd : (match d with | .struct _ | .array _ _ => true | _ => false) = true) (hi : (P.info? ty).map (·.size) = some cs.size) :
    (results fn tmps).run P w = .ok (.tuple #[.agg cs, tmps.getD u undef]) w := by
  have h1 : tmps[p]?.getD undef = .pointer (some ⟨g, 0, none⟩) := by simpa using hp
  simp [results, h, h1, asAddr, run_loadVar_row w g t ty cs fr d hg hu hd hi]
theorem rat_three {w : World} {g lo : Nat} {E F : Option Addr} {q : Rat} {x y z : Value} (hg : g < lo) (h : RatFresh lo w E F q) : RatFresh lo (((w.setCell ⟨g, 0, none⟩ x).setCell ⟨g, 1, none⟩ y).setCell ⟨g, 2, none⟩ z) E F q :=
  h.keep (up := w.heap.size) ((((Keep.refl _ _ _).setCell (Or.inl hg) _).setCell (Or.inl hg) _).setCell (Or.inl hg) _) (Nat.le_refl _)
theorem below_three {w0 w : World} {g B : Nat} {x y z : Value} (hg : B ≤ g) (h : Below B w0 w) : Below B w0 (((w.setCell ⟨g, 0, none⟩ x).setCell ⟨g, 1, none⟩ y).setCell ⟨g, 2, none⟩ z) :=
  ((h.setCell (show B ≤ g from hg) _).setCell (show B ≤ g from hg) _).setCell (show B ≤ g from hg) _
set_option maxRecDepth 100000 in
set_option maxHeartbeats 3200000 in
theorem rMulQ (A B C D : Option Addr) (lo up m n : Nat) (p q : Rat) (w : World) (hp : RatIn lo up w A B p) (hq : RatIn lo up w C D q) (hu : up ≤ w.heap.size)
    (hs : Sz m p) (ht : Sz n q) (hmn : m + n + 1 ≤ 262144) :
    Calls Tryz.prog 126 #[qv A B p, qv C D q] w fun e w' => ∃ E F, e = .returned (.tuple #[qv E F (p * q), .int .i64 0]) ∧ RatFresh w.heap.size w' E F (p * q) ∧ Below w.heap.size w w' := by
  have l1 := hs.lens (by omega)
  have l2 := ht.lens (by omega)
  obtain ⟨h1, h2, h3, h4, h5⟩ := three_new w (.cells #[.bool (decide (p.num < 0)), .slice A (qn p).length (qn p).length, .slice B (qd p).length (qd p).length] 26) (.cells #[.bool (decide (q.num < 0)), .slice C (qn q).length (qn q).length, .slice D (qd q).length (qd q).length] 26) (.cells #[.bool false, .slice none 0 0, .slice none 0 0] 26)
  generalize hww : (((w.alloc (.cells #[.bool (decide (p.num < 0)), .slice A (qn p).length (qn p).length, .slice B (qd p).length (qd p).length] 26)).alloc (.cells #[.bool (decide (q.num < 0)), .slice C (qn q).length (qn q).length, .slice D (qd q).length (qd q).length] 26)).alloc (.cells #[.bool false, .slice none 0 0, .slice none 0 0] 26)) = w1 at *
  have hp1 := hp.keep (Keep.of h5 hu)
  have hq1 := hq.keep (Keep.of h5 hu)
  have HR := Lib.hid (rReckonedMul (.pointer (some ⟨w.heap.size, 0, none⟩)) (.pointer (some ⟨w.heap.size + 1, 0, none⟩)) A B C D lo up p q w1 (fun s E l l' F m m' w' => RatOut (w.heap.size + 3) (p * q) s E l l' F m m' w1 w') hp1 hq1 (by omega) l1.1 l1.2 l2.1 l2.2 (by
    intro w0 b0 s0
    rw [h4] at b0
    refine (rMulBody w.heap.size (w.heap.size + 1) A B C D lo up p q w0 (hp1.keep (Keep.of b0 (by omega))) (hq1.keep (Keep.of b0 (by omega))) (by omega) (caught_new ((b0.block _ (by omega)).trans h1)) (caught_new ((b0.block _ (by omega)).trans h2)) (by omega) (by omega)
      (len_of (n := m + n) (mul_lt_pow (by omega) (by omega) hs.1 ht.1) (by omega)) (len_of (n := m + n) (mul_lt_pow (by omega) (by omega) hs.2 ht.2) (by omega)) ⟨l1.1, l1.2, l2.1, l2.2⟩).mono ?_
    rintro e w' ⟨E, F, rfl, hf, hb⟩
    exact ⟨_, _, _, _, _, _, _, rfl, ⟨rfl, rfl, rfl, rfl, rfl, hf.wide (by omega), b0.trans (hb.mono (by omega))⟩, Keep.of hb (by omega)⟩))
  rw [h4] at HR
  have H := Lib.hid (And.intro h3 (And.intro h4 (And.intro h5 hww)))
  clear h3 h4 h5 hp hq hp1 hq1 l1 l2 hs ht hww
  clear h1 h2
  have hmf : ∀ (fn : Fn) (first cap : Array Value) (w : World), (Instr.makeFunc fn first cap).run Tryz.prog w = .ok (.func fn first cap) w := fun _ _ _ _ => rfl
  unfold qv at *
  go_enter Tryz.func126, Tryz.ntmps126
  go_wp2_with (fail)
  rw [H.out.2.2.2]
  refine HR.out.mono ?_
  rintro e w2 ⟨s, E, l, l', F, m0, m0', w3, rfl, ⟨rfl, rfl, rfl, rfl, rfl, hf, hb⟩, rfl⟩
  obtain ⟨h3, h4, h5, _⟩ := H.out
  obtain ⟨hw2, hfr, hb6⟩ := after_reck (.bool (decide ((p * q).num < 0))) (.slice E (qn (p * q)).length (qn (p * q)).length) (.slice F (qd (p * q)).length (qd (p * q)).length) (.int .i64 0) hf hb h3 (by omega) h5 (by omega)
  generalize hw4 : fourSet (w.heap.size + 3) (.bool (decide ((p * q).num < 0))) (.slice E (qn (p * q)).length (qn (p * q)).length) (.slice F (qd (p * q)).length (qd (p * q)).length) (.int .i64 0) w3 = w4 at *
  unfold fourSet at hw4
  rw [hw4]
  obtain ⟨d0, d1, d2, g0, g1, g2⟩ := row3 hw2
  have HF := Lib.hid (And.intro hw2 (And.intro hfr hb6))
  clear hw2 hfr hb6 hf hb h3 h4 h5 hw4
  go_wp2_with (fail)
  refine bodyPost_ret (results_row_tmp rfl _ _ (w.heap.size + 2) _ _ _ _ rfl (heap_set_three HF.out.1 _ _ _) rfl rfl rfl) rfl ?_
  exact ⟨E, F, rfl, (rat_three (by omega) HF.out.2.1).wide (by omega), below_three (by omega) HF.out.2.2⟩
end Go.Proofs.YtfpofmifmapmfaaGreatDoor

namespace Go.Proofs.YtfpofmifmapmfaaGreatDoor
open Go.RowKit Go.Proofs.YtfpofmifmapmfaaGreatDoorW.PrintLast
set_option linter.unusedVariables false
set_option linter.unusedSimpArgs false
set_option maxRecDepth 100000 in
set_option maxHeartbeats 3200000 in
theorem rDivBody (bp bq : Nat) (A B C D : Option Addr) (lo up : Nat) (p q : Rat) (w : World) (hp : RatIn lo up w A B p) (hq : RatIn lo up w C D q) (hu : up ≤ w.heap.size)
    (hcp : Caught w bp A B p) (hcq : Caught w bq C D q) (hbp : bp < w.heap.size) (hbq : bq < w.heap.size) (hq0 : q.num ≠ 0)
    (hs1 : (limbs ((p.num.natAbs : Nat) * (q.den : Nat) : Int)).length ≤ 4096) (hs2 : (limbs ((p.den : Nat) * (q.num.natAbs : Nat) : Int)).length ≤ 4096) (hs3 : (qn p).length ≤ 4096 ∧ (qd p).length ≤ 4096 ∧ (qn q).length ≤ 4096 ∧ (qd q).length ≤ 4096) :
    Calls Tryz.prog 189 #[.pointer (some ⟨bp, 0, none⟩), .pointer (some ⟨bq, 0, none⟩)] w fun e w' => ∃ E F, e = .returned (qv E F (p / q)) ∧ RatFresh w.heap.size w' E F (p / q) ∧ Below w.heap.size w w' := by
  have e1 : val (qn p) = (p.num.natAbs : Nat) := val_limbs (by omega)
  have e2 : val (qn q) = (q.num.natAbs : Nat) := val_limbs (by omega)
  have e3 : val (qd p) = (p.den : Nat) := val_limbs (by omega)
  have e4 : val (qd q) = (q.den : Nat) := val_limbs (by omega)
  have hlp := hs3
  obtain ⟨l1, l2, l3, l4⟩ := hs3
  have HM1 : Hid (∀ (w' : World) (hk : Keep lo up w w') (hz : up ≤ w'.heap.size), Calls Tryz.prog 92 #[.slice A (qn p).length (qn p).length, .slice D (qd q).length (qd q).length] w' fun e w'' => ∃ A1, e = .returned (.slice A1 (limbs ((p.num.natAbs : Nat) * (q.den : Nat) : Int)).length (limbs ((p.num.natAbs : Nat) * (q.den : Nat) : Int)).length) ∧ FreshAt w'.heap.size w'' A1 (limbs ((p.num.natAbs : Nat) * (q.den : Nat) : Int)).length (limbs ((p.num.natAbs : Nat) * (q.den : Nat) : Int)) ∧ Below w'.heap.size w' w'') := Lib.hid fun w' hk hz => by
    have := rMul A D (qn p).length (qd q).length lo up (qn p) (qd q) w' (limbs_ws _) (hp.n.keep hk) (limbs_ws _) (hq.d.keep hk) hz (Nat.le_refl _) (Nat.le_refl _) (by omega) (by omega) (by rw [e1, e4]; exact hs1)
    rw [e1, e4] at this; exact this
  have HM2 : Hid (∀ (w' : World) (hk : Keep lo up w w') (hz : up ≤ w'.heap.size), Calls Tryz.prog 92 #[.slice B (qd p).length (qd p).length, .slice C (qn q).length (qn q).length] w' fun e w'' => ∃ A1, e = .returned (.slice A1 (limbs ((p.den : Nat) * (q.num.natAbs : Nat) : Int)).length (limbs ((p.den : Nat) * (q.num.natAbs : Nat) : Int)).length) ∧ FreshAt w'.heap.size w'' A1 (limbs ((p.den : Nat) * (q.num.natAbs : Nat) : Int)).length (limbs ((p.den : Nat) * (q.num.natAbs : Nat) : Int)) ∧ Below w'.heap.size w' w'') := Lib.hid fun w' hk hz => by
    have := rMul B C (qd p).length (qn q).length lo up (qd p) (qn q) w' (limbs_ws _) (hp.d.keep hk) (limbs_ws _) (hq.n.keep hk) hz (Nat.le_refl _) (Nat.le_refl _) (by omega) (by omega) (by rw [e3, e2]; exact hs2)
    rw [e3, e2] at this; exact this
  have hN0 : (0 : Int) ≤ (p.num.natAbs : Nat) * (q.den : Nat) := Int.mul_nonneg (by omega) (by omega)
  have hD0 : (0 : Int) < (p.den : Nat) * (q.num.natAbs : Nat) := Int.mul_pos (by have := p.den_pos; omega) (by omega)
  generalize hNN : ((p.num.natAbs : Nat) * (q.den : Nat) : Int) = N at *
  generalize hDD : ((p.den : Nat) * (q.num.natAbs : Nat) : Int) = D' at *
  have HND := Lib.hid (And.intro hNN hDD)
  clear hNN hDD e1 e2 e3 e4
  have HC := Lib.hid (And.intro hcp hcq)
  clear hcp hcq
  go_enter Tryz.func189, Tryz.ntmps189
  go_wp2_with (fail)
  have hka : Keep lo up w (w.alloc (.cells #[.bool false, .slice none 0 0, .slice none 0 0] 26)) := (Keep.refl _ _ _).alloc hu _
  have hba : Below w.heap.size w (w.alloc (.cells #[.bool false, .slice none 0 0, .slice none 0 0] 26)) := (Below.refl _ _).alloc (Nat.le_refl _) _
  have hba0 : (w.alloc (.cells #[.bool false, .slice none 0 0, .slice none 0 0] 26)).drew.heap[w.heap.size]? = some (.cells #[.bool false, .slice none 0 0, .slice none 0 0] 26 (0, 0)) := by
    show (w.alloc _).heap[w.heap.size]? = _
    rw [alloc_heap_at, if_pos rfl]
  refine start_ (n := 17) (S := fun w' => Caught w' bp A B p ∧ Caught w' bq C D q) (ds := [16]) (bt 17 0) (by kernel_rfl) rfl rfl (⟨HC.out.1.keep hba.drew hbp, HC.out.2.keep hba.drew hbq⟩) (fun hHeld => ?_)
  refine pv_ 0 3 ?_
  refine ld_ 1 4 ?_ hHeld ?_ ?_; rotate_left
  · rintro w' ⟨⟨s1, s2, s3⟩, ⟨s4, s5, s6⟩⟩
    go_simp; with_reducible rfl
  refine pv_ 2 5 ?_
  refine ld_ 3 6 ?_ hHeld ?_ ?_; rotate_left
  · rintro w' ⟨⟨s1, s2, s3⟩, ⟨s4, s5, s6⟩⟩
    go_simp; with_reducible rfl
  refine pv_ 4 7 ?_
  refine pv_ 5 8 ?_
  refine ld_ 6 9 ?_ hHeld ?_ ?_; rotate_left
  · rintro w' ⟨⟨s1, s2, s3⟩, ⟨s4, s5, s6⟩⟩
    go_simp; with_reducible rfl
  refine pv_ 7 10 ?_
  refine ld_ 8 11 ?_ hHeld ?_ ?_; rotate_left
  · rintro w' ⟨⟨s1, s2, s3⟩, ⟨s4, s5, s6⟩⟩
    go_simp; with_reducible rfl
  refine pv_ 10 13 ?_
  refine ld_ 11 14 ?_ hHeld ?_ ?_; rotate_left
  · rintro w' ⟨⟨s1, s2, s3⟩, ⟨s4, s5, s6⟩⟩
    go_simp; with_reducible rfl
  refine pv_ 12 15 ?_
  refine ld_ 13 16 ?_ hHeld ?_ ?_; rotate_left
  · rintro w' ⟨⟨s1, s2, s3⟩, ⟨s4, s5, s6⟩⟩
    go_simp; with_reducible rfl
  refine ca_ 9 12 Tryz.func92 #[.slice A (qn p).length (qn p).length, .slice D (qd q).length (qd q).length] ?_
  with_reducible refine (HM1.out _ hka.drew (by simp; omega)).mono ?_
  rintro e w' ⟨A1, rfl, hf1, hb1⟩
  refine ⟨_, rfl, (by first | (exact ⟨hHeld.1.keep hb3 (lt3 hbp hb1 hb2), hHeld.2.keep hb3 (lt3 hbq hb1 hb2)⟩) | (exact ⟨hHeld.1.keep hb2 (lt2 hbp hb1), hHeld.2.keep hb2 (lt2 hbq hb1)⟩) | (exact ⟨hHeld.1.keep hb1 (lt1 hbp), hHeld.2.keep hb1 (lt1 hbq)⟩)), fun hHeld => ?_⟩
  refine nn ?_
  refine ca_ 14 17 Tryz.func92 #[.slice B (qd p).length (qd p).length, .slice C (qn q).length (qn q).length] ?_
  with_reducible refine (HM2.out _ (hka.drew.below hb1 (by simp; omega)) (by have := hb1.size; simp at this; omega)).mono ?_
  rintro e w' ⟨A2, rfl, hf2, hb2⟩
  refine ⟨_, rfl, (by first | (exact ⟨hHeld.1.keep hb3 (lt3 hbp hb1 hb2), hHeld.2.keep hb3 (lt3 hbq hb1 hb2)⟩) | (exact ⟨hHeld.1.keep hb2 (lt2 hbp hb1), hHeld.2.keep hb2 (lt2 hbq hb1)⟩) | (exact ⟨hHeld.1.keep hb1 (lt1 hbp), hHeld.2.keep hb1 (lt1 hbq)⟩)), fun hHeld => ?_⟩
  refine nn ?_
  refine ca_ 15 18 Tryz.func93 #[.bool (!(decide (p.num < 0) == decide (q.num < 0))), .slice A1 (limbs N).length (limbs N).length, .slice A2 (limbs D').length (limbs D').length] ?_
  with_reducible refine (rLowest (!(decide (p.num < 0) == decide (q.num < 0))) A1 A2 _ _ 0 _ _ _ _ (limbs_ws _) ((hf1.words.keep (Keep.of hb2 (Nat.le_refl _))).wide (Nat.zero_le _) hb2.size) (limbs_ws _) (hf2.words.wide (Nat.zero_le _) (Nat.le_refl _)) (Nat.le_refl _) (by rw [val_limbs (Int.le_of_lt hD0)]; exact hD0) (by omega) (by omega)).mono ?_
  rintro e w' ⟨E, F, rfl, hf3, hb3⟩
  refine ⟨_, rfl, (by first | (exact ⟨hHeld.1.keep hb3 (lt3 hbp hb1 hb2), hHeld.2.keep hb3 (lt3 hbq hb1 hb2)⟩) | (exact ⟨hHeld.1.keep hb2 (lt2 hbp hb1), hHeld.2.keep hb2 (lt2 hbq hb1)⟩) | (exact ⟨hHeld.1.keep hb1 (lt1 hbp), hHeld.2.keep hb1 (lt1 hbq)⟩)), fun hHeld => ?_⟩
  refine nn ?_
  refine last_ (i := 16) (N := none) (bt 17 131071) rfl rfl (by kernel_rfl) (by decide) (fun K hK => ?_)
  obtain ⟨d0, d1, d2, g0, g1, g2, HR⟩ := three_kept hba0 hb1 hb2 hb3
  unfold qv
  refine skip_ (w1 := ?_) (by rfl) rfl ?_ ?_
  rotate_left
  · go_simp
    rfl
  refine hK.out _ _ ?_
  clear hK K
  refine done_ (by kernel_rfl) ?_
  go_wp2_with (fail)
  have hq' : quo (!(decide (p.num < 0) == decide (q.num < 0))) (val (limbs N)) (val (limbs D')) = p / q := by
    rw [val_limbs hN0, val_limbs (Int.le_of_lt hD0), ← HND.out.1, ← HND.out.2]; exact quo_div p q hq0
  refine bodyPost_ret (results_cell_row rfl _ _ w.heap.size _ _ _ _ rfl (heap_set_three HR _ _ _) rfl rfl rfl) rfl ?_
  rw [hq'] at hf3 ⊢
  have t1 := Nat.le_of_lt (lt0 w _ : w.heap.size < (w.alloc (.cells #[.bool false, .slice none 0 0, .slice none 0 0] 26)).drew.heap.size)
  have t2 := Nat.lt_of_lt_of_le (lt0 w _) hb1.size
  have t3 := Nat.lt_of_lt_of_le t2 hb2.size
  refine ⟨E, F, rfl, (hf3.keep (up := w'.heap.size) ((((Keep.refl _ _ _).setCell (Or.inl t3) _).setCell (Or.inl t3) _).setCell (Or.inl t3) _) (Nat.le_refl _)).wide (Nat.le_of_lt t3), ?_⟩
  exact (((((hba.drew.trans (hb1.mono t1)).trans (hb2.mono (Nat.le_of_lt t2))).trans (hb3.mono (Nat.le_of_lt t3))).setCell (Nat.le_refl _) _).setCell (Nat.le_refl _) _).setCell (Nat.le_refl _) _
end Go.Proofs.YtfpofmifmapmfaaGreatDoor

namespace Go.Proofs.YtfpofmifmapmfaaGreatDoor
open Go.RowKit Go.Proofs.YtfpofmifmapmfaaGreatDoorW.PrintLast
set_option linter.unusedVariables false
set_option linter.unusedSimpArgs false
theorem Caught.keep3 {w w1 w2 w3 : World} {b : Nat} {A B : Option Addr} {q : Rat} (h : Caught w b A B q) (hb : b < w.heap.size) (b1 : Below w.heap.size w w1) (b2 : Below w1.heap.size w1 w2) (b3 : Below w2.heap.size w2 w3) : Caught w3 b A B q :=
  ((h.keep b1 hb).keep b2 (Nat.lt_of_lt_of_le hb b1.size)).keep b3 (Nat.lt_of_lt_of_le (Nat.lt_of_lt_of_le hb b1.size) b2.size)
theorem below3 {w w1 w2 w3 : World} (b1 : Below w.heap.size w w1) (b2 : Below w1.heap.size w1 w2) (b3 : Below w2.heap.size w2 w3) : Below w.heap.size w w3 :=
  (b1.trans (b2.mono b1.size)).trans (b3.mono (Nat.le_trans b1.size b2.size))
theorem zero_of_len {N : Int} (h : 0 ≤ N) (e : (((limbs N).length : Int) == 0) = true) : N = 0 := (limbs_len_zero h).1 (by have := beq_iff_eq.1 e; omega)
theorem cond4 (sp sq : Bool) {N M : Int} (h1 : 0 ≤ N) (h2 : 0 ≤ M) : (sp == sq) = true ∨ ((sp == sq) = false ∧ (((limbs N).length : Int) == 0) = true) ∨ ((sp == sq) = false ∧ (((limbs N).length : Int) == 0) = false ∧ (((limbs M).length : Int) == 0) = true) ∨
    ((sp == sq) = false ∧ (((limbs N).length : Int) == 0) = false ∧ (((limbs M).length : Int) == 0) = false) := by
  cases (sp == sq) <;> cases (((limbs N).length : Int) == 0) <;> cases (((limbs M).length : Int) == 0) <;> simp
theorem len1 {x : Int} {k : Nat} (h : (limbs x).length ≤ k) (hx : 0 ≤ x) : (limbs x).length ≤ k := h
set_option maxRecDepth 100000 in
set_option maxHeartbeats 3200000 in
theorem rAddBody (bp bq : Nat) (A B C D : Option Addr) (lo up m n : Nat) (p q : Rat) (w : World) (hp : RatIn lo up w A B p) (hq : RatIn lo up w C D q) (hu : up ≤ w.heap.size)
    (hcp : Caught w bp A B p) (hcq : Caught w bq C D q) (hbp : bp < w.heap.size) (hbq : bq < w.heap.size) (hs : Sz m p) (ht : Sz n q) (hmn : m + n + 1 ≤ 262144) :
    Calls Tryz.prog 91 #[.pointer (some ⟨bp, 0, none⟩), .pointer (some ⟨bq, 0, none⟩)] w fun e w' => ∃ E F, e = .returned (qv E F (p + q)) ∧ RatFresh w.heap.size w' E F (p + q) ∧ Below w.heap.size w w' := by
  have e1 : val (qn p) = (p.num.natAbs : Nat) := val_limbs (by omega)
  have e2 : val (qn q) = (q.num.natAbs : Nat) := val_limbs (by omega)
  have e3 : val (qd p) = (p.den : Nat) := val_limbs (by omega)
  have e4 : val (qd q) = (q.den : Nat) := val_limbs (by omega)
  obtain ⟨l1, l2⟩ := hs.lens (by omega)
  obtain ⟨l3, l4⟩ := ht.lens (by omega)
  have x1 : val (qn p) * val (qd q) = an p q := by rw [e1, e4]; rfl
  have x2 : val (qn q) * val (qd p) = an q p := by rw [e2, e3]; rfl
  have x3 : val (qd p) * val (qd q) = dd p q := by rw [e3, e4]; rfl
  have z1 := an_lt hs ht
  have z2 := an_lt ht hs
  have z3 := dd_lt hs ht
  have n1 := an_nonneg p q
  have n2 := an_nonneg q p
  have n3 := dd_pos p q
  have q1 := len_of z1 (by omega)
  have q2 := len_of z2 (by omega)
  have q3 := len_of z3 (by omega)
  have q4 : (limbs (an p q + an q p)).length ≤ 4096 := len_of (n := m + n + 1) (by rw [Int.pow_succ]; rw [Nat.add_comm n m] at z2; omega) (by omega)
  have HM : Hid (∀ (w' : World) (hk : Keep lo up w w') (hz : up ≤ w'.heap.size),
      (Calls Tryz.prog 92 #[.slice A (qn p).length (qn p).length, .slice D (qd q).length (qd q).length] w' fun e w'' => ∃ A1, e = .returned (.slice A1 (limbs (an p q)).length (limbs (an p q)).length) ∧ FreshAt w'.heap.size w'' A1 (limbs (an p q)).length (limbs (an p q)) ∧ Below w'.heap.size w' w'') ∧
      (Calls Tryz.prog 92 #[.slice C (qn q).length (qn q).length, .slice B (qd p).length (qd p).length] w' fun e w'' => ∃ A1, e = .returned (.slice A1 (limbs (an q p)).length (limbs (an q p)).length) ∧ FreshAt w'.heap.size w'' A1 (limbs (an q p)).length (limbs (an q p)) ∧ Below w'.heap.size w' w'') ∧
      (Calls Tryz.prog 92 #[.slice B (qd p).length (qd p).length, .slice D (qd q).length (qd q).length] w' fun e w'' => ∃ A1, e = .returned (.slice A1 (limbs (dd p q)).length (limbs (dd p q)).length) ∧ FreshAt w'.heap.size w'' A1 (limbs (dd p q)).length (limbs (dd p q)) ∧ Below w'.heap.size w' w'')) := Lib.hid fun w' hk hz => by
    have k1 := rMul A D (qn p).length (qd q).length lo up (qn p) (qd q) w' (limbs_ws _) (hp.n.keep hk) (limbs_ws _) (hq.d.keep hk) hz (Nat.le_refl _) (Nat.le_refl _) (by omega) (by omega) (by rw [x1]; exact q1)
    have k2 := rMul C B (qn q).length (qd p).length lo up (qn q) (qd p) w' (limbs_ws _) (hq.n.keep hk) (limbs_ws _) (hp.d.keep hk) hz (Nat.le_refl _) (Nat.le_refl _) (by omega) (by omega) (by rw [x2]; exact q2)
    have k3 := rMul B D (qd p).length (qd q).length lo up (qd p) (qd q) w' (limbs_ws _) (hp.d.keep hk) (limbs_ws _) (hq.d.keep hk) hz (Nat.le_refl _) (Nat.le_refl _) (by omega) (by omega) (by rw [x3]; exact q3)
    rw [x1] at k1; rw [x2] at k2; rw [x3] at k3
    exact ⟨k1, k2, k3⟩
  have HS := Lib.hid (And.intro (quo_add_same p q) (And.intro (quo_add_less p q) (quo_add_more p q)))
  clear x1 x2 x3 e1 e2 e3 e4 z1 z2 z3 hs ht
  generalize an p q = N at *
  generalize an q p = M at *
  generalize dd p q = D' at *
  have HC := Lib.hid (And.intro hcp hcq)
  clear hcp hcq hp hq
  go_enter Tryz.func91, Tryz.ntmps91
  go_wp2_with (fail)
  have hka : Keep lo up w (w.alloc (.cells #[.bool false, .slice none 0 0, .slice none 0 0] 26)) := (Keep.refl _ _ _).alloc hu _
  have hba : Below w.heap.size w (w.alloc (.cells #[.bool false, .slice none 0 0, .slice none 0 0] 26)) := (Below.refl _ _).alloc (Nat.le_refl _) _
  have hba0 : (w.alloc (.cells #[.bool false, .slice none 0 0, .slice none 0 0] 26)).drew.heap[w.heap.size]? = some (.cells #[.bool false, .slice none 0 0, .slice none 0 0] 26 (0, 0)) := by
    show (w.alloc _).heap[w.heap.size]? = _
    rw [alloc_heap_at, if_pos rfl]
  refine start_ (n := 18) (S := fun w' => Caught w' bp A B p ∧ Caught w' bq C D q) (ds := []) (bt 18 0) (by kernel_rfl) rfl rfl (⟨HC.out.1.keep hba.drew hbp, HC.out.2.keep hba.drew hbq⟩) (fun hHeld => ?_)
  refine pv_ 0 6 ?_
  refine ld_ 1 7 ?_ hHeld ?_ ?_; rotate_left
  · rintro w' ⟨⟨s1, s2, s3⟩, ⟨s4, s5, s6⟩⟩
    go_simp; with_reducible rfl
  refine pv_ 2 8 ?_
  refine ld_ 3 9 ?_ hHeld ?_ ?_; rotate_left
  · rintro w' ⟨⟨s1, s2, s3⟩, ⟨s4, s5, s6⟩⟩
    go_simp; with_reducible rfl
  refine pv_ 5 11 ?_
  refine ld_ 6 12 ?_ hHeld ?_ ?_; rotate_left
  · rintro w' ⟨⟨s1, s2, s3⟩, ⟨s4, s5, s6⟩⟩
    go_simp; with_reducible rfl
  refine pv_ 7 13 ?_
  refine ld_ 8 14 ?_ hHeld ?_ ?_; rotate_left
  · rintro w' ⟨⟨s1, s2, s3⟩, ⟨s4, s5, s6⟩⟩
    go_simp; with_reducible rfl
  refine pv_ 10 16 ?_
  refine ld_ 11 17 ?_ hHeld ?_ ?_; rotate_left
  · rintro w' ⟨⟨s1, s2, s3⟩, ⟨s4, s5, s6⟩⟩
    go_simp; with_reducible rfl
  refine pv_ 12 18 ?_
  refine ld_ 13 19 ?_ hHeld ?_ ?_; rotate_left
  · rintro w' ⟨⟨s1, s2, s3⟩, ⟨s4, s5, s6⟩⟩
    go_simp; with_reducible rfl
  refine ca_ 4 10 Tryz.func92 #[.slice A (qn p).length (qn p).length, .slice D (qd q).length (qd q).length] ?_
  with_reducible refine ((HM.out _ hka.drew (by simp; omega)).1).mono ?_
  rintro e w' ⟨A1, rfl, hf1, hb1⟩
  refine ⟨_, rfl, (by first | (exact ⟨hHeld.1.keep hb3 (lt3 hbp hb1 hb2), hHeld.2.keep hb3 (lt3 hbq hb1 hb2)⟩) | (exact ⟨hHeld.1.keep hb2 (lt2 hbp hb1), hHeld.2.keep hb2 (lt2 hbq hb1)⟩) | (exact ⟨hHeld.1.keep hb1 (lt1 hbp), hHeld.2.keep hb1 (lt1 hbq)⟩)), fun hHeld => ?_⟩
  refine nn ?_
  refine ca_ 9 15 Tryz.func92 #[.slice C (qn q).length (qn q).length, .slice B (qd p).length (qd p).length] ?_
  with_reducible refine ((HM.out _ (hka.drew.below hb1 (by simp; omega)) (by have := hb1.size; simp at this; omega)).2.1).mono ?_
  rintro e w' ⟨A2, rfl, hf2, hb2⟩
  refine ⟨_, rfl, (by first | (exact ⟨hHeld.1.keep hb3 (lt3 hbp hb1 hb2), hHeld.2.keep hb3 (lt3 hbq hb1 hb2)⟩) | (exact ⟨hHeld.1.keep hb2 (lt2 hbp hb1), hHeld.2.keep hb2 (lt2 hbq hb1)⟩) | (exact ⟨hHeld.1.keep hb1 (lt1 hbp), hHeld.2.keep hb1 (lt1 hbq)⟩)), fun hHeld => ?_⟩
  refine nn ?_
  refine ca_ 14 20 Tryz.func92 #[.slice B (qd p).length (qd p).length, .slice D (qd q).length (qd q).length] ?_
  with_reducible refine ((HM.out _ ((hka.drew.below hb1 (by simp; omega)).below hb2 (by have := hb1.size; simp at this; omega)) (by have := hb1.size; have := hb2.size; simp at *; omega)).2.2).mono ?_
  rintro e w' ⟨A3, rfl, hf3, hb3⟩
  refine ⟨_, rfl, (by first | (exact ⟨hHeld.1.keep hb3 (lt3 hbp hb1 hb2), hHeld.2.keep hb3 (lt3 hbq hb1 hb2)⟩) | (exact ⟨hHeld.1.keep hb2 (lt2 hbp hb1), hHeld.2.keep hb2 (lt2 hbq hb1)⟩) | (exact ⟨hHeld.1.keep hb1 (lt1 hbp), hHeld.2.keep hb1 (lt1 hbq)⟩)), fun hHeld => ?_⟩
  refine nn ?_
  refine pv_ 15 3 ?_
  refine pv_ 16 4 ?_
  refine pv_ 17 5 ?_
  refine done_ (by kernel_rfl) ?_
  have hC1 := (HC.out.1.keep hba.drew hbp).keep3 (lt1 hbp) hb1 hb2 hb3
  have hC2 := (HC.out.2.keep hba.drew hbq).keep3 (lt1 hbq) hb1 hb2 hb3
  have t1 := lt0 w (.cells #[.bool false, .slice none 0 0, .slice none 0 0] 26)
  have hB := hba.drew.trans ((below3 hb1 hb2 hb3).mono (Nat.le_of_lt t1))
  have hrow := (((hb3.block _ (Nat.lt_of_lt_of_le (Nat.lt_of_lt_of_le t1 hb1.size) hb2.size)).trans (hb2.block _ (Nat.lt_of_lt_of_le t1 hb1.size))).trans (hb1.block _ t1)).trans hba0
  have hF1 := ((hf1.words.keep (Keep.of hb2 (Nat.le_refl _))).keep (Keep.of hb3 hb2.size)).wide (Nat.zero_le _) (Nat.le_trans hb2.size hb3.size)
  have hF2 := (hf2.words.keep (Keep.of hb3 (Nat.le_refl _))).wide (Nat.zero_le _) hb3.size
  have hF3 := hf3.words.wide (Nat.zero_le _) (Nat.le_refl _)
  have hsz := heap_lt hrow
  have hbp' := Nat.lt_of_lt_of_le hbp hB.size
  have hbq' := Nat.lt_of_lt_of_le hbq hB.size
  clear hf1 hf2 hf3 hb1 hb2 hb3 hba hba0 hka t1
  generalize w' = wr at *
  have HQ := Lib.hid (And.intro hC1 (And.intro hC2 (And.intro hB (And.intro hrow (And.intro hF1 (And.intro hF2 hF3))))))
  obtain ⟨s1, s2, s3⟩ := hC1
  obtain ⟨s4, s5, s6⟩ := hC2
  clear hB hrow hF1 hF2 hF3 HC HM
  generalize hsp : decide (p.num < 0) = sp at *
  generalize hsq : decide (q.num < 0) = sq at *
  have HP := Lib.hid (And.intro hsp hsq)
  clear hsp hsq
  --# ends
  rcases cond4 sp sq n1 n2 with hx | ⟨hx, hy⟩ | ⟨hx, hy, hz⟩ | ⟨hx, hy, hz⟩
  · go_wp2_with (fail)
    have HJ : Hid ((sp == sq) = true ∨ N = 0 ∨ M = 0) := Lib.hid (Or.inl hx)
    clear hx
    cases sp
    · obtain ⟨hC1, hC2, hB, hrow, hF1, hF2, hF3⟩ := HQ.out
      have hA4 := nAdd A1 A2 (limbs N).length (limbs M).length 0 wr.heap.size (limbs N) (limbs M) wr.drew (limbs_ws _) (hF1.keep (Keep.refl _ _ wr).drew) (limbs_ws _) (hF2.keep (Keep.refl _ _ wr).drew) (Nat.le_refl _) (by omega) (by omega) (by rw [val_limbs n1, val_limbs n2]; omega)
      rw [val_limbs n1, val_limbs n2] at hA4
      have hX0 : 0 ≤ N + M := by omega
      have hXl : (limbs (N + M)).length ≤ 4096 := q4
      have HA4 := Lib.hid hA4
      have hF3d : WordsIn 0 wr.drew.heap.size wr.drew A3 (limbs D') := hF3.keep (Keep.refl _ _ wr).drew
      clear hA4 hC1 hC2
      refine start_ (n := 15) (S := fun w' => w'.cell? ⟨bp, 0, none⟩ = some (.bool false) ∧ w'.cell? ⟨bq, 0, none⟩ = some (.bool sq)) (ds := [14]) (bt 15 0) (by kernel_rfl) rfl rfl (⟨s1, s4⟩) (fun hHeld => ?_)
      refine pv_ 0 36 ?_
      refine ld_ 1 37 ?_ hHeld ?_ ?_; rotate_left
      · rintro w' ⟨s1, s4⟩
        go_simp; with_reducible rfl
      refine pv_ 2 38 ?_
      refine pv_ 3 39 ?_
      refine ld_ 4 40 ?_ hHeld ?_ ?_; rotate_left
      · rintro w' ⟨s1, s4⟩
        go_simp; with_reducible rfl
      refine pv_ 5 41 ?_
      refine pv_ 6 42 ?_
      refine pv_ 7 43 ?_
      refine pv_ 12 48 ?_
      refine ca_ 8 44 Tryz.func95 #[.slice A1 (limbs N).length (limbs N).length, .slice A2 (limbs M).length (limbs M).length] ?_
      with_reducible refine (HA4.out).mono ?_
      rintro e w' ⟨A4, rfl, hf4, hb4⟩
      refine ⟨_, rfl, (by first | (exact hHeld) | (exact ⟨(hb5.cell (p := ⟨bp, 0, none⟩) (Nat.lt_of_lt_of_le hbp' hb4.size)).trans hHeld.1, (hb5.cell (p := ⟨bq, 0, none⟩) (Nat.lt_of_lt_of_le hbq' hb4.size)).trans hHeld.2⟩) | (exact ⟨(hb4.cell (p := ⟨bp, 0, none⟩) hbp').trans hHeld.1, (hb4.cell (p := ⟨bq, 0, none⟩) hbq').trans hHeld.2⟩)), fun hHeld => ?_⟩
      refine nn ?_
      refine pv_ 9 45 ?_
      refine pv_ 10 46 ?_
      refine ca_ 11 47 Tryz.func94 #[.slice A4 (limbs (N + M)).length (limbs (N + M)).length, .int .i64 0] ?_
      with_reducible refine (rFits _ _ _ _).mono ?_
      rintro e w' ⟨rfl, rfl⟩
      refine ⟨_, rfl, (by first | (exact hHeld) | (exact ⟨(hb5.cell (p := ⟨bp, 0, none⟩) (Nat.lt_of_lt_of_le hbp' hb4.size)).trans hHeld.1, (hb5.cell (p := ⟨bq, 0, none⟩) (Nat.lt_of_lt_of_le hbq' hb4.size)).trans hHeld.2⟩) | (exact ⟨(hb4.cell (p := ⟨bp, 0, none⟩) hbp').trans hHeld.1, (hb4.cell (p := ⟨bq, 0, none⟩) hbq').trans hHeld.2⟩)), fun hHeld => ?_⟩
      refine nn ?_
      refine ca_ 13 49 Tryz.func93 #[.bool (sq), .slice A4 (limbs (N + M)).length (limbs (N + M)).length, .slice A3 (limbs D').length (limbs D').length] ?_
      with_reducible refine (rLowest (sq) A4 A3 _ _ 0 _ _ _ _ (limbs_ws _) (hf4.words.wide (Nat.zero_le _) (Nat.le_refl _)) (limbs_ws _) ((hF3d.keep (Keep.of hb4 (Nat.le_refl _))).wide (Nat.le_refl _) hb4.size) (Nat.le_refl _) (by rw [val_limbs (Int.le_of_lt n3)]; exact n3) (Nat.le_trans hXl (by decide)) (by omega)).mono ?_
      rintro e w' ⟨E, F, rfl, hf5, hb5⟩
      refine ⟨_, rfl, (by first | (exact hHeld) | (exact ⟨(hb5.cell (p := ⟨bp, 0, none⟩) (Nat.lt_of_lt_of_le hbp' hb4.size)).trans hHeld.1, (hb5.cell (p := ⟨bq, 0, none⟩) (Nat.lt_of_lt_of_le hbq' hb4.size)).trans hHeld.2⟩) | (exact ⟨(hb4.cell (p := ⟨bp, 0, none⟩) hbp').trans hHeld.1, (hb4.cell (p := ⟨bq, 0, none⟩) hbq').trans hHeld.2⟩)), fun hHeld => ?_⟩
      refine nn ?_
      refine last_ (i := 14) (N := none) (bt 15 32767) rfl rfl (by kernel_rfl) (by decide) (fun K hK => ?_)
      obtain ⟨d0, d1, d2, g0, g1, g2⟩ := row3 ((hb5.block _ (Nat.lt_of_lt_of_le hsz hb4.size)).trans ((hb4.block _ hsz).trans hrow))
      have hrow5 := Lib.hid ((hb5.block _ (Nat.lt_of_lt_of_le hsz hb4.size)).trans ((hb4.block _ hsz).trans hrow))
      unfold qv
      refine skip_ (w1 := ?_) (by rfl) rfl ?_ ?_
      rotate_left
      · go_simp
        rfl
      refine hK.out _ _ ?_
      clear hK K
      refine done_ (by kernel_rfl) ?_
      go_wp2_with (fail)
      have hq' : quo (sq) (val (limbs (N + M))) (val (limbs D')) = p + q := by
        rw [val_limbs hX0, val_limbs (Int.le_of_lt n3)]; exact HS.out.1 HJ.out
      refine bodyPost_ret (results_cell_row rfl _ _ w.heap.size _ _ _ _ rfl (heap_set_three hrow5.out _ _ _) rfl rfl rfl) rfl ?_
      rw [hq'] at hf5 ⊢
      have t5 := Nat.lt_of_lt_of_le hsz hb4.size
      exact ⟨E, F, rfl, (rat_three t5 hf5).wide (Nat.le_of_lt t5), below_three (Nat.le_refl _) ((hB.drew.trans (hb4.mono (Nat.le_of_lt hsz))).trans (hb5.mono (Nat.le_of_lt t5)))⟩
    · obtain ⟨hC1, hC2, hB, hrow, hF1, hF2, hF3⟩ := HQ.out
      have hA4 := nAdd A1 A2 (limbs N).length (limbs M).length 0 wr.heap.size (limbs N) (limbs M) wr.drew (limbs_ws _) (hF1.keep (Keep.refl _ _ wr).drew) (limbs_ws _) (hF2.keep (Keep.refl _ _ wr).drew) (Nat.le_refl _) (by omega) (by omega) (by rw [val_limbs n1, val_limbs n2]; omega)
      rw [val_limbs n1, val_limbs n2] at hA4
      have hX0 : 0 ≤ N + M := by omega
      have hXl : (limbs (N + M)).length ≤ 4096 := q4
      have HA4 := Lib.hid hA4
      have hF3d : WordsIn 0 wr.drew.heap.size wr.drew A3 (limbs D') := hF3.keep (Keep.refl _ _ wr).drew
      clear hA4 hC1 hC2
      refine start_ (n := 15) (S := fun w' => w'.cell? ⟨bp, 0, none⟩ = some (.bool true) ∧ w'.cell? ⟨bq, 0, none⟩ = some (.bool sq)) (ds := [14]) (bt 15 0) (by kernel_rfl) rfl rfl (⟨s1, s4⟩) (fun hHeld => ?_)
      refine pv_ 0 36 ?_
      refine ld_ 1 37 ?_ hHeld ?_ ?_; rotate_left
      · rintro w' ⟨s1, s4⟩
        go_simp; with_reducible rfl
      refine pv_ 2 38 ?_
      refine of 3 39 ?_ rfl rfl (by kernel_rfl) (fun _ _ _ h => h) (by first | rfl | (simp [Region.wanted, yielded]; done) | (go_simp; done)) ?_ ?_; rotate_left
      · simp only [pA, pB, pC, pD, i64_w, i32_w]; rfl
      refine of 4 40 ?_ rfl rfl (by kernel_rfl) (fun _ _ _ h => h) (by first | rfl | (simp [Region.wanted, yielded]; done) | (go_simp; done)) ?_ ?_; rotate_left
      · simp only [pA, pB, pC, pD, i64_w, i32_w]; rfl
      refine pv_ 5 41 ?_
      refine pv_ 6 42 ?_
      refine pv_ 7 43 ?_
      refine pv_ 12 48 ?_
      refine ca_ 8 44 Tryz.func95 #[.slice A1 (limbs N).length (limbs N).length, .slice A2 (limbs M).length (limbs M).length] ?_
      with_reducible refine (HA4.out).mono ?_
      rintro e w' ⟨A4, rfl, hf4, hb4⟩
      refine ⟨_, rfl, (by first | (exact hHeld) | (exact ⟨(hb5.cell (p := ⟨bp, 0, none⟩) (Nat.lt_of_lt_of_le hbp' hb4.size)).trans hHeld.1, (hb5.cell (p := ⟨bq, 0, none⟩) (Nat.lt_of_lt_of_le hbq' hb4.size)).trans hHeld.2⟩) | (exact ⟨(hb4.cell (p := ⟨bp, 0, none⟩) hbp').trans hHeld.1, (hb4.cell (p := ⟨bq, 0, none⟩) hbq').trans hHeld.2⟩)), fun hHeld => ?_⟩
      refine nn ?_
      refine pv_ 9 45 ?_
      refine pv_ 10 46 ?_
      refine ca_ 11 47 Tryz.func94 #[.slice A4 (limbs (N + M)).length (limbs (N + M)).length, .int .i64 0] ?_
      with_reducible refine (rFits _ _ _ _).mono ?_
      rintro e w' ⟨rfl, rfl⟩
      refine ⟨_, rfl, (by first | (exact hHeld) | (exact ⟨(hb5.cell (p := ⟨bp, 0, none⟩) (Nat.lt_of_lt_of_le hbp' hb4.size)).trans hHeld.1, (hb5.cell (p := ⟨bq, 0, none⟩) (Nat.lt_of_lt_of_le hbq' hb4.size)).trans hHeld.2⟩) | (exact ⟨(hb4.cell (p := ⟨bp, 0, none⟩) hbp').trans hHeld.1, (hb4.cell (p := ⟨bq, 0, none⟩) hbq').trans hHeld.2⟩)), fun hHeld => ?_⟩
      refine nn ?_
      refine ca_ 13 49 Tryz.func93 #[.bool (true), .slice A4 (limbs (N + M)).length (limbs (N + M)).length, .slice A3 (limbs D').length (limbs D').length] ?_
      with_reducible refine (rLowest (true) A4 A3 _ _ 0 _ _ _ _ (limbs_ws _) (hf4.words.wide (Nat.zero_le _) (Nat.le_refl _)) (limbs_ws _) ((hF3d.keep (Keep.of hb4 (Nat.le_refl _))).wide (Nat.le_refl _) hb4.size) (Nat.le_refl _) (by rw [val_limbs (Int.le_of_lt n3)]; exact n3) (Nat.le_trans hXl (by decide)) (by omega)).mono ?_
      rintro e w' ⟨E, F, rfl, hf5, hb5⟩
      refine ⟨_, rfl, (by first | (exact hHeld) | (exact ⟨(hb5.cell (p := ⟨bp, 0, none⟩) (Nat.lt_of_lt_of_le hbp' hb4.size)).trans hHeld.1, (hb5.cell (p := ⟨bq, 0, none⟩) (Nat.lt_of_lt_of_le hbq' hb4.size)).trans hHeld.2⟩) | (exact ⟨(hb4.cell (p := ⟨bp, 0, none⟩) hbp').trans hHeld.1, (hb4.cell (p := ⟨bq, 0, none⟩) hbq').trans hHeld.2⟩)), fun hHeld => ?_⟩
      refine nn ?_
      refine last_ (i := 14) (N := none) (bt 15 32767) rfl rfl (by kernel_rfl) (by decide) (fun K hK => ?_)
      obtain ⟨d0, d1, d2, g0, g1, g2⟩ := row3 ((hb5.block _ (Nat.lt_of_lt_of_le hsz hb4.size)).trans ((hb4.block _ hsz).trans hrow))
      have hrow5 := Lib.hid ((hb5.block _ (Nat.lt_of_lt_of_le hsz hb4.size)).trans ((hb4.block _ hsz).trans hrow))
      unfold qv
      refine skip_ (w1 := ?_) (by rfl) rfl ?_ ?_
      rotate_left
      · go_simp
        rfl
      refine hK.out _ _ ?_
      clear hK K
      refine done_ (by kernel_rfl) ?_
      go_wp2_with (fail)
      have hq' : quo (true) (val (limbs (N + M))) (val (limbs D')) = p + q := by
        rw [val_limbs hX0, val_limbs (Int.le_of_lt n3)]; exact HS.out.1 HJ.out
      refine bodyPost_ret (results_cell_row rfl _ _ w.heap.size _ _ _ _ rfl (heap_set_three hrow5.out _ _ _) rfl rfl rfl) rfl ?_
      rw [hq'] at hf5 ⊢
      have t5 := Nat.lt_of_lt_of_le hsz hb4.size
      exact ⟨E, F, rfl, (rat_three t5 hf5).wide (Nat.le_of_lt t5), below_three (Nat.le_refl _) ((hB.drew.trans (hb4.mono (Nat.le_of_lt hsz))).trans (hb5.mono (Nat.le_of_lt t5)))⟩
  · go_wp2_with (fail)
    have HJ : Hid ((sp == sq) = true ∨ N = 0 ∨ M = 0) := Lib.hid (Or.inr (Or.inl (zero_of_len n1 hy)))
    clear hx hy
    cases sp
    · obtain ⟨hC1, hC2, hB, hrow, hF1, hF2, hF3⟩ := HQ.out
      have hA4 := nAdd A1 A2 (limbs N).length (limbs M).length 0 wr.heap.size (limbs N) (limbs M) wr.drew (limbs_ws _) (hF1.keep (Keep.refl _ _ wr).drew) (limbs_ws _) (hF2.keep (Keep.refl _ _ wr).drew) (Nat.le_refl _) (by omega) (by omega) (by rw [val_limbs n1, val_limbs n2]; omega)
      rw [val_limbs n1, val_limbs n2] at hA4
      have hX0 : 0 ≤ N + M := by omega
      have hXl : (limbs (N + M)).length ≤ 4096 := q4
      have HA4 := Lib.hid hA4
      have hF3d : WordsIn 0 wr.drew.heap.size wr.drew A3 (limbs D') := hF3.keep (Keep.refl _ _ wr).drew
      clear hA4 hC1 hC2
      refine start_ (n := 15) (S := fun w' => w'.cell? ⟨bp, 0, none⟩ = some (.bool false) ∧ w'.cell? ⟨bq, 0, none⟩ = some (.bool sq)) (ds := [14]) (bt 15 0) (by kernel_rfl) rfl rfl (⟨s1, s4⟩) (fun hHeld => ?_)
      refine pv_ 0 36 ?_
      refine ld_ 1 37 ?_ hHeld ?_ ?_; rotate_left
      · rintro w' ⟨s1, s4⟩
        go_simp; with_reducible rfl
      refine pv_ 2 38 ?_
      refine pv_ 3 39 ?_
      refine ld_ 4 40 ?_ hHeld ?_ ?_; rotate_left
      · rintro w' ⟨s1, s4⟩
        go_simp; with_reducible rfl
      refine pv_ 5 41 ?_
      refine pv_ 6 42 ?_
      refine pv_ 7 43 ?_
      refine pv_ 12 48 ?_
      refine ca_ 8 44 Tryz.func95 #[.slice A1 (limbs N).length (limbs N).length, .slice A2 (limbs M).length (limbs M).length] ?_
      with_reducible refine (HA4.out).mono ?_
      rintro e w' ⟨A4, rfl, hf4, hb4⟩
      refine ⟨_, rfl, (by first | (exact hHeld) | (exact ⟨(hb5.cell (p := ⟨bp, 0, none⟩) (Nat.lt_of_lt_of_le hbp' hb4.size)).trans hHeld.1, (hb5.cell (p := ⟨bq, 0, none⟩) (Nat.lt_of_lt_of_le hbq' hb4.size)).trans hHeld.2⟩) | (exact ⟨(hb4.cell (p := ⟨bp, 0, none⟩) hbp').trans hHeld.1, (hb4.cell (p := ⟨bq, 0, none⟩) hbq').trans hHeld.2⟩)), fun hHeld => ?_⟩
      refine nn ?_
      refine pv_ 9 45 ?_
      refine pv_ 10 46 ?_
      refine ca_ 11 47 Tryz.func94 #[.slice A4 (limbs (N + M)).length (limbs (N + M)).length, .int .i64 0] ?_
      with_reducible refine (rFits _ _ _ _).mono ?_
      rintro e w' ⟨rfl, rfl⟩
      refine ⟨_, rfl, (by first | (exact hHeld) | (exact ⟨(hb5.cell (p := ⟨bp, 0, none⟩) (Nat.lt_of_lt_of_le hbp' hb4.size)).trans hHeld.1, (hb5.cell (p := ⟨bq, 0, none⟩) (Nat.lt_of_lt_of_le hbq' hb4.size)).trans hHeld.2⟩) | (exact ⟨(hb4.cell (p := ⟨bp, 0, none⟩) hbp').trans hHeld.1, (hb4.cell (p := ⟨bq, 0, none⟩) hbq').trans hHeld.2⟩)), fun hHeld => ?_⟩
      refine nn ?_
      refine ca_ 13 49 Tryz.func93 #[.bool (sq), .slice A4 (limbs (N + M)).length (limbs (N + M)).length, .slice A3 (limbs D').length (limbs D').length] ?_
      with_reducible refine (rLowest (sq) A4 A3 _ _ 0 _ _ _ _ (limbs_ws _) (hf4.words.wide (Nat.zero_le _) (Nat.le_refl _)) (limbs_ws _) ((hF3d.keep (Keep.of hb4 (Nat.le_refl _))).wide (Nat.le_refl _) hb4.size) (Nat.le_refl _) (by rw [val_limbs (Int.le_of_lt n3)]; exact n3) (Nat.le_trans hXl (by decide)) (by omega)).mono ?_
      rintro e w' ⟨E, F, rfl, hf5, hb5⟩
      refine ⟨_, rfl, (by first | (exact hHeld) | (exact ⟨(hb5.cell (p := ⟨bp, 0, none⟩) (Nat.lt_of_lt_of_le hbp' hb4.size)).trans hHeld.1, (hb5.cell (p := ⟨bq, 0, none⟩) (Nat.lt_of_lt_of_le hbq' hb4.size)).trans hHeld.2⟩) | (exact ⟨(hb4.cell (p := ⟨bp, 0, none⟩) hbp').trans hHeld.1, (hb4.cell (p := ⟨bq, 0, none⟩) hbq').trans hHeld.2⟩)), fun hHeld => ?_⟩
      refine nn ?_
      refine last_ (i := 14) (N := none) (bt 15 32767) rfl rfl (by kernel_rfl) (by decide) (fun K hK => ?_)
      obtain ⟨d0, d1, d2, g0, g1, g2⟩ := row3 ((hb5.block _ (Nat.lt_of_lt_of_le hsz hb4.size)).trans ((hb4.block _ hsz).trans hrow))
      have hrow5 := Lib.hid ((hb5.block _ (Nat.lt_of_lt_of_le hsz hb4.size)).trans ((hb4.block _ hsz).trans hrow))
      unfold qv
      refine skip_ (w1 := ?_) (by rfl) rfl ?_ ?_
      rotate_left
      · go_simp
        rfl
      refine hK.out _ _ ?_
      clear hK K
      refine done_ (by kernel_rfl) ?_
      go_wp2_with (fail)
      have hq' : quo (sq) (val (limbs (N + M))) (val (limbs D')) = p + q := by
        rw [val_limbs hX0, val_limbs (Int.le_of_lt n3)]; exact HS.out.1 HJ.out
      refine bodyPost_ret (results_cell_row rfl _ _ w.heap.size _ _ _ _ rfl (heap_set_three hrow5.out _ _ _) rfl rfl rfl) rfl ?_
      rw [hq'] at hf5 ⊢
      have t5 := Nat.lt_of_lt_of_le hsz hb4.size
      exact ⟨E, F, rfl, (rat_three t5 hf5).wide (Nat.le_of_lt t5), below_three (Nat.le_refl _) ((hB.drew.trans (hb4.mono (Nat.le_of_lt hsz))).trans (hb5.mono (Nat.le_of_lt t5)))⟩
    · obtain ⟨hC1, hC2, hB, hrow, hF1, hF2, hF3⟩ := HQ.out
      have hA4 := nAdd A1 A2 (limbs N).length (limbs M).length 0 wr.heap.size (limbs N) (limbs M) wr.drew (limbs_ws _) (hF1.keep (Keep.refl _ _ wr).drew) (limbs_ws _) (hF2.keep (Keep.refl _ _ wr).drew) (Nat.le_refl _) (by omega) (by omega) (by rw [val_limbs n1, val_limbs n2]; omega)
      rw [val_limbs n1, val_limbs n2] at hA4
      have hX0 : 0 ≤ N + M := by omega
      have hXl : (limbs (N + M)).length ≤ 4096 := q4
      have HA4 := Lib.hid hA4
      have hF3d : WordsIn 0 wr.drew.heap.size wr.drew A3 (limbs D') := hF3.keep (Keep.refl _ _ wr).drew
      clear hA4 hC1 hC2
      refine start_ (n := 15) (S := fun w' => w'.cell? ⟨bp, 0, none⟩ = some (.bool true) ∧ w'.cell? ⟨bq, 0, none⟩ = some (.bool sq)) (ds := [14]) (bt 15 0) (by kernel_rfl) rfl rfl (⟨s1, s4⟩) (fun hHeld => ?_)
      refine pv_ 0 36 ?_
      refine ld_ 1 37 ?_ hHeld ?_ ?_; rotate_left
      · rintro w' ⟨s1, s4⟩
        go_simp; with_reducible rfl
      refine pv_ 2 38 ?_
      refine of 3 39 ?_ rfl rfl (by kernel_rfl) (fun _ _ _ h => h) (by first | rfl | (simp [Region.wanted, yielded]; done) | (go_simp; done)) ?_ ?_; rotate_left
      · simp only [pA, pB, pC, pD, i64_w, i32_w]; rfl
      refine of 4 40 ?_ rfl rfl (by kernel_rfl) (fun _ _ _ h => h) (by first | rfl | (simp [Region.wanted, yielded]; done) | (go_simp; done)) ?_ ?_; rotate_left
      · simp only [pA, pB, pC, pD, i64_w, i32_w]; rfl
      refine pv_ 5 41 ?_
      refine pv_ 6 42 ?_
      refine pv_ 7 43 ?_
      refine pv_ 12 48 ?_
      refine ca_ 8 44 Tryz.func95 #[.slice A1 (limbs N).length (limbs N).length, .slice A2 (limbs M).length (limbs M).length] ?_
      with_reducible refine (HA4.out).mono ?_
      rintro e w' ⟨A4, rfl, hf4, hb4⟩
      refine ⟨_, rfl, (by first | (exact hHeld) | (exact ⟨(hb5.cell (p := ⟨bp, 0, none⟩) (Nat.lt_of_lt_of_le hbp' hb4.size)).trans hHeld.1, (hb5.cell (p := ⟨bq, 0, none⟩) (Nat.lt_of_lt_of_le hbq' hb4.size)).trans hHeld.2⟩) | (exact ⟨(hb4.cell (p := ⟨bp, 0, none⟩) hbp').trans hHeld.1, (hb4.cell (p := ⟨bq, 0, none⟩) hbq').trans hHeld.2⟩)), fun hHeld => ?_⟩
      refine nn ?_
      refine pv_ 9 45 ?_
      refine pv_ 10 46 ?_
      refine ca_ 11 47 Tryz.func94 #[.slice A4 (limbs (N + M)).length (limbs (N + M)).length, .int .i64 0] ?_
      with_reducible refine (rFits _ _ _ _).mono ?_
      rintro e w' ⟨rfl, rfl⟩
      refine ⟨_, rfl, (by first | (exact hHeld) | (exact ⟨(hb5.cell (p := ⟨bp, 0, none⟩) (Nat.lt_of_lt_of_le hbp' hb4.size)).trans hHeld.1, (hb5.cell (p := ⟨bq, 0, none⟩) (Nat.lt_of_lt_of_le hbq' hb4.size)).trans hHeld.2⟩) | (exact ⟨(hb4.cell (p := ⟨bp, 0, none⟩) hbp').trans hHeld.1, (hb4.cell (p := ⟨bq, 0, none⟩) hbq').trans hHeld.2⟩)), fun hHeld => ?_⟩
      refine nn ?_
      refine ca_ 13 49 Tryz.func93 #[.bool (true), .slice A4 (limbs (N + M)).length (limbs (N + M)).length, .slice A3 (limbs D').length (limbs D').length] ?_
      with_reducible refine (rLowest (true) A4 A3 _ _ 0 _ _ _ _ (limbs_ws _) (hf4.words.wide (Nat.zero_le _) (Nat.le_refl _)) (limbs_ws _) ((hF3d.keep (Keep.of hb4 (Nat.le_refl _))).wide (Nat.le_refl _) hb4.size) (Nat.le_refl _) (by rw [val_limbs (Int.le_of_lt n3)]; exact n3) (Nat.le_trans hXl (by decide)) (by omega)).mono ?_
      rintro e w' ⟨E, F, rfl, hf5, hb5⟩
      refine ⟨_, rfl, (by first | (exact hHeld) | (exact ⟨(hb5.cell (p := ⟨bp, 0, none⟩) (Nat.lt_of_lt_of_le hbp' hb4.size)).trans hHeld.1, (hb5.cell (p := ⟨bq, 0, none⟩) (Nat.lt_of_lt_of_le hbq' hb4.size)).trans hHeld.2⟩) | (exact ⟨(hb4.cell (p := ⟨bp, 0, none⟩) hbp').trans hHeld.1, (hb4.cell (p := ⟨bq, 0, none⟩) hbq').trans hHeld.2⟩)), fun hHeld => ?_⟩
      refine nn ?_
      refine last_ (i := 14) (N := none) (bt 15 32767) rfl rfl (by kernel_rfl) (by decide) (fun K hK => ?_)
      obtain ⟨d0, d1, d2, g0, g1, g2⟩ := row3 ((hb5.block _ (Nat.lt_of_lt_of_le hsz hb4.size)).trans ((hb4.block _ hsz).trans hrow))
      have hrow5 := Lib.hid ((hb5.block _ (Nat.lt_of_lt_of_le hsz hb4.size)).trans ((hb4.block _ hsz).trans hrow))
      unfold qv
      refine skip_ (w1 := ?_) (by rfl) rfl ?_ ?_
      rotate_left
      · go_simp
        rfl
      refine hK.out _ _ ?_
      clear hK K
      refine done_ (by kernel_rfl) ?_
      go_wp2_with (fail)
      have hq' : quo (true) (val (limbs (N + M))) (val (limbs D')) = p + q := by
        rw [val_limbs hX0, val_limbs (Int.le_of_lt n3)]; exact HS.out.1 HJ.out
      refine bodyPost_ret (results_cell_row rfl _ _ w.heap.size _ _ _ _ rfl (heap_set_three hrow5.out _ _ _) rfl rfl rfl) rfl ?_
      rw [hq'] at hf5 ⊢
      have t5 := Nat.lt_of_lt_of_le hsz hb4.size
      exact ⟨E, F, rfl, (rat_three t5 hf5).wide (Nat.le_of_lt t5), below_three (Nat.le_refl _) ((hB.drew.trans (hb4.mono (Nat.le_of_lt hsz))).trans (hb5.mono (Nat.le_of_lt t5)))⟩
  · go_wp2_with (fail)
    have HJ : Hid ((sp == sq) = true ∨ N = 0 ∨ M = 0) := Lib.hid (Or.inr (Or.inr (zero_of_len n2 hz)))
    clear hx hy hz
    cases sp
    · obtain ⟨hC1, hC2, hB, hrow, hF1, hF2, hF3⟩ := HQ.out
      have hA4 := nAdd A1 A2 (limbs N).length (limbs M).length 0 wr.heap.size (limbs N) (limbs M) wr.drew (limbs_ws _) (hF1.keep (Keep.refl _ _ wr).drew) (limbs_ws _) (hF2.keep (Keep.refl _ _ wr).drew) (Nat.le_refl _) (by omega) (by omega) (by rw [val_limbs n1, val_limbs n2]; omega)
      rw [val_limbs n1, val_limbs n2] at hA4
      have hX0 : 0 ≤ N + M := by omega
      have hXl : (limbs (N + M)).length ≤ 4096 := q4
      have HA4 := Lib.hid hA4
      have hF3d : WordsIn 0 wr.drew.heap.size wr.drew A3 (limbs D') := hF3.keep (Keep.refl _ _ wr).drew
      clear hA4 hC1 hC2
      refine start_ (n := 15) (S := fun w' => w'.cell? ⟨bp, 0, none⟩ = some (.bool false) ∧ w'.cell? ⟨bq, 0, none⟩ = some (.bool sq)) (ds := [14]) (bt 15 0) (by kernel_rfl) rfl rfl (⟨s1, s4⟩) (fun hHeld => ?_)
      refine pv_ 0 36 ?_
      refine ld_ 1 37 ?_ hHeld ?_ ?_; rotate_left
      · rintro w' ⟨s1, s4⟩
        go_simp; with_reducible rfl
      refine pv_ 2 38 ?_
      refine pv_ 3 39 ?_
      refine ld_ 4 40 ?_ hHeld ?_ ?_; rotate_left
      · rintro w' ⟨s1, s4⟩
        go_simp; with_reducible rfl
      refine pv_ 5 41 ?_
      refine pv_ 6 42 ?_
      refine pv_ 7 43 ?_
      refine pv_ 12 48 ?_
      refine ca_ 8 44 Tryz.func95 #[.slice A1 (limbs N).length (limbs N).length, .slice A2 (limbs M).length (limbs M).length] ?_
      with_reducible refine (HA4.out).mono ?_
      rintro e w' ⟨A4, rfl, hf4, hb4⟩
      refine ⟨_, rfl, (by first | (exact hHeld) | (exact ⟨(hb5.cell (p := ⟨bp, 0, none⟩) (Nat.lt_of_lt_of_le hbp' hb4.size)).trans hHeld.1, (hb5.cell (p := ⟨bq, 0, none⟩) (Nat.lt_of_lt_of_le hbq' hb4.size)).trans hHeld.2⟩) | (exact ⟨(hb4.cell (p := ⟨bp, 0, none⟩) hbp').trans hHeld.1, (hb4.cell (p := ⟨bq, 0, none⟩) hbq').trans hHeld.2⟩)), fun hHeld => ?_⟩
      refine nn ?_
      refine pv_ 9 45 ?_
      refine pv_ 10 46 ?_
      refine ca_ 11 47 Tryz.func94 #[.slice A4 (limbs (N + M)).length (limbs (N + M)).length, .int .i64 0] ?_
      with_reducible refine (rFits _ _ _ _).mono ?_
      rintro e w' ⟨rfl, rfl⟩
      refine ⟨_, rfl, (by first | (exact hHeld) | (exact ⟨(hb5.cell (p := ⟨bp, 0, none⟩) (Nat.lt_of_lt_of_le hbp' hb4.size)).trans hHeld.1, (hb5.cell (p := ⟨bq, 0, none⟩) (Nat.lt_of_lt_of_le hbq' hb4.size)).trans hHeld.2⟩) | (exact ⟨(hb4.cell (p := ⟨bp, 0, none⟩) hbp').trans hHeld.1, (hb4.cell (p := ⟨bq, 0, none⟩) hbq').trans hHeld.2⟩)), fun hHeld => ?_⟩
      refine nn ?_
      refine ca_ 13 49 Tryz.func93 #[.bool (sq), .slice A4 (limbs (N + M)).length (limbs (N + M)).length, .slice A3 (limbs D').length (limbs D').length] ?_
      with_reducible refine (rLowest (sq) A4 A3 _ _ 0 _ _ _ _ (limbs_ws _) (hf4.words.wide (Nat.zero_le _) (Nat.le_refl _)) (limbs_ws _) ((hF3d.keep (Keep.of hb4 (Nat.le_refl _))).wide (Nat.le_refl _) hb4.size) (Nat.le_refl _) (by rw [val_limbs (Int.le_of_lt n3)]; exact n3) (Nat.le_trans hXl (by decide)) (by omega)).mono ?_
      rintro e w' ⟨E, F, rfl, hf5, hb5⟩
      refine ⟨_, rfl, (by first | (exact hHeld) | (exact ⟨(hb5.cell (p := ⟨bp, 0, none⟩) (Nat.lt_of_lt_of_le hbp' hb4.size)).trans hHeld.1, (hb5.cell (p := ⟨bq, 0, none⟩) (Nat.lt_of_lt_of_le hbq' hb4.size)).trans hHeld.2⟩) | (exact ⟨(hb4.cell (p := ⟨bp, 0, none⟩) hbp').trans hHeld.1, (hb4.cell (p := ⟨bq, 0, none⟩) hbq').trans hHeld.2⟩)), fun hHeld => ?_⟩
      refine nn ?_
      refine last_ (i := 14) (N := none) (bt 15 32767) rfl rfl (by kernel_rfl) (by decide) (fun K hK => ?_)
      obtain ⟨d0, d1, d2, g0, g1, g2⟩ := row3 ((hb5.block _ (Nat.lt_of_lt_of_le hsz hb4.size)).trans ((hb4.block _ hsz).trans hrow))
      have hrow5 := Lib.hid ((hb5.block _ (Nat.lt_of_lt_of_le hsz hb4.size)).trans ((hb4.block _ hsz).trans hrow))
      unfold qv
      refine skip_ (w1 := ?_) (by rfl) rfl ?_ ?_
      rotate_left
      · go_simp
        rfl
      refine hK.out _ _ ?_
      clear hK K
      refine done_ (by kernel_rfl) ?_
      go_wp2_with (fail)
      have hq' : quo (sq) (val (limbs (N + M))) (val (limbs D')) = p + q := by
        rw [val_limbs hX0, val_limbs (Int.le_of_lt n3)]; exact HS.out.1 HJ.out
      refine bodyPost_ret (results_cell_row rfl _ _ w.heap.size _ _ _ _ rfl (heap_set_three hrow5.out _ _ _) rfl rfl rfl) rfl ?_
      rw [hq'] at hf5 ⊢
      have t5 := Nat.lt_of_lt_of_le hsz hb4.size
      exact ⟨E, F, rfl, (rat_three t5 hf5).wide (Nat.le_of_lt t5), below_three (Nat.le_refl _) ((hB.drew.trans (hb4.mono (Nat.le_of_lt hsz))).trans (hb5.mono (Nat.le_of_lt t5)))⟩
    · obtain ⟨hC1, hC2, hB, hrow, hF1, hF2, hF3⟩ := HQ.out
      have hA4 := nAdd A1 A2 (limbs N).length (limbs M).length 0 wr.heap.size (limbs N) (limbs M) wr.drew (limbs_ws _) (hF1.keep (Keep.refl _ _ wr).drew) (limbs_ws _) (hF2.keep (Keep.refl _ _ wr).drew) (Nat.le_refl _) (by omega) (by omega) (by rw [val_limbs n1, val_limbs n2]; omega)
      rw [val_limbs n1, val_limbs n2] at hA4
      have hX0 : 0 ≤ N + M := by omega
      have hXl : (limbs (N + M)).length ≤ 4096 := q4
      have HA4 := Lib.hid hA4
      have hF3d : WordsIn 0 wr.drew.heap.size wr.drew A3 (limbs D') := hF3.keep (Keep.refl _ _ wr).drew
      clear hA4 hC1 hC2
      refine start_ (n := 15) (S := fun w' => w'.cell? ⟨bp, 0, none⟩ = some (.bool true) ∧ w'.cell? ⟨bq, 0, none⟩ = some (.bool sq)) (ds := [14]) (bt 15 0) (by kernel_rfl) rfl rfl (⟨s1, s4⟩) (fun hHeld => ?_)
      refine pv_ 0 36 ?_
      refine ld_ 1 37 ?_ hHeld ?_ ?_; rotate_left
      · rintro w' ⟨s1, s4⟩
        go_simp; with_reducible rfl
      refine pv_ 2 38 ?_
      refine of 3 39 ?_ rfl rfl (by kernel_rfl) (fun _ _ _ h => h) (by first | rfl | (simp [Region.wanted, yielded]; done) | (go_simp; done)) ?_ ?_; rotate_left
      · simp only [pA, pB, pC, pD, i64_w, i32_w]; rfl
      refine of 4 40 ?_ rfl rfl (by kernel_rfl) (fun _ _ _ h => h) (by first | rfl | (simp [Region.wanted, yielded]; done) | (go_simp; done)) ?_ ?_; rotate_left
      · simp only [pA, pB, pC, pD, i64_w, i32_w]; rfl
      refine pv_ 5 41 ?_
      refine pv_ 6 42 ?_
      refine pv_ 7 43 ?_
      refine pv_ 12 48 ?_
      refine ca_ 8 44 Tryz.func95 #[.slice A1 (limbs N).length (limbs N).length, .slice A2 (limbs M).length (limbs M).length] ?_
      with_reducible refine (HA4.out).mono ?_
      rintro e w' ⟨A4, rfl, hf4, hb4⟩
      refine ⟨_, rfl, (by first | (exact hHeld) | (exact ⟨(hb5.cell (p := ⟨bp, 0, none⟩) (Nat.lt_of_lt_of_le hbp' hb4.size)).trans hHeld.1, (hb5.cell (p := ⟨bq, 0, none⟩) (Nat.lt_of_lt_of_le hbq' hb4.size)).trans hHeld.2⟩) | (exact ⟨(hb4.cell (p := ⟨bp, 0, none⟩) hbp').trans hHeld.1, (hb4.cell (p := ⟨bq, 0, none⟩) hbq').trans hHeld.2⟩)), fun hHeld => ?_⟩
      refine nn ?_
      refine pv_ 9 45 ?_
      refine pv_ 10 46 ?_
      refine ca_ 11 47 Tryz.func94 #[.slice A4 (limbs (N + M)).length (limbs (N + M)).length, .int .i64 0] ?_
      with_reducible refine (rFits _ _ _ _).mono ?_
      rintro e w' ⟨rfl, rfl⟩
      refine ⟨_, rfl, (by first | (exact hHeld) | (exact ⟨(hb5.cell (p := ⟨bp, 0, none⟩) (Nat.lt_of_lt_of_le hbp' hb4.size)).trans hHeld.1, (hb5.cell (p := ⟨bq, 0, none⟩) (Nat.lt_of_lt_of_le hbq' hb4.size)).trans hHeld.2⟩) | (exact ⟨(hb4.cell (p := ⟨bp, 0, none⟩) hbp').trans hHeld.1, (hb4.cell (p := ⟨bq, 0, none⟩) hbq').trans hHeld.2⟩)), fun hHeld => ?_⟩
      refine nn ?_
      refine ca_ 13 49 Tryz.func93 #[.bool (true), .slice A4 (limbs (N + M)).length (limbs (N + M)).length, .slice A3 (limbs D').length (limbs D').length] ?_
      with_reducible refine (rLowest (true) A4 A3 _ _ 0 _ _ _ _ (limbs_ws _) (hf4.words.wide (Nat.zero_le _) (Nat.le_refl _)) (limbs_ws _) ((hF3d.keep (Keep.of hb4 (Nat.le_refl _))).wide (Nat.le_refl _) hb4.size) (Nat.le_refl _) (by rw [val_limbs (Int.le_of_lt n3)]; exact n3) (Nat.le_trans hXl (by decide)) (by omega)).mono ?_
      rintro e w' ⟨E, F, rfl, hf5, hb5⟩
      refine ⟨_, rfl, (by first | (exact hHeld) | (exact ⟨(hb5.cell (p := ⟨bp, 0, none⟩) (Nat.lt_of_lt_of_le hbp' hb4.size)).trans hHeld.1, (hb5.cell (p := ⟨bq, 0, none⟩) (Nat.lt_of_lt_of_le hbq' hb4.size)).trans hHeld.2⟩) | (exact ⟨(hb4.cell (p := ⟨bp, 0, none⟩) hbp').trans hHeld.1, (hb4.cell (p := ⟨bq, 0, none⟩) hbq').trans hHeld.2⟩)), fun hHeld => ?_⟩
      refine nn ?_
      refine last_ (i := 14) (N := none) (bt 15 32767) rfl rfl (by kernel_rfl) (by decide) (fun K hK => ?_)
      obtain ⟨d0, d1, d2, g0, g1, g2⟩ := row3 ((hb5.block _ (Nat.lt_of_lt_of_le hsz hb4.size)).trans ((hb4.block _ hsz).trans hrow))
      have hrow5 := Lib.hid ((hb5.block _ (Nat.lt_of_lt_of_le hsz hb4.size)).trans ((hb4.block _ hsz).trans hrow))
      unfold qv
      refine skip_ (w1 := ?_) (by rfl) rfl ?_ ?_
      rotate_left
      · go_simp
        rfl
      refine hK.out _ _ ?_
      clear hK K
      refine done_ (by kernel_rfl) ?_
      go_wp2_with (fail)
      have hq' : quo (true) (val (limbs (N + M))) (val (limbs D')) = p + q := by
        rw [val_limbs hX0, val_limbs (Int.le_of_lt n3)]; exact HS.out.1 HJ.out
      refine bodyPost_ret (results_cell_row rfl _ _ w.heap.size _ _ _ _ rfl (heap_set_three hrow5.out _ _ _) rfl rfl rfl) rfl ?_
      rw [hq'] at hf5 ⊢
      have t5 := Nat.lt_of_lt_of_le hsz hb4.size
      exact ⟨E, F, rfl, (rat_three t5 hf5).wide (Nat.le_of_lt t5), below_three (Nat.le_refl _) ((hB.drew.trans (hb4.mono (Nat.le_of_lt hsz))).trans (hb5.mono (Nat.le_of_lt t5)))⟩
  · go_wp2_with (fail)
    have HJ : Hid ((sp == sq) = false) := Lib.hid hx
    clear hx hy hz
    refine (nCmp A1 A2 _ _ 0 wr.heap.size 0 wr.heap.size (limbs N) (limbs M) wr (limbs_ws _) HQ.out.2.2.2.2.1 (limbs_ws _) HQ.out.2.2.2.2.2.1 (by omega) (by omega)).mono ?_
    rintro e w5 ⟨rfl, qq, rfl⟩
    have HQ5 := Lib.hid (And.intro (HQ.out.1.keep (belowN (Below.refl wr.heap.size wr) qq) hbp') (And.intro (HQ.out.2.1.keep (belowN (Below.refl wr.heap.size wr) qq) hbq') (And.intro (belowN HQ.out.2.2.1 qq) (And.intro (show (wr.drewN qq).heap[w.heap.size]? = _ from HQ.out.2.2.2.1) (And.intro (show WordsIn 0 (wr.drewN qq).heap.size (wr.drewN qq) _ _ from HQ.out.2.2.2.2.1.keep ((Keep.refl _ _ _).drewN qq)) (And.intro (show WordsIn 0 (wr.drewN qq).heap.size (wr.drewN qq) _ _ from HQ.out.2.2.2.2.2.1.keep ((Keep.refl _ _ _).drewN qq)) (show WordsIn 0 (wr.drewN qq).heap.size (wr.drewN qq) _ _ from HQ.out.2.2.2.2.2.2.keep ((Keep.refl _ _ _).drewN qq))))))))
    have hsz5 : w.heap.size < (wr.drewN qq).heap.size := hsz
    have hbp5 : bp < (wr.drewN qq).heap.size := hbp'
    have hbq5 : bq < (wr.drewN qq).heap.size := hbq'
    clear HQ hsz hbp' hbq' s1 s2 s3 s4 s5 s6
    rw [val_limbs n1, val_limbs n2]
    generalize wr.drewN qq = wr at *
    have HQ := HQ5
    have hsz := hsz5
    have hbp' := hbp5
    have hbq' := hbq5
    obtain ⟨⟨s1, s2, s3⟩, ⟨s4, s5, s6⟩, _⟩ := HQ.out
    rw [HP.out.1] at s1
    rw [HP.out.2] at s4
    by_cases hlt : N < M
    · rw [icmp_lt hlt]
      have HL := Lib.hid hlt
      clear hlt
      go_wp2_with (fail)
      obtain ⟨hC1, hC2, hB, hrow, hF1, hF2, hF3⟩ := HQ.out
      have hA4 := nSub A2 A1 (limbs M).length (limbs N).length 0 wr.heap.size (limbs M) (limbs N) wr.drew (limbs_ws _) (hF2.keep (Keep.refl _ _ wr).drew) (limbs_ws _) (hF1.keep (Keep.refl _ _ wr).drew) (Nat.le_refl _) (by omega) (by omega) (by rw [val_limbs n1, val_limbs n2]; have := HL.out; omega) (by rw [val_limbs n2]; omega)
      rw [val_limbs n1, val_limbs n2] at hA4
      have hX0 : 0 ≤ M - N := by have := HL.out; omega
      have hXl : (limbs (M - N)).length ≤ 4096 := Nat.le_trans (limbs_mono hX0 (by omega)) q2
      have HA4 := Lib.hid hA4
      have hF3d : WordsIn 0 wr.drew.heap.size wr.drew A3 (limbs D') := hF3.keep (Keep.refl _ _ wr).drew
      clear hA4 hC1 hC2
      refine start_ (n := 11) (S := fun w' => w'.cell? ⟨bp, 0, none⟩ = some (.bool sp) ∧ w'.cell? ⟨bq, 0, none⟩ = some (.bool sq)) (ds := [10]) (bt 11 0) (by kernel_rfl) rfl rfl (⟨s1, s4⟩) (fun hHeld => ?_)
      refine pv_ 0 54 ?_
      refine ld_ 1 55 ?_ hHeld ?_ ?_; rotate_left
      · rintro w' ⟨s1, s4⟩
        go_simp; with_reducible rfl
      refine pv_ 2 56 ?_
      refine pv_ 3 57 ?_
      refine pv_ 8 62 ?_
      refine ca_ 4 58 Tryz.func97 #[.slice A2 (limbs M).length (limbs M).length, .slice A1 (limbs N).length (limbs N).length] ?_
      with_reducible refine (HA4.out).mono ?_
      rintro e w' ⟨A4, rfl, hf4, hb4⟩
      refine ⟨_, rfl, (by first | (exact hHeld) | (exact ⟨(hb5.cell (p := ⟨bp, 0, none⟩) (Nat.lt_of_lt_of_le hbp' hb4.size)).trans hHeld.1, (hb5.cell (p := ⟨bq, 0, none⟩) (Nat.lt_of_lt_of_le hbq' hb4.size)).trans hHeld.2⟩) | (exact ⟨(hb4.cell (p := ⟨bp, 0, none⟩) hbp').trans hHeld.1, (hb4.cell (p := ⟨bq, 0, none⟩) hbq').trans hHeld.2⟩)), fun hHeld => ?_⟩
      refine nn ?_
      refine pv_ 5 59 ?_
      refine pv_ 6 60 ?_
      refine ca_ 7 61 Tryz.func94 #[.slice A4 (limbs (M - N)).length (limbs (M - N)).length, .int .i64 0] ?_
      with_reducible refine (rFits _ _ _ _).mono ?_
      rintro e w' ⟨rfl, rfl⟩
      refine ⟨_, rfl, (by first | (exact hHeld) | (exact ⟨(hb5.cell (p := ⟨bp, 0, none⟩) (Nat.lt_of_lt_of_le hbp' hb4.size)).trans hHeld.1, (hb5.cell (p := ⟨bq, 0, none⟩) (Nat.lt_of_lt_of_le hbq' hb4.size)).trans hHeld.2⟩) | (exact ⟨(hb4.cell (p := ⟨bp, 0, none⟩) hbp').trans hHeld.1, (hb4.cell (p := ⟨bq, 0, none⟩) hbq').trans hHeld.2⟩)), fun hHeld => ?_⟩
      refine nn ?_
      refine ca_ 9 63 Tryz.func93 #[.bool (sq), .slice A4 (limbs (M - N)).length (limbs (M - N)).length, .slice A3 (limbs D').length (limbs D').length] ?_
      with_reducible refine (rLowest (sq) A4 A3 _ _ 0 _ _ _ _ (limbs_ws _) (hf4.words.wide (Nat.zero_le _) (Nat.le_refl _)) (limbs_ws _) ((hF3d.keep (Keep.of hb4 (Nat.le_refl _))).wide (Nat.le_refl _) hb4.size) (Nat.le_refl _) (by rw [val_limbs (Int.le_of_lt n3)]; exact n3) (Nat.le_trans hXl (by decide)) (by omega)).mono ?_
      rintro e w' ⟨E, F, rfl, hf5, hb5⟩
      refine ⟨_, rfl, (by first | (exact hHeld) | (exact ⟨(hb5.cell (p := ⟨bp, 0, none⟩) (Nat.lt_of_lt_of_le hbp' hb4.size)).trans hHeld.1, (hb5.cell (p := ⟨bq, 0, none⟩) (Nat.lt_of_lt_of_le hbq' hb4.size)).trans hHeld.2⟩) | (exact ⟨(hb4.cell (p := ⟨bp, 0, none⟩) hbp').trans hHeld.1, (hb4.cell (p := ⟨bq, 0, none⟩) hbq').trans hHeld.2⟩)), fun hHeld => ?_⟩
      refine nn ?_
      refine last_ (i := 10) (N := none) (bt 11 2047) rfl rfl (by kernel_rfl) (by decide) (fun K hK => ?_)
      obtain ⟨d0, d1, d2, g0, g1, g2⟩ := row3 ((hb5.block _ (Nat.lt_of_lt_of_le hsz hb4.size)).trans ((hb4.block _ hsz).trans hrow))
      have hrow5 := Lib.hid ((hb5.block _ (Nat.lt_of_lt_of_le hsz hb4.size)).trans ((hb4.block _ hsz).trans hrow))
      unfold qv
      refine skip_ (w1 := ?_) (by rfl) rfl ?_ ?_
      rotate_left
      · go_simp
        rfl
      refine hK.out _ _ ?_
      clear hK K
      refine done_ (by kernel_rfl) ?_
      go_wp2_with (fail)
      have hq' : quo (sq) (val (limbs (M - N))) (val (limbs D')) = p + q := by
        rw [val_limbs hX0, val_limbs (Int.le_of_lt n3)]; exact HS.out.2.1 HJ.out HL.out
      refine bodyPost_ret (results_cell_row rfl _ _ w.heap.size _ _ _ _ rfl (heap_set_three hrow5.out _ _ _) rfl rfl rfl) rfl ?_
      rw [hq'] at hf5 ⊢
      have t5 := Nat.lt_of_lt_of_le hsz hb4.size
      exact ⟨E, F, rfl, (rat_three t5 hf5).wide (Nat.le_of_lt t5), below_three (Nat.le_refl _) ((hB.drew.trans (hb4.mono (Nat.le_of_lt hsz))).trans (hb5.mono (Nat.le_of_lt t5)))⟩
    · have hle : M ≤ N := by omega
      have hc : (icmp N M < 0) = False := eq_false (by unfold icmp; rw [if_neg hlt]; split <;> omega)
      have HL := Lib.hid hle
      clear hle hlt
      go_wp2_with (fail)
      obtain ⟨hC1, hC2, hB, hrow, hF1, hF2, hF3⟩ := HQ.out
      have hA4 := nSub A1 A2 (limbs N).length (limbs M).length 0 wr.heap.size (limbs N) (limbs M) wr.drew (limbs_ws _) (hF1.keep (Keep.refl _ _ wr).drew) (limbs_ws _) (hF2.keep (Keep.refl _ _ wr).drew) (Nat.le_refl _) (by omega) (by omega) (by rw [val_limbs n1, val_limbs n2]; have := HL.out; omega) (by rw [val_limbs n1]; omega)
      rw [val_limbs n1, val_limbs n2] at hA4
      have hX0 : 0 ≤ N - M := by have := HL.out; omega
      have hXl : (limbs (N - M)).length ≤ 4096 := Nat.le_trans (limbs_mono hX0 (by omega)) q1
      have HA4 := Lib.hid hA4
      have hF3d : WordsIn 0 wr.drew.heap.size wr.drew A3 (limbs D') := hF3.keep (Keep.refl _ _ wr).drew
      clear hA4 hC1 hC2
      refine start_ (n := 11) (S := fun w' => w'.cell? ⟨bp, 0, none⟩ = some (.bool sp) ∧ w'.cell? ⟨bq, 0, none⟩ = some (.bool sq)) (ds := [10]) (bt 11 0) (by kernel_rfl) rfl rfl (⟨s1, s4⟩) (fun hHeld => ?_)
      refine pv_ 0 64 ?_
      refine ld_ 1 65 ?_ hHeld ?_ ?_; rotate_left
      · rintro w' ⟨s1, s4⟩
        go_simp; with_reducible rfl
      refine pv_ 2 66 ?_
      refine pv_ 3 67 ?_
      refine pv_ 8 72 ?_
      refine ca_ 4 68 Tryz.func97 #[.slice A1 (limbs N).length (limbs N).length, .slice A2 (limbs M).length (limbs M).length] ?_
      with_reducible refine (HA4.out).mono ?_
      rintro e w' ⟨A4, rfl, hf4, hb4⟩
      refine ⟨_, rfl, (by first | (exact hHeld) | (exact ⟨(hb5.cell (p := ⟨bp, 0, none⟩) (Nat.lt_of_lt_of_le hbp' hb4.size)).trans hHeld.1, (hb5.cell (p := ⟨bq, 0, none⟩) (Nat.lt_of_lt_of_le hbq' hb4.size)).trans hHeld.2⟩) | (exact ⟨(hb4.cell (p := ⟨bp, 0, none⟩) hbp').trans hHeld.1, (hb4.cell (p := ⟨bq, 0, none⟩) hbq').trans hHeld.2⟩)), fun hHeld => ?_⟩
      refine nn ?_
      refine pv_ 5 69 ?_
      refine pv_ 6 70 ?_
      refine ca_ 7 71 Tryz.func94 #[.slice A4 (limbs (N - M)).length (limbs (N - M)).length, .int .i64 0] ?_
      with_reducible refine (rFits _ _ _ _).mono ?_
      rintro e w' ⟨rfl, rfl⟩
      refine ⟨_, rfl, (by first | (exact hHeld) | (exact ⟨(hb5.cell (p := ⟨bp, 0, none⟩) (Nat.lt_of_lt_of_le hbp' hb4.size)).trans hHeld.1, (hb5.cell (p := ⟨bq, 0, none⟩) (Nat.lt_of_lt_of_le hbq' hb4.size)).trans hHeld.2⟩) | (exact ⟨(hb4.cell (p := ⟨bp, 0, none⟩) hbp').trans hHeld.1, (hb4.cell (p := ⟨bq, 0, none⟩) hbq').trans hHeld.2⟩)), fun hHeld => ?_⟩
      refine nn ?_
      refine ca_ 9 73 Tryz.func93 #[.bool (sp), .slice A4 (limbs (N - M)).length (limbs (N - M)).length, .slice A3 (limbs D').length (limbs D').length] ?_
      with_reducible refine (rLowest (sp) A4 A3 _ _ 0 _ _ _ _ (limbs_ws _) (hf4.words.wide (Nat.zero_le _) (Nat.le_refl _)) (limbs_ws _) ((hF3d.keep (Keep.of hb4 (Nat.le_refl _))).wide (Nat.le_refl _) hb4.size) (Nat.le_refl _) (by rw [val_limbs (Int.le_of_lt n3)]; exact n3) (Nat.le_trans hXl (by decide)) (by omega)).mono ?_
      rintro e w' ⟨E, F, rfl, hf5, hb5⟩
      refine ⟨_, rfl, (by first | (exact hHeld) | (exact ⟨(hb5.cell (p := ⟨bp, 0, none⟩) (Nat.lt_of_lt_of_le hbp' hb4.size)).trans hHeld.1, (hb5.cell (p := ⟨bq, 0, none⟩) (Nat.lt_of_lt_of_le hbq' hb4.size)).trans hHeld.2⟩) | (exact ⟨(hb4.cell (p := ⟨bp, 0, none⟩) hbp').trans hHeld.1, (hb4.cell (p := ⟨bq, 0, none⟩) hbq').trans hHeld.2⟩)), fun hHeld => ?_⟩
      refine nn ?_
      refine last_ (i := 10) (N := none) (bt 11 2047) rfl rfl (by kernel_rfl) (by decide) (fun K hK => ?_)
      obtain ⟨d0, d1, d2, g0, g1, g2⟩ := row3 ((hb5.block _ (Nat.lt_of_lt_of_le hsz hb4.size)).trans ((hb4.block _ hsz).trans hrow))
      have hrow5 := Lib.hid ((hb5.block _ (Nat.lt_of_lt_of_le hsz hb4.size)).trans ((hb4.block _ hsz).trans hrow))
      unfold qv
      refine skip_ (w1 := ?_) (by rfl) rfl ?_ ?_
      rotate_left
      · go_simp
        rfl
      refine hK.out _ _ ?_
      clear hK K
      refine done_ (by kernel_rfl) ?_
      go_wp2_with (fail)
      have hq' : quo (sp) (val (limbs (N - M))) (val (limbs D')) = p + q := by
        rw [val_limbs hX0, val_limbs (Int.le_of_lt n3)]; exact HS.out.2.2 HJ.out HL.out
      refine bodyPost_ret (results_cell_row rfl _ _ w.heap.size _ _ _ _ rfl (heap_set_three hrow5.out _ _ _) rfl rfl rfl) rfl ?_
      rw [hq'] at hf5 ⊢
      have t5 := Nat.lt_of_lt_of_le hsz hb4.size
      exact ⟨E, F, rfl, (rat_three t5 hf5).wide (Nat.le_of_lt t5), below_three (Nat.le_refl _) ((hB.drew.trans (hb4.mono (Nat.le_of_lt hsz))).trans (hb5.mono (Nat.le_of_lt t5)))⟩
end Go.Proofs.YtfpofmifmapmfaaGreatDoor
