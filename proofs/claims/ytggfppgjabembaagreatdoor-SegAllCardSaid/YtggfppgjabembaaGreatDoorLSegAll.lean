/- The law SegAll of package plumblaw23 answers true at every line, and changes nothing that it was handed: the tied card, for every input, no condition. -/
import Derived.Test.YtggfppgjabembaaGreatDoorKR
import Derived.Test.YtggfppgjabembaaGreatDoorKI
import Derived.Test.YtggfppgjabembaaGreatDoorCards
import Derived.Test.YtggfppgjabembaaGreatDoorTie
import Derived.SevenTiedAt
import Derived.Deep.Slices
namespace Go.Proofs.YtggfppgjabembaaGreatDoor
open Go.RowKit Go.Proofs.YtggfppgjabembaaGreatDoorW.PrintLast
set_option linter.unusedVariables false
set_option linter.unusedSimpArgs false
theorem Bx.h {n : Nat} {w0 w : World} {L : List (Nat × Obj)} {R : List (Option Addr × Option Addr × Rat)} (h : Bx n w0 w L R) : Below n w0 w := h.m.b
theorem ptC_set : ∀ (l : List Pt) (i : Nat) (p : Pt), i < l.length → ((ptC l).set (i * 2) (.int .u64 p.1)).set (i * 2 + 1) (.int .u64 p.2) = ptC (l.set i p)
  | q :: l, 0, p, h => rfl
  | q :: l, i + 1, p, h => by
    have := ptC_set l i p (by simpa using h)
    rw [show (i + 1) * 2 = i * 2 + 2 by omega]
    simp only [ptC, List.set_cons_succ]
    rw [this]
theorem own_set_pt {w : World} {base g m c i : Nat} {l : List Pt} (h : w.ownsRow base 24 2 (.slice (some ⟨g, 0, none⟩) m c) m (ptC l)) (hi : i < m) (hl : l.length = m) (p : Pt) :
    ((w.setCell ⟨g, i * 2, none⟩ (.int .u64 p.1)).setCell ⟨g, i * 2 + 1, none⟩ (.int .u64 p.2)).ownsRow base 24 2 (.slice (some ⟨g, 0, none⟩) m c) m (ptC (l.set i p)) := by
  refine ⟨by rw [ptC_len, List.length_set, hl], ?_⟩
  rcases h.2 with ⟨h, _⟩ | ⟨g', cap, cur, h1, h2, h3, h4, h5, h6, h7⟩
  · cases h
  · cases h1
    right
    refine ⟨g, c, (cur.setIfInBounds (i * 2) (.int .u64 p.1)).setIfInBounds (i * 2 + 1) (.int .u64 p.2), rfl, h2, heap_set_cell (heap_set_cell h3 _ _) _ _, h4, h5, by simpa using h6, ?_⟩
    rw [← ptC_set l i p (by omega), ← h7]
    apply List.ext_getElem?
    intro k
    simp only [Array.toList_setIfInBounds, List.getElem?_take, List.getElem?_set, List.length_take, List.length_set]
    by_cases hk : k < m * 2
    · simp only [hk, if_true]
      have hz : cur.toList.length = c * 2 := by simpa using h6
      by_cases e1 : i * 2 + 1 = k
      · subst e1
        simp only [if_true]
        rw [if_pos (by omega), if_pos (by omega)]
      · simp only [e1, if_false]
        by_cases e2 : i * 2 = k
        · subst e2
          simp only [if_true]
          rw [if_pos (by omega), if_pos (by omega)]
        · simp only [e2, if_false]
    · simp only [hk, if_false]
      have e1 : ¬ i * 2 + 1 = k := by omega
      have e2 : ¬ i * 2 = k := by omega
      simp only [e1, e2, if_false]
theorem own_pts {w : World} {base m c : Nat} {A : Option Addr} {l : List Pt} (h : w.ownsRow base 24 2 (.slice A m c) m (ptC l)) (hl : l.length = m) : PtsIn w A l := by
  by_cases h0 : m = 0
  · left; exact List.eq_nil_of_length_eq_zero (by omega)
  · obtain ⟨g, c', e, h1, h2, h3⟩ := own_value h (by omega)
    cases e
    refine Or.inr ⟨g, 0, rfl, h2, fun i hi => ?_⟩
    obtain ⟨k1, k2⟩ := ptC_get l i hi
    have key : ∀ j u, (ptC l)[j]? = some u → w.cell? ⟨g, 0 + j, none⟩ = some u := fun j u hu => by
      have := h.cells rfl j u hu
      have e : (⟨g, 0, none⟩ : Addr).add j = ⟨g, 0 + j, none⟩ := by
        unfold Addr.add
        split
        · rename_i h; simp [h]
        · rfl
      rw [e] at this
      exact this
    refine ⟨key _ _ k1, ?_⟩
    rw [Nat.add_assoc]
    exact key _ _ k2
theorem own_free2 {w : World} {base m c : Nat} {A : Option Addr} {xs : List Value} {e : TypeId} {g : Nat} (h : w.ownsRow base e 2 (.slice (some ⟨g, 0, none⟩) m c) m xs) (k : Nat) : w.frozen? ⟨g, k, none⟩ = false := by
  rcases h.2 with ⟨h, _⟩ | ⟨g', cap, cur, h1, h2, h3, h4⟩
  · cases h
  · cases h1; exact free_of_cells h3 k
def mixP (rs : List Pt) (i : Nat) : List Pt := (rs.take i).map spot ++ rs.drop i
theorem mixP_len (rs : List Pt) (i : Nat) : (mixP rs i).length = rs.length := by unfold mixP; simp; omega
theorem mixP_zero (rs : List Pt) : mixP rs 0 = rs := by simp [mixP]
theorem mixP_all (rs : List Pt) : mixP rs rs.length = rs.map spot := by simp [mixP]
theorem mixP_at {rs : List Pt} {i : Nat} (h : i < rs.length) : (mixP rs i).getD i (0, 0) = rs.getD i (0, 0) := by
  unfold mixP
  rw [List.getD_eq_getElem?_getD, List.getElem?_append_right (by simp; omega)]
  simp
  rw [Nat.min_eq_left (by omega), Nat.sub_self, Nat.add_zero]
theorem mixP_step {rs : List Pt} {i : Nat} (h : i < rs.length) : (mixP rs i).set i (spot (rs.getD i (0, 0))) = mixP rs (i + 1) := by
  unfold mixP
  rw [List.set_append_right _ _ (by simp; omega)]
  simp only [List.length_map, List.length_take]
  rw [Nat.min_eq_left (by omega), Nat.sub_self, List.drop_eq_getElem_cons h, List.set_cons_zero, List.take_add_one, List.map_append, List.append_assoc, List.getElem?_eq_getElem h, List.getD_eq_getElem?_getD, List.getElem?_eq_getElem h]
  rfl
set_option maxRecDepth 100000 in
set_option maxHeartbeats 12800000 in
theorem lSegAll (A : Option Addr) (c : Nat) (qs : List Pt) (w : World) (hp : PtsIn w A qs) (hl : qs.length ≤ 9223372036854775807) (hu : ∀ p ∈ qs, PtU p) :
    Calls Tryz.prog 7 #[.slice A qs.length c] w fun e w' => e = .returned (.bool true) ∧ Below w.heap.size w w' := by
  have HC := Lib.hid (lCut A c qs w hp hl)
  have hur : ∀ p ∈ qs.take 10, PtU p := fun p h => hu p (List.mem_of_mem_take h)
  have hm10 : (qs.take 10).length ≤ 10 := by rw [List.length_take]; omega
  have HU := Lib.hid hur
  have LA := Lib.hid (fun wz => lAlive wz)
  clear hp hu hur
  generalize qs.take 10 = rs at *
  go_enter Tryz.func7, Tryz.ntmps7
  ((try dsimp only); repeat (first | go_values | go_skip | go_guarded | go_step | go_upon))
  refine HC.out.mono ?_
  rintro e w1 ⟨v1, rfl, hown, hb1⟩
  obtain ⟨m, hm⟩ : ∃ m, rs.length = m := ⟨_, rfl⟩
  rw [hm] at hown hm10
  obtain ⟨A1, c1, rfl⟩ := own_form hown
  have HO := Lib.hid (And.intro hown hb1)
  have HMm := Lib.hid hm
  clear hown hb1 HC hm
  ((try dsimp only); repeat (first | go_values | go_skip | go_guarded | go_step | go_upon))
  go_loopw [3] (fun x wr => ∃ i : Nat, x = .int .i64 (i : Int) ∧ i ≤ m ∧ wr.ownsRow w.heap.size 24 2 (.slice A1 m c1) m (ptC (mixP rs i)) ∧ Below w.heap.size w wr) (fun x _ => m - (intOf x).toNat)
  case atStart => exact ⟨0, rfl, Nat.zero_le _, by rw [mixP_zero]; exact HO.out.1, HO.out.2⟩
  case round =>
    obtain ⟨i, rfl, hi, hown, hB⟩ := hrel
    by_cases h0 : i < m
    · have hpi := own_pts hown (by rw [mixP_len, HMm.out])
      obtain ⟨b, o, hA, hb, hpa⟩ := hpi.open (k := i) (by rw [mixP_len, HMm.out]; exact h0)
      obtain ⟨g, c', e, hg1, hg2, hg3⟩ := own_value hown (by omega)
      obtain ⟨rfl, rfl⟩ : A1 = some ⟨g, 0, none⟩ ∧ c1 = c' := by cases e; exact ⟨rfl, rfl⟩
      cases hA
      have hpk := hpa i (by rw [mixP_len, HMm.out]; exact h0)
      rw [mixP_at (by rw [HMm.out]; exact h0)] at hpk
      obtain ⟨x0, x1⟩ := hpk
      simp only [Nat.zero_add] at x0 x1
      have HSp := Lib.hid (fun wz => lSpot (rs.getD i (0, 0)) wz (HU.out _ (getD_mem (by rw [HMm.out]; exact h0))))
      have HSt := Lib.hid (mixP_step (rs := rs) (i := i) (by rw [HMm.out]; exact h0))
      generalize rs.getD i (0, 0) = p at *
      generalize spot p = p' at *
      have HX := Lib.hid (And.intro hown hB)
      clear hpi hpa hown hB hb hg2 hg3
      unfold pt at HSp
      ((try dsimp only); repeat (first | go_values | go_skip | go_guarded | go_step | go_upon))
      refine (HSp.out _).mono ?_
      rintro e w2 ⟨rfl, hb2⟩
      have hO2 := ownsRow_keep HX.out.1 hb2
      have hB2 := HX.out.2.trans (hb2.mono HX.out.2.size)
      have hq := own_pts hO2 (by rw [mixP_len, HMm.out])
      obtain ⟨b, o, hA, hb, hpa⟩ := hq.open (k := i) (by rw [mixP_len, HMm.out]; exact h0)
      cases hA
      obtain ⟨y0, y1⟩ := hpa i (by rw [mixP_len, HMm.out]; exact h0)
      simp only [Nat.zero_add] at y0 y1
      have z0 := own_free2 (A := none) hO2 (i * 2)
      have z1 := own_free2 (A := none) hO2 (i * 2 + 1)
      have z2 := own_free2 (A := none) hO2 (0 + i * 2)
      have z3 := own_free2 (A := none) hO2 (0 + i * 2 + 1)
      have HY := Lib.hid (And.intro (own_set_pt hO2 h0 (by rw [mixP_len, HMm.out]) p') ((hB2.setCell (p := ⟨b, i * 2, none⟩) hg1 (.int .u64 p'.1)).setCell (p := ⟨b, i * 2 + 1, none⟩) hg1 (.int .u64 p'.2)))
      clear x0 x1 HX hO2 hB2 hq hb hb2 hpa
      ((try dsimp only); repeat (first | go_values | go_skip | go_guarded | go_step | go_upon))
      exact ⟨⟨i + 1, vint (by omega), by omega, by rw [← HSt.out]; exact HY.out.1, HY.out.2⟩, by simp [intOf]; omega⟩
    · have him : m = i := by omega
      subst him
      as_aux_lemma =>
      have hmx : mixP rs m = rs.map spot := by rw [← HMm.out]; exact mixP_all rs
      rw [hmx] at hown
      have hF : ∀ p ∈ rs.map spot, FinP p := by
        intro p hp
        obtain ⟨q, hq, rfl⟩ := List.mem_map.1 hp
        exact spot_fin (HU.out q hq)
      have hlen : (rs.map spot).length = m := by rw [List.length_map]; exact HMm.out
      generalize rs.map spot = ps at *
      have hpts := own_pts hown hlen
      have hPs := sPairs A1 c1 ps wr hpts (by omega) hF
      rw [hlen] at hPs
      have HPs := Lib.hid hPs
      have HO1 := Lib.hid (And.intro hown hB)
      have HFP := Lib.hid (And.intro hF hlen)
      obtain ⟨N, hN⟩ : ∃ N, m - 1 = N := ⟨_, rfl⟩
      rw [hN] at HPs
      have hN9 : N ≤ 9 := by omega
      have hzl : ∀ i : Nat, ((i : Int) < (m : Int) - 1) ↔ i < N := by intro i; rw [← hN]; omega
      have HZL := Lib.hid hzl
      have HN := Lib.hid hN
      clear hF hlen hpts hPs hown hB hmx HO HMm HU h0 hi hzl hN
      ((try dsimp only); repeat (first | go_values | go_skip | go_guarded | go_step | go_upon))
      refine HPs.out.mono ?_
      rintro e w2 ⟨v2, rfl, hown2, hb2⟩
      obtain ⟨A2, c2, rfl⟩ := own_form hown2
      have HO2 := Lib.hid (And.intro (ownsRow_keep HO1.out.1 hb2) (And.intro (ownsRow_base hown2 HO1.out.2.size) (HO1.out.2.trans (hb2.mono HO1.out.2.size))))
      clear hown2 hb2 HO1 HPs
      ((try dsimp only); repeat (first | go_values | go_skip | go_guarded | go_step | go_upon))
      refine (LA.out _).mono ?_
      rintro e w3 ⟨rfl, hb3⟩
      have HO3 := Lib.hid (And.intro (ownsRow_keep HO2.out.1 hb3) (And.intro (ownsRow_keep HO2.out.2.1 hb3) (HO2.out.2.2.trans (hb3.mono HO2.out.2.2.size))))
      clear HO2 hb3 LA
      ((try dsimp only); repeat (first | go_values | go_skip | go_guarded | go_step | go_upon))
      obtain ⟨z, hz⟩ : ∃ z : Int, (m : Int) - 1 = z := ⟨_, rfl⟩
      rw [hz] at HZL ⊢
      have HZ := Lib.hid hz
      clear hz
      go_loopw [7, 8] (fun v x wr => ∃ i k : Nat, v = .int .i64 (k : Int) ∧ x = .int .i64 (i : Int) ∧ i ≤ N ∧ k = (prsP ps N i).length ∧ Below w3.heap.size w3 wr) (fun _ x _ => N - (intOf x).toNat)
      case atStart => exact ⟨0, 0, rfl, rfl, Nat.zero_le _, rfl, Below.refl _ _⟩
      case round =>
        obtain ⟨i, k, rfl, rfl, hi, hk, hB⟩ := hrel
        have HK := Lib.hid hk
        clear hk
        by_cases h1 : i < N
        · have h1z := (HZL.out i).2 h1
          ((try dsimp only); repeat (first | go_values | go_skip | go_guarded | go_step | go_upon))
          go_loopw [7, 9] (fun v x ws => ∃ j k : Nat, v = .int .i64 (k : Int) ∧ x = .int .i64 (j : Int) ∧ i + 1 ≤ j ∧ j ≤ N ∧ k = (prsP ps N i ++ rowP ps N i j).length ∧ Below w3.heap.size w3 ws) (fun _ x _ => N - (intOf x).toNat)
          case atStart => exact ⟨i + 1, k, rfl, vint (by omega), Nat.le_refl _, h1, by rw [rowP_start, List.append_nil]; exact HK.out, hB⟩
          case round =>
            obtain ⟨j, k, rfl, rfl, hij, hj, hk, hB⟩ := hrel
            have HK := Lib.hid hk
            clear hk
            by_cases h2 : j < N
            · have h2z := (HZL.out j).2 h2
              as_aux_lemma =>
              have hzN : z = (N : Int) := by have h1 := HZ.out; have h2 := HN.out; omega
              subst hzN
              have hm1 : m = N + 1 := by have := HN.out; omega
              have hlp : ps.length = N + 1 := HFP.out.2.trans hm1
              have HL := Lib.hid (all_law HFP.out.1 hlp (show i < j by omega) h2)
              have HPr := Lib.hid (fun ht => prsP_at (ps := ps) h1 (show i < j by omega) h2 ht)
              have HRs := Lib.hid (rowP_step (ps := ps) (n := N) (show i < j by omega))
              have HCm : Hid (comP ps i j = (decide ((mkP ps i j).kind = 1) && decide (j = i + 1) && placeB (mkP ps i j).P (ptk ps j))) := Lib.hid rfl
              have HLs : Hid (lasP ps N i j = (decide ((mkP ps i j).kind = 1) && decide (3 ≤ N) && decide (i = 0) && decide (j = N - 1) && placeB (ptk ps 0) (ptk ps N) && placeB (mkP ps i j).P (ptk ps 0))) := Lib.hid rfl
              have gF : ∀ k, k ≤ N → FinP (ptk ps k) := fun k hk => HFP.out.1 _ (getD_mem (by omega))
              have f0 := gF i (by omega)
              have f1 := gF (i + 1) (by omega)
              have f2 := gF j (by omega)
              have f3 := gF (j + 1) (by omega)
              have f4 := gF 0 (by omega)
              have f5 := gF N (by omega)
              have hMe := fun wz => sMeetAny _ _ _ _ wz f0 f1 f2 f3
              have hkd := (meetM_sym f0 f1 f2 f3).kd
              have fP := (meetM_fin f0 f1 f2 f3).1
              have eM : meetM (ptk ps i) (ptk ps (i + 1)) (ptk ps j) (ptk ps (j + 1)) = mkP ps i j := rfl
              simp only [eM] at hMe hkd fP
              have HMe := Lib.hid hMe
              have HPa := Lib.hid (fun wz => lPlace _ _ wz fP f2)
              have HPb := Lib.hid (fun wz => lPlace _ _ wz f4 f5)
              have HPc := Lib.hid (fun wz => lPlace _ _ wz fP f4)
              obtain ⟨g, c', hA, hg1, hg2, hg3⟩ := own_value HO3.out.1 (show 0 < m by omega)
              obtain ⟨rfl, rfl⟩ : A1 = some ⟨g, 0, none⟩ ∧ c1 = c' := by cases hA; exact ⟨rfl, rfl⟩
              clear hA hg1 hg2 hg3 eM f0 f1 f2 f3 f4 f5 gF fP hMe
              obtain ⟨i1, hi1⟩ : ∃ i1, i1 = i + 1 := ⟨_, rfl⟩
              obtain ⟨j1, hj1⟩ : ∃ j1, j1 = j + 1 := ⟨_, rfl⟩
              rw [← hi1, ← hj1] at HMe
              have HR := Lib.hid (fun wz (h : Below w3.heap.size w3 wz) => And.intro (own_pt (ownsRow_keep HO3.out.1 h) (show i < ps.length by omega)) (And.intro (own_pt (ownsRow_keep HO3.out.1 h) (show i1 < ps.length by omega)) (And.intro (own_pt (ownsRow_keep HO3.out.1 h) (show j < ps.length by omega)) (own_pt (ownsRow_keep HO3.out.1 h) (show j1 < ps.length by omega)))))
              have HR2 := Lib.hid (fun wz (h : Below w3.heap.size w3 wz) => And.intro (own_pt (ownsRow_keep HO3.out.1 h) (show 0 < ps.length by omega)) (And.intro (own_pt (ownsRow_keep HO3.out.1 h) (show N < ps.length by omega)) (own_pt (ownsRow_keep HO3.out.1 h) (show j < ps.length by omega))))
              simp only [Nat.zero_mul, Nat.zero_add] at HR2
              have hw1 : wrap64 ((i : Int) + 1) = (i1 : Int) := by rw [hi1]; unfold wrap64; omega
              have hw2 : wrap64 ((j : Int) + 1) = (j1 : Int) := by rw [hj1]; unfold wrap64; omega
              have hi1m : i1 < m := by omega
              have hj1m : j1 < m := by omega
              have him' : i < m := by omega
              have hjm : j < m := by omega
              have h0m : 0 < m := by omega
              have hNm : N < m := by omega
              have HIJ := Lib.hid (And.intro hi1 (And.intro hj1 hm1))
              have HX := Lib.hid hB
              clear hi1 hj1 hm1 hlp hB HZL HZ HN HFP
              generalize hq0 : ptk ps i = q0 at *
              generalize hq1 : ptk ps i1 = q1 at *
              generalize hq2 : ptk ps j = q2 at *
              generalize hq3 : ptk ps j1 = q3 at *
              generalize hq4 : ptk ps 0 = q4 at *
              generalize hq5 : ptk ps N = q5 at *
              clear hq0 hq1 hq2 hq3 hq4 hq5
              generalize mkP ps i j = mt at *
              generalize hcm : comP ps i j = cm at *
              generalize hls : lasP ps N i j = ls at *
              generalize hts : tstP ps N i j = ts at *
              clear hcm hls hts
              unfold pt at HMe HPa HPb HPc
              unfold mv at HMe
              
              go_upto_region 17 with (fail)
              as_aux_lemma =>
              refine start_ (n := 25) (S := fun w' => Below wr.heap.size wr w') (ds := [23]) (bt 25 0) (by kernel_rfl) rfl rfl ((Below.refl _ _).drew) (fun hHeld => ?_)
              refine pv_ 0 57 ?_
              refine pv_ 1 58 ?_
              refine pv_ 2 59 ?_
              refine ld_ 3 60 ?_ hHeld ?_ ?_; rotate_left
              · rintro w' hs
                obtain ⟨⟨c0, c1⟩, ⟨c2, c3⟩, ⟨c4, c5⟩, ⟨c6, c7⟩⟩ := HR.out _ (HX.out.trans (hs.mono HX.out.size))
                clear hs
                go_simp; with_reducible rfl
              refine pv_ 4 61 ?_
              refine pv_ 5 62 ?_
              refine pv_ 6 63 ?_
              refine pv_ 7 64 ?_
              refine ld_ 8 65 ?_ hHeld ?_ ?_; rotate_left
              · rintro w' hs
                obtain ⟨⟨c0, c1⟩, ⟨c2, c3⟩, ⟨c4, c5⟩, ⟨c6, c7⟩⟩ := HR.out _ (HX.out.trans (hs.mono HX.out.size))
                clear hs
                go_simp; with_reducible rfl
              refine pv_ 9 66 ?_
              refine pv_ 10 67 ?_
              refine pv_ 11 68 ?_
              refine ld_ 12 69 ?_ hHeld ?_ ?_; rotate_left
              · rintro w' hs
                obtain ⟨⟨c0, c1⟩, ⟨c2, c3⟩, ⟨c4, c5⟩, ⟨c6, c7⟩⟩ := HR.out _ (HX.out.trans (hs.mono HX.out.size))
                clear hs
                go_simp; with_reducible rfl
              refine pv_ 13 70 ?_
              refine pv_ 14 71 ?_
              refine pv_ 15 72 ?_
              refine pv_ 16 73 ?_
              refine ld_ 17 74 ?_ hHeld ?_ ?_; rotate_left
              · rintro w' hs
                obtain ⟨⟨c0, c1⟩, ⟨c2, c3⟩, ⟨c4, c5⟩, ⟨c6, c7⟩⟩ := HR.out _ (HX.out.trans (hs.mono HX.out.size))
                clear hs
                go_simp; with_reducible rfl
              refine join_ (σ := Nat) 2 (bt 25 8388607) (fun s => [(75, .tuple #[.agg #[.int .i64 mt.kind, .bool mt.proper, .int .u64 mt.P.1, .int .u64 mt.P.2, .int .u64 mt.Q.1, .int .u64 mt.Q.2], .int .i64 0]), (56, .tuple #[.agg #[.int .i64 mt.kind, .bool mt.proper, .int .u64 mt.P.1, .int .u64 mt.P.2, .int .u64 mt.Q.1, .int .u64 mt.Q.2], .int .i64 0]), (76, .agg #[.int .i64 mt.kind, .bool mt.proper, .int .u64 mt.P.1, .int .u64 mt.P.2, .int .u64 mt.Q.1, .int .u64 mt.Q.2]), (77, .int .i64 0), (10, .pointer (some ⟨s, 0, none⟩))]) (fun s w' => w'.heap[s]? = some (.cells #[.int .i64 0, .bool false, .int .u64 0, .int .u64 0, .int .u64 0, .int .u64 0] 29 (0, 0)) ∧ wr.heap.size ≤ s ∧ Below wr.heap.size wr w') ?_ ?_
              rotate_left
              · intro J
                generalize hwc0 : wr.drew = wc0 at *
                refine o2 18 75 22 10 (bt 25 524287) (bt 25 4456447) ?_ ?_
                · intro K hK
                  refine go_ Tryz.func10 #[.agg #[.int .u64 q0.1, .int .u64 q0.2], .agg #[.int .u64 q1.1, .int .u64 q1.2], .agg #[.int .u64 q2.1, .int .u64 q2.2], .agg #[.int .u64 q3.1, .int .u64 q3.2]] ?_
                  with_reducible refine (HMe.out _).mono ?_
                  rintro e wc1 ⟨rfl, hb1⟩
                  (try replace k7 := (hb1.block _ (heap_lt k7)).trans k7)
                  refine ⟨_, rfl, ?_⟩
                  refine hK.out _ _ (by exact hHeld.trans (hb1.mono hHeld.size)) (fun hHeld => ?_)
                  clear hK K
                  refine nn ?_
                  refine pv_ 19 56 ?_
                  refine pv_ 20 76 ?_
                  refine pv_ 21 77 ?_
                  refine o1 22 10 (bt 25 8388607) ?_
                  · intro K hK
                    refine value_ (v := .pointer (some ⟨wc1.heap.size, 0, none⟩)) (w1 := wc1.alloc (.cells #[.int .i64 0, .bool false, .int .u64 0, .int .u64 0, .int .u64 0, .int .u64 0] 29)) (by rfl) rfl ?_ ?_
                    · go_simp; (try rfl)
                    obtain ⟨wc2, hw2, hb2, hr2⟩ : ∃ x, wc1.alloc (.cells #[.int .i64 0, .bool false, .int .u64 0, .int .u64 0, .int .u64 0, .int .u64 0] 29) = x ∧ Go.RowKit.Below wc1.heap.size wc1 x ∧ x.heap[wc1.heap.size]? = some (.cells #[.int .i64 0, .bool false, .int .u64 0, .int .u64 0, .int .u64 0, .int .u64 0] 29 (0, 0)) := ⟨_, rfl, (Go.RowKit.Below.refl _ _).alloc (Nat.le_refl _) _, alloc_new _ _⟩
                    rw [hw2]
                    have m7 : wr.heap.size ≤ wc1.heap.size := hHeld.size
                    have k7 := hr2
                    (try replace k7 := (hb2.block _ (heap_lt k7)).trans k7)
                    refine hK.out _ _ (by exact hHeld.trans (hb2.mono hHeld.size)) (fun hHeld => ?_)
                    clear hK K
                    refine nn ?_
                    exact norm_ (by rfl) (J _ _ ⟨k7, m7, hHeld⟩)
                · intro K hK
                  refine value_ (v := .pointer (some ⟨wc0.heap.size, 0, none⟩)) (w1 := wc0.alloc (.cells #[.int .i64 0, .bool false, .int .u64 0, .int .u64 0, .int .u64 0, .int .u64 0] 29)) (by rfl) rfl ?_ ?_
                  · go_simp; (try rfl)
                  obtain ⟨wc1, hw1, hb1, hr1⟩ : ∃ x, wc0.alloc (.cells #[.int .i64 0, .bool false, .int .u64 0, .int .u64 0, .int .u64 0, .int .u64 0] 29) = x ∧ Go.RowKit.Below wc0.heap.size wc0 x ∧ x.heap[wc0.heap.size]? = some (.cells #[.int .i64 0, .bool false, .int .u64 0, .int .u64 0, .int .u64 0, .int .u64 0] 29 (0, 0)) := ⟨_, rfl, (Go.RowKit.Below.refl _ _).alloc (Nat.le_refl _) _, alloc_new _ _⟩
                  rw [hw1]
                  have m7 : wr.heap.size ≤ wc0.heap.size := hHeld.size
                  have k7 := hr1
                  (try replace k7 := (hb1.block _ (heap_lt k7)).trans k7)
                  refine hK.out _ _ (by exact hHeld.trans (hb1.mono hHeld.size)) (fun hHeld => ?_)
                  clear hK K
                  refine nn ?_
                  refine o1 18 75 (bt 25 4718591) ?_
                  · intro K hK
                    refine go_ Tryz.func10 #[.agg #[.int .u64 q0.1, .int .u64 q0.2], .agg #[.int .u64 q1.1, .int .u64 q1.2], .agg #[.int .u64 q2.1, .int .u64 q2.2], .agg #[.int .u64 q3.1, .int .u64 q3.2]] ?_
                    with_reducible refine (HMe.out _).mono ?_
                    rintro e wc2 ⟨rfl, hb2⟩
                    (try replace k7 := (hb2.block _ (heap_lt k7)).trans k7)
                    refine ⟨_, rfl, ?_⟩
                    refine hK.out _ _ (by exact hHeld.trans (hb2.mono hHeld.size)) (fun hHeld => ?_)
                    clear hK K
                    refine nn ?_
                    refine pv_ 19 56 ?_
                    refine pv_ 20 76 ?_
                    refine pv_ 21 77 ?_
                    exact norm_ (by rfl) (J _ _ ⟨k7, m7, hHeld⟩)
              rintro gn wj ⟨k7, m7, hHeld⟩
              have HJJ := Lib.hid (And.intro k7 (And.intro m7 hHeld))
              clear k7 m7
              refine na ?_
              refine last_ (i := 23) (N := none) (bt 25 16777215) rfl rfl (by kernel_rfl) (by decide) (fun K hK => ?_)
              obtain ⟨z0, z1, z2, z3, z4, z5, z6, z7, z8, z9, z10, z11⟩ := row6 HJJ.out.1
              refine skip_ (w1 := ?_) (by rfl) rfl ?_ ?_
              rotate_left
              · go_simp
                rfl
              refine hK.out _ _ ?_
              clear hK K
              refine pv_ 24 11 ?_
              refine done_ (by kernel_rfl) ?_
              
              obtain ⟨k7, m7, hHeld⟩ := HJJ.out
              have hn6 := heap_set_sixr k7 (.int .i64 mt.kind) (.bool mt.proper) (.int .u64 mt.P.1) (.int .u64 mt.P.2) (.int .u64 mt.Q.1) (.int .u64 mt.Q.2)
              have hb6 := below_six m7 hHeld (x0 := .int .i64 mt.kind) (x1 := .bool mt.proper) (x2 := .int .u64 mt.P.1) (x3 := .int .u64 mt.P.2) (x4 := .int .u64 mt.Q.1) (x5 := .int .u64 mt.Q.2)
              have HQ := Lib.hid (And.intro (HX.out.trans (hb6.mono HX.out.size)) hn6)
              clear k7 m7 hHeld hn6 hb6 HJJ HX z0 z1 z2 z3 z4 z5 z6 z7 z8 z9 z10 z11 hw1 hw2 HMe
              generalize (World.setCell (World.setCell (World.setCell (World.setCell (World.setCell (World.setCell wj _ _) _ _) _ _) _ _) _ _) _ _) = wd at *
              generalize mt.kind = kd at *
              generalize mt.proper = pr at *
              generalize mt.P = P at *
              generalize mt.Q = Q at *
              have HR3 := Lib.hid (fun wz (h : Below wd.heap.size wd wz) => And.intro (row6 ((h.block gn (heap_lt HQ.out.2)).trans HQ.out.2)) (HR2.out wz (HQ.out.1.trans (h.mono HQ.out.1.size))))
              have HKd := Lib.hid hkd
              clear hkd HR HR2
              go_upto_region 20 with (fail)
              go_cut [12] (fun x wx => x = .bool cm ∧ Below wd.heap.size wd wx)
              case first =>
                by_cases e1 : kd = 1
                · obtain rfl := e1
                  by_cases e2 : j = i1
                  · have b1 : ((j : Int) == (i1 : Int)) = true := beq_iff_eq.2 (by omega)
                    have hcm : cm = true := HL.out.2.1 (by rw [← HIJ.out.1]; simp [e2])
                    have hpl : placeB P q2 = true := by have := HCm.out; rw [hcm] at this; simp only [Bool.true_eq, Bool.and_eq_true] at this; exact this.2
                    simp only [hpl] at HPa
                    have HCM := Lib.hid hcm
                    have hw1 : wrap64 ((i : Int) + 1) = (i1 : Int) := by rw [HIJ.out.1]; unfold wrap64; omega
                    clear hcm hpl e2
                    as_aux_lemma =>
                    refine start_ (n := 19) (S := fun w' => Below wd.heap.size wd w') (ds := []) (bt 19 0) (by kernel_rfl) rfl rfl ((Below.refl _ _).drew) (fun hHeld => ?_)
                    refine pv_ 0 80 ?_
                    refine ld_ 1 81 ?_ hHeld ?_ ?_; rotate_left
                    · rintro w' hs
                      obtain ⟨⟨r0, r1, r2, r3, r4, r5, _⟩, ⟨c0, c1⟩, ⟨c2, c3⟩, ⟨c4, c5⟩⟩ := HR3.out _ hs
                      clear hs
                      go_simp; with_reducible rfl
                    refine pv_ 2 82 ?_
                    (try rw [b0])
                    refine pv_ 3 83 ?_
                    refine pv_ 4 84 ?_
                    refine pv_ 5 85 ?_
                    refine pv_ 6 86 ?_
                    refine pv_ 7 87 ?_
                    (try rw [b1])
                    refine pv_ 8 88 ?_
                    refine pv_ 9 89 ?_
                    refine pv_ 10 90 ?_
                    refine ld_ 11 91 ?_ hHeld ?_ ?_; rotate_left
                    · rintro w' hs
                      obtain ⟨⟨r0, r1, r2, r3, r4, r5, _⟩, ⟨c0, c1⟩, ⟨c2, c3⟩, ⟨c4, c5⟩⟩ := HR3.out _ hs
                      clear hs
                      go_simp; with_reducible rfl
                    refine pv_ 12 92 ?_
                    refine pv_ 13 93 ?_
                    refine pv_ 14 94 ?_
                    refine ld_ 15 95 ?_ hHeld ?_ ?_; rotate_left
                    · rintro w' hs
                      obtain ⟨⟨r0, r1, r2, r3, r4, r5, _⟩, ⟨c0, c1⟩, ⟨c2, c3⟩, ⟨c4, c5⟩⟩ := HR3.out _ hs
                      clear hs
                      go_simp; with_reducible rfl
                    refine ca_ 16 96 Tryz.func15 #[.agg #[.int .u64 P.1, .int .u64 P.2], .agg #[.int .u64 q2.1, .int .u64 q2.2]] ?_
                    with_reducible refine (HPa.out _).mono ?_
                    rintro e w' ⟨rfl, hb1⟩
                    refine ⟨_, rfl, (by exact hHeld.trans (hb1.mono hHeld.size)), fun hHeld => ?_⟩
                    refine nn ?_
                    refine pv_ 17 97 ?_
                    refine pv_ 18 12 ?_
                    refine done_ (by kernel_rfl) ?_
                    go_wp2_with fail
                    go_meet
                    exact ⟨by rw [HCM.out], hHeld⟩
                  · have b1 : ((j : Int) == (i1 : Int)) = false := beq_eq_false_iff_ne.2 (by omega)
                    have HCM : Hid (cm = false) := Lib.hid (by rw [HCm.out, ← HIJ.out.1, decide_eq_false e2]; simp)
                    have hw1 : wrap64 ((i : Int) + 1) = (i1 : Int) := by rw [HIJ.out.1]; unfold wrap64; omega
                    clear e2
                    as_aux_lemma =>
                    refine start_ (n := 19) (S := fun w' => Below wd.heap.size wd w') (ds := []) (bt 19 0) (by kernel_rfl) rfl rfl ((Below.refl _ _).drew) (fun hHeld => ?_)
                    refine pv_ 0 80 ?_
                    refine ld_ 1 81 ?_ hHeld ?_ ?_; rotate_left
                    · rintro w' hs
                      obtain ⟨⟨r0, r1, r2, r3, r4, r5, _⟩, ⟨c0, c1⟩, ⟨c2, c3⟩, ⟨c4, c5⟩⟩ := HR3.out _ hs
                      clear hs
                      go_simp; with_reducible rfl
                    refine pv_ 2 82 ?_
                    (try rw [b0])
                    refine pv_ 3 83 ?_
                    refine pv_ 4 84 ?_
                    refine pv_ 5 85 ?_
                    refine pv_ 6 86 ?_
                    refine pv_ 7 87 ?_
                    (try rw [b1])
                    refine pv_ 8 88 ?_
                    refine pv_ 9 89 ?_
                    refine of 10 90 ?_ rfl rfl (by kernel_rfl) (fun _ _ _ h => h) (by first | rfl | (simp [Region.wanted, yielded]; done) | (go_simp; done)) ?_ ?_; rotate_left
                    · simp only [pA, pB, pC, pD, i64_w, i32_w]; rfl
                    refine of 11 91 ?_ rfl rfl (by kernel_rfl) (fun _ _ _ h => h) (by first | rfl | (simp [Region.wanted, yielded]; done) | (go_simp; done)) ?_ ?_; rotate_left
                    · simp only [pA, pB, pC, pD, i64_w, i32_w]; rfl
                    refine of 12 92 ?_ rfl rfl (by kernel_rfl) (fun _ _ _ h => h) (by first | rfl | (simp [Region.wanted, yielded]; done) | (go_simp; done)) ?_ ?_; rotate_left
                    · simp only [pA, pB, pC, pD, i64_w, i32_w]; rfl
                    refine of 13 93 ?_ rfl rfl (by kernel_rfl) (fun _ _ _ h => h) (by first | rfl | (simp [Region.wanted, yielded]; done) | (go_simp; done)) ?_ ?_; rotate_left
                    · simp only [pA, pB, pC, pD, i64_w, i32_w]; rfl
                    refine of 14 94 ?_ rfl rfl (by kernel_rfl) (fun _ _ _ h => h) (by first | rfl | (simp [Region.wanted, yielded]; done) | (go_simp; done)) ?_ ?_; rotate_left
                    · simp only [pA, pB, pC, pD, i64_w, i32_w]; rfl
                    refine of 15 95 ?_ rfl rfl (by kernel_rfl) (fun _ _ _ h => h) (by first | rfl | (simp [Region.wanted, yielded]; done) | (go_simp; done)) ?_ ?_; rotate_left
                    · simp only [pA, pB, pC, pD, i64_w, i32_w]; rfl
                    refine of 16 96 ?_ rfl rfl (by kernel_rfl) (fun _ _ _ h => h) (by first | rfl | (simp [Region.wanted, yielded]; done) | (go_simp; done)) ?_ ?_; rotate_left
                    · simp only [pA, pB, pC, pD, i64_w, i32_w]; rfl
                    refine pv_ 17 97 ?_
                    refine pv_ 18 12 ?_
                    refine done_ (by kernel_rfl) ?_
                    go_wp2_with fail
                    go_meet
                    exact ⟨by rw [HCM.out], hHeld⟩
                · have b0 : (kd == 1) = false := beq_eq_false_iff_ne.2 e1
                  have HCM : Hid (cm = false) := Lib.hid (by rw [HCm.out, decide_eq_false e1]; rfl)
                  clear e1
                  as_aux_lemma =>
                  refine start_ (n := 19) (S := fun w' => Below wd.heap.size wd w') (ds := []) (bt 19 0) (by kernel_rfl) rfl rfl ((Below.refl _ _).drew) (fun hHeld => ?_)
                  refine pv_ 0 80 ?_
                  refine ld_ 1 81 ?_ hHeld ?_ ?_; rotate_left
                  · rintro w' hs
                    obtain ⟨⟨r0, r1, r2, r3, r4, r5, _⟩, ⟨c0, c1⟩, ⟨c2, c3⟩, ⟨c4, c5⟩⟩ := HR3.out _ hs
                    clear hs
                    go_simp; with_reducible rfl
                  refine pv_ 2 82 ?_
                  (try rw [b0])
                  refine pv_ 3 83 ?_
                  refine of 4 84 ?_ rfl rfl (by kernel_rfl) (fun _ _ _ h => h) (by first | rfl | (simp [Region.wanted, yielded]; done) | (go_simp; done)) ?_ ?_; rotate_left
                  · simp only [pA, pB, pC, pD, i64_w, i32_w]; rfl
                  refine of 5 85 ?_ rfl rfl (by kernel_rfl) (fun _ _ _ h => h) (by first | rfl | (simp [Region.wanted, yielded]; done) | (go_simp; done)) ?_ ?_; rotate_left
                  · simp only [pA, pB, pC, pD, i64_w, i32_w]; rfl
                  refine of 6 86 ?_ rfl rfl (by kernel_rfl) (fun _ _ _ h => h) (by first | rfl | (simp [Region.wanted, yielded]; done) | (go_simp; done)) ?_ ?_; rotate_left
                  · simp only [pA, pB, pC, pD, i64_w, i32_w]; rfl
                  refine of 7 87 ?_ rfl rfl (by kernel_rfl) (fun _ _ _ h => h) (by first | rfl | (simp [Region.wanted, yielded]; done) | (go_simp; done)) ?_ ?_; rotate_left
                  · simp only [pA, pB, pC, pD, i64_w, i32_w]; rfl
                  (try rw [b1])
                  refine pv_ 8 88 ?_
                  refine pv_ 9 89 ?_
                  refine of 10 90 ?_ rfl rfl (by kernel_rfl) (fun _ _ _ h => h) (by first | rfl | (simp [Region.wanted, yielded]; done) | (go_simp; done)) ?_ ?_; rotate_left
                  · simp only [pA, pB, pC, pD, i64_w, i32_w]; rfl
                  refine of 11 91 ?_ rfl rfl (by kernel_rfl) (fun _ _ _ h => h) (by first | rfl | (simp [Region.wanted, yielded]; done) | (go_simp; done)) ?_ ?_; rotate_left
                  · simp only [pA, pB, pC, pD, i64_w, i32_w]; rfl
                  refine of 12 92 ?_ rfl rfl (by kernel_rfl) (fun _ _ _ h => h) (by first | rfl | (simp [Region.wanted, yielded]; done) | (go_simp; done)) ?_ ?_; rotate_left
                  · simp only [pA, pB, pC, pD, i64_w, i32_w]; rfl
                  refine of 13 93 ?_ rfl rfl (by kernel_rfl) (fun _ _ _ h => h) (by first | rfl | (simp [Region.wanted, yielded]; done) | (go_simp; done)) ?_ ?_; rotate_left
                  · simp only [pA, pB, pC, pD, i64_w, i32_w]; rfl
                  refine of 14 94 ?_ rfl rfl (by kernel_rfl) (fun _ _ _ h => h) (by first | rfl | (simp [Region.wanted, yielded]; done) | (go_simp; done)) ?_ ?_; rotate_left
                  · simp only [pA, pB, pC, pD, i64_w, i32_w]; rfl
                  refine of 15 95 ?_ rfl rfl (by kernel_rfl) (fun _ _ _ h => h) (by first | rfl | (simp [Region.wanted, yielded]; done) | (go_simp; done)) ?_ ?_; rotate_left
                  · simp only [pA, pB, pC, pD, i64_w, i32_w]; rfl
                  refine of 16 96 ?_ rfl rfl (by kernel_rfl) (fun _ _ _ h => h) (by first | rfl | (simp [Region.wanted, yielded]; done) | (go_simp; done)) ?_ ?_; rotate_left
                  · simp only [pA, pB, pC, pD, i64_w, i32_w]; rfl
                  refine pv_ 17 97 ?_
                  refine pv_ 18 12 ?_
                  refine done_ (by kernel_rfl) ?_
                  go_wp2_with fail
                  go_meet
                  exact ⟨by rw [HCM.out], hHeld⟩
              case rest =>
              obtain ⟨rfl, hB4⟩ := hcut
              clear HPa HCm
              obtain ⟨we, hwe⟩ : ∃ x, x = wc := ⟨_, rfl⟩
              subst hwe
              have HB4 := Lib.hid hB4
              clear hB4
              go_upto_region 21 with (fail)
              go_cut [13] (fun x wx => x = .bool ls ∧ Below we.heap.size we wx)
              case first =>
                have hwn : wrap64 ((N : Int) - 1) = (N : Int) - 1 := by unfold wrap64; omega
                by_cases e1 : kd = 1
                · obtain rfl := e1
                  by_cases e2 : 3 ≤ N
                  · have b2 : decide ((3 : Int) ≤ (N : Int)) = true := decide_eq_true (by omega)
                    have b5 : decide ((N : Int) ≥ 3) = true := decide_eq_true (by omega)
                    by_cases e3 : i = 0
                    · have b3 : ((i : Int) == 0) = true := beq_iff_eq.2 (by omega)
                      by_cases e4 : j = N - 1
                      · have b4 : ((j : Int) == (N : Int) - 1) = true := beq_iff_eq.2 (by omega)
                        rcases Bool.eq_false_or_eq_true (placeB q4 q5) with hS | hS
                        · have hls : ls = true := HL.out.2.2 (by simp [e2, e3, e4, hS])
                          have hpl : placeB P q4 = true := by have := HLs.out; rw [hls] at this; simp only [Bool.true_eq, Bool.and_eq_true] at this; exact this.2
                          simp only [hpl] at HPc
                          simp only [hS] at HPb
                          have HLS := Lib.hid hls
                          clear hls hpl hS e2 e3 e4
                          as_aux_lemma =>
                          refine start_ (n := 36) (S := fun w' => Below we.heap.size we w') (ds := []) (bt 36 0) (by kernel_rfl) rfl rfl ((Below.refl _ _).drew) (fun hHeld => ?_)
                          refine pv_ 0 98 ?_
                          refine ld_ 1 99 ?_ hHeld ?_ ?_; rotate_left
                          · rintro w' hs
                            obtain ⟨⟨r0, r1, r2, r3, r4, r5, _⟩, ⟨c0, c1⟩, ⟨c2, c3⟩, ⟨c4, c5⟩⟩ := HR3.out _ (HB4.out.trans (hs.mono HB4.out.size))
                            clear hs
                            go_simp; with_reducible rfl
                          refine pv_ 2 100 ?_
                          (try rw [b0])
                          refine pv_ 3 101 ?_
                          refine pv_ 4 102 ?_
                          refine pv_ 5 103 ?_
                          (try rw [b2])
                          (try rw [b5])
                          refine pv_ 6 104 ?_
                          refine pv_ 7 105 ?_
                          refine pv_ 8 106 ?_
                          refine pv_ 9 107 ?_
                          (try rw [b3])
                          refine pv_ 10 108 ?_
                          refine pv_ 11 109 ?_
                          refine pv_ 12 110 ?_
                          refine pv_ 13 111 ?_
                          refine pv_ 14 112 ?_
                          refine pv_ 15 113 ?_
                          (try rw [b4])
                          refine pv_ 16 114 ?_
                          refine pv_ 17 115 ?_
                          refine pv_ 18 116 ?_
                          refine pv_ 19 117 ?_
                          refine ld_ 20 118 ?_ hHeld ?_ ?_; rotate_left
                          · rintro w' hs
                            obtain ⟨⟨r0, r1, r2, r3, r4, r5, _⟩, ⟨c0, c1⟩, ⟨c2, c3⟩, ⟨c4, c5⟩⟩ := HR3.out _ (HB4.out.trans (hs.mono HB4.out.size))
                            clear hs
                            go_simp; with_reducible rfl
                          refine pv_ 21 119 ?_
                          refine pv_ 22 120 ?_
                          refine pv_ 23 121 ?_
                          refine ld_ 24 122 ?_ hHeld ?_ ?_; rotate_left
                          · rintro w' hs
                            obtain ⟨⟨r0, r1, r2, r3, r4, r5, _⟩, ⟨c0, c1⟩, ⟨c2, c3⟩, ⟨c4, c5⟩⟩ := HR3.out _ (HB4.out.trans (hs.mono HB4.out.size))
                            clear hs
                            go_simp; with_reducible rfl
                          refine ca_ 25 123 Tryz.func15 #[.agg #[.int .u64 q4.1, .int .u64 q4.2], .agg #[.int .u64 q5.1, .int .u64 q5.2]] ?_
                          with_reducible refine (HPb.out _).mono ?_
                          rintro e w' ⟨rfl, hb1⟩
                          refine ⟨_, rfl, (by first | (exact hHeld.trans (hb1.mono hHeld.size)) | (exact hHeld.trans (hb2.mono hHeld.size))), fun hHeld => ?_⟩
                          refine nn ?_
                          refine pv_ 26 124 ?_
                          refine pv_ 27 125 ?_
                          refine pv_ 28 126 ?_
                          refine ld_ 29 127 ?_ hHeld ?_ ?_; rotate_left
                          · rintro w' hs
                            obtain ⟨⟨r0, r1, r2, r3, r4, r5, _⟩, ⟨c0, c1⟩, ⟨c2, c3⟩, ⟨c4, c5⟩⟩ := HR3.out _ (HB4.out.trans (hs.mono HB4.out.size))
                            clear hs
                            go_simp; with_reducible rfl
                          refine pv_ 30 128 ?_
                          refine pv_ 31 129 ?_
                          refine ld_ 32 130 ?_ hHeld ?_ ?_; rotate_left
                          · rintro w' hs
                            obtain ⟨⟨r0, r1, r2, r3, r4, r5, _⟩, ⟨c0, c1⟩, ⟨c2, c3⟩, ⟨c4, c5⟩⟩ := HR3.out _ (HB4.out.trans (hs.mono HB4.out.size))
                            clear hs
                            go_simp; with_reducible rfl
                          refine ca_ 33 131 Tryz.func15 #[.agg #[.int .u64 P.1, .int .u64 P.2], .agg #[.int .u64 q4.1, .int .u64 q4.2]] ?_
                          with_reducible refine (HPc.out _).mono ?_
                          rintro e w' ⟨rfl, hb2⟩
                          refine ⟨_, rfl, (by first | (exact hHeld.trans (hb1.mono hHeld.size)) | (exact hHeld.trans (hb2.mono hHeld.size))), fun hHeld => ?_⟩
                          refine nn ?_
                          refine pv_ 34 132 ?_
                          refine pv_ 35 13 ?_
                          refine done_ (by kernel_rfl) ?_
                          go_wp2_with fail
                          go_meet
                          exact ⟨by rw [HLS.out], hHeld⟩
                        · have HLS : Hid (ls = false) := Lib.hid (by rw [HLs.out, hS]; simp)
                          simp only [hS] at HPb
                          clear hS e2 e3 e4
                          as_aux_lemma =>
                          refine start_ (n := 36) (S := fun w' => Below we.heap.size we w') (ds := []) (bt 36 0) (by kernel_rfl) rfl rfl ((Below.refl _ _).drew) (fun hHeld => ?_)
                          refine pv_ 0 98 ?_
                          refine ld_ 1 99 ?_ hHeld ?_ ?_; rotate_left
                          · rintro w' hs
                            obtain ⟨⟨r0, r1, r2, r3, r4, r5, _⟩, ⟨c0, c1⟩, ⟨c2, c3⟩, ⟨c4, c5⟩⟩ := HR3.out _ (HB4.out.trans (hs.mono HB4.out.size))
                            clear hs
                            go_simp; with_reducible rfl
                          refine pv_ 2 100 ?_
                          (try rw [b0])
                          refine pv_ 3 101 ?_
                          refine pv_ 4 102 ?_
                          refine pv_ 5 103 ?_
                          (try rw [b2])
                          (try rw [b5])
                          refine pv_ 6 104 ?_
                          refine pv_ 7 105 ?_
                          refine pv_ 8 106 ?_
                          refine pv_ 9 107 ?_
                          (try rw [b3])
                          refine pv_ 10 108 ?_
                          refine pv_ 11 109 ?_
                          refine pv_ 12 110 ?_
                          refine pv_ 13 111 ?_
                          refine pv_ 14 112 ?_
                          refine pv_ 15 113 ?_
                          (try rw [b4])
                          refine pv_ 16 114 ?_
                          refine pv_ 17 115 ?_
                          refine pv_ 18 116 ?_
                          refine pv_ 19 117 ?_
                          refine ld_ 20 118 ?_ hHeld ?_ ?_; rotate_left
                          · rintro w' hs
                            obtain ⟨⟨r0, r1, r2, r3, r4, r5, _⟩, ⟨c0, c1⟩, ⟨c2, c3⟩, ⟨c4, c5⟩⟩ := HR3.out _ (HB4.out.trans (hs.mono HB4.out.size))
                            clear hs
                            go_simp; with_reducible rfl
                          refine pv_ 21 119 ?_
                          refine pv_ 22 120 ?_
                          refine pv_ 23 121 ?_
                          refine ld_ 24 122 ?_ hHeld ?_ ?_; rotate_left
                          · rintro w' hs
                            obtain ⟨⟨r0, r1, r2, r3, r4, r5, _⟩, ⟨c0, c1⟩, ⟨c2, c3⟩, ⟨c4, c5⟩⟩ := HR3.out _ (HB4.out.trans (hs.mono HB4.out.size))
                            clear hs
                            go_simp; with_reducible rfl
                          refine ca_ 25 123 Tryz.func15 #[.agg #[.int .u64 q4.1, .int .u64 q4.2], .agg #[.int .u64 q5.1, .int .u64 q5.2]] ?_
                          with_reducible refine (HPb.out _).mono ?_
                          rintro e w' ⟨rfl, hb1⟩
                          refine ⟨_, rfl, (by first | (exact hHeld.trans (hb1.mono hHeld.size)) | (exact hHeld.trans (hb2.mono hHeld.size))), fun hHeld => ?_⟩
                          refine nn ?_
                          refine pv_ 26 124 ?_
                          refine pv_ 27 125 ?_
                          refine of 28 126 ?_ rfl rfl (by kernel_rfl) (fun _ _ _ h => h) (by first | rfl | (simp [Region.wanted, yielded]; done) | (go_simp; done)) ?_ ?_; rotate_left
                          · simp only [pA, pB, pC, pD, i64_w, i32_w]; rfl
                          refine of 29 127 ?_ rfl rfl (by kernel_rfl) (fun _ _ _ h => h) (by first | rfl | (simp [Region.wanted, yielded]; done) | (go_simp; done)) ?_ ?_; rotate_left
                          · simp only [pA, pB, pC, pD, i64_w, i32_w]; rfl
                          refine of 30 128 ?_ rfl rfl (by kernel_rfl) (fun _ _ _ h => h) (by first | rfl | (simp [Region.wanted, yielded]; done) | (go_simp; done)) ?_ ?_; rotate_left
                          · simp only [pA, pB, pC, pD, i64_w, i32_w]; rfl
                          refine of 31 129 ?_ rfl rfl (by kernel_rfl) (fun _ _ _ h => h) (by first | rfl | (simp [Region.wanted, yielded]; done) | (go_simp; done)) ?_ ?_; rotate_left
                          · simp only [pA, pB, pC, pD, i64_w, i32_w]; rfl
                          refine of 32 130 ?_ rfl rfl (by kernel_rfl) (fun _ _ _ h => h) (by first | rfl | (simp [Region.wanted, yielded]; done) | (go_simp; done)) ?_ ?_; rotate_left
                          · simp only [pA, pB, pC, pD, i64_w, i32_w]; rfl
                          refine of 33 131 ?_ rfl rfl (by kernel_rfl) (fun _ _ _ h => h) (by first | rfl | (simp [Region.wanted, yielded]; done) | (go_simp; done)) ?_ ?_; rotate_left
                          · simp only [pA, pB, pC, pD, i64_w, i32_w]; rfl
                          refine pv_ 34 132 ?_
                          refine pv_ 35 13 ?_
                          refine done_ (by kernel_rfl) ?_
                          go_wp2_with fail
                          go_meet
                          exact ⟨by rw [HLS.out], hHeld⟩
                      · have b4 : ((j : Int) == (N : Int) - 1) = false := beq_eq_false_iff_ne.2 (by omega)
                        have HLS : Hid (ls = false) := Lib.hid (by rw [HLs.out, decide_eq_false e4]; simp)
                        clear e2 e3 e4
                        as_aux_lemma =>
                        refine start_ (n := 36) (S := fun w' => Below we.heap.size we w') (ds := []) (bt 36 0) (by kernel_rfl) rfl rfl ((Below.refl _ _).drew) (fun hHeld => ?_)
                        refine pv_ 0 98 ?_
                        refine ld_ 1 99 ?_ hHeld ?_ ?_; rotate_left
                        · rintro w' hs
                          obtain ⟨⟨r0, r1, r2, r3, r4, r5, _⟩, ⟨c0, c1⟩, ⟨c2, c3⟩, ⟨c4, c5⟩⟩ := HR3.out _ (HB4.out.trans (hs.mono HB4.out.size))
                          clear hs
                          go_simp; with_reducible rfl
                        refine pv_ 2 100 ?_
                        (try rw [b0])
                        refine pv_ 3 101 ?_
                        refine pv_ 4 102 ?_
                        refine pv_ 5 103 ?_
                        (try rw [b2])
                        (try rw [b5])
                        refine pv_ 6 104 ?_
                        refine pv_ 7 105 ?_
                        refine pv_ 8 106 ?_
                        refine pv_ 9 107 ?_
                        (try rw [b3])
                        refine pv_ 10 108 ?_
                        refine pv_ 11 109 ?_
                        refine pv_ 12 110 ?_
                        refine pv_ 13 111 ?_
                        refine pv_ 14 112 ?_
                        refine pv_ 15 113 ?_
                        (try rw [b4])
                        refine pv_ 16 114 ?_
                        refine pv_ 17 115 ?_
                        refine of 18 116 ?_ rfl rfl (by kernel_rfl) (fun _ _ _ h => h) (by first | rfl | (simp [Region.wanted, yielded]; done) | (go_simp; done)) ?_ ?_; rotate_left
                        · simp only [pA, pB, pC, pD, i64_w, i32_w]; rfl
                        refine of 19 117 ?_ rfl rfl (by kernel_rfl) (fun _ _ _ h => h) (by first | rfl | (simp [Region.wanted, yielded]; done) | (go_simp; done)) ?_ ?_; rotate_left
                        · simp only [pA, pB, pC, pD, i64_w, i32_w]; rfl
                        refine of 20 118 ?_ rfl rfl (by kernel_rfl) (fun _ _ _ h => h) (by first | rfl | (simp [Region.wanted, yielded]; done) | (go_simp; done)) ?_ ?_; rotate_left
                        · simp only [pA, pB, pC, pD, i64_w, i32_w]; rfl
                        refine of 21 119 ?_ rfl rfl (by kernel_rfl) (fun _ _ _ h => h) (by first | rfl | (simp [Region.wanted, yielded]; done) | (go_simp; done)) ?_ ?_; rotate_left
                        · simp only [pA, pB, pC, pD, i64_w, i32_w]; rfl
                        refine of 22 120 ?_ rfl rfl (by kernel_rfl) (fun _ _ _ h => h) (by first | rfl | (simp [Region.wanted, yielded]; done) | (go_simp; done)) ?_ ?_; rotate_left
                        · simp only [pA, pB, pC, pD, i64_w, i32_w]; rfl
                        refine of 23 121 ?_ rfl rfl (by kernel_rfl) (fun _ _ _ h => h) (by first | rfl | (simp [Region.wanted, yielded]; done) | (go_simp; done)) ?_ ?_; rotate_left
                        · simp only [pA, pB, pC, pD, i64_w, i32_w]; rfl
                        refine of 24 122 ?_ rfl rfl (by kernel_rfl) (fun _ _ _ h => h) (by first | rfl | (simp [Region.wanted, yielded]; done) | (go_simp; done)) ?_ ?_; rotate_left
                        · simp only [pA, pB, pC, pD, i64_w, i32_w]; rfl
                        refine of 25 123 ?_ rfl rfl (by kernel_rfl) (fun _ _ _ h => h) (by first | rfl | (simp [Region.wanted, yielded]; done) | (go_simp; done)) ?_ ?_; rotate_left
                        · simp only [pA, pB, pC, pD, i64_w, i32_w]; rfl
                        refine pv_ 26 124 ?_
                        refine pv_ 27 125 ?_
                        refine of 28 126 ?_ rfl rfl (by kernel_rfl) (fun _ _ _ h => h) (by first | rfl | (simp [Region.wanted, yielded]; done) | (go_simp; done)) ?_ ?_; rotate_left
                        · simp only [pA, pB, pC, pD, i64_w, i32_w]; rfl
                        refine of 29 127 ?_ rfl rfl (by kernel_rfl) (fun _ _ _ h => h) (by first | rfl | (simp [Region.wanted, yielded]; done) | (go_simp; done)) ?_ ?_; rotate_left
                        · simp only [pA, pB, pC, pD, i64_w, i32_w]; rfl
                        refine of 30 128 ?_ rfl rfl (by kernel_rfl) (fun _ _ _ h => h) (by first | rfl | (simp [Region.wanted, yielded]; done) | (go_simp; done)) ?_ ?_; rotate_left
                        · simp only [pA, pB, pC, pD, i64_w, i32_w]; rfl
                        refine of 31 129 ?_ rfl rfl (by kernel_rfl) (fun _ _ _ h => h) (by first | rfl | (simp [Region.wanted, yielded]; done) | (go_simp; done)) ?_ ?_; rotate_left
                        · simp only [pA, pB, pC, pD, i64_w, i32_w]; rfl
                        refine of 32 130 ?_ rfl rfl (by kernel_rfl) (fun _ _ _ h => h) (by first | rfl | (simp [Region.wanted, yielded]; done) | (go_simp; done)) ?_ ?_; rotate_left
                        · simp only [pA, pB, pC, pD, i64_w, i32_w]; rfl
                        refine of 33 131 ?_ rfl rfl (by kernel_rfl) (fun _ _ _ h => h) (by first | rfl | (simp [Region.wanted, yielded]; done) | (go_simp; done)) ?_ ?_; rotate_left
                        · simp only [pA, pB, pC, pD, i64_w, i32_w]; rfl
                        refine pv_ 34 132 ?_
                        refine pv_ 35 13 ?_
                        refine done_ (by kernel_rfl) ?_
                        go_wp2_with fail
                        go_meet
                        exact ⟨by rw [HLS.out], hHeld⟩
                    · have b3 : ((i : Int) == 0) = false := beq_eq_false_iff_ne.2 (by omega)
                      have HLS : Hid (ls = false) := Lib.hid (by rw [HLs.out, decide_eq_false e3]; simp)
                      clear e2 e3
                      as_aux_lemma =>
                      refine start_ (n := 36) (S := fun w' => Below we.heap.size we w') (ds := []) (bt 36 0) (by kernel_rfl) rfl rfl ((Below.refl _ _).drew) (fun hHeld => ?_)
                      refine pv_ 0 98 ?_
                      refine ld_ 1 99 ?_ hHeld ?_ ?_; rotate_left
                      · rintro w' hs
                        obtain ⟨⟨r0, r1, r2, r3, r4, r5, _⟩, ⟨c0, c1⟩, ⟨c2, c3⟩, ⟨c4, c5⟩⟩ := HR3.out _ (HB4.out.trans (hs.mono HB4.out.size))
                        clear hs
                        go_simp; with_reducible rfl
                      refine pv_ 2 100 ?_
                      (try rw [b0])
                      refine pv_ 3 101 ?_
                      refine pv_ 4 102 ?_
                      refine pv_ 5 103 ?_
                      (try rw [b2])
                      (try rw [b5])
                      refine pv_ 6 104 ?_
                      refine pv_ 7 105 ?_
                      refine pv_ 8 106 ?_
                      refine pv_ 9 107 ?_
                      (try rw [b3])
                      refine pv_ 10 108 ?_
                      refine pv_ 11 109 ?_
                      refine of 12 110 ?_ rfl rfl (by kernel_rfl) (fun _ _ _ h => h) (by first | rfl | (simp [Region.wanted, yielded]; done) | (go_simp; done)) ?_ ?_; rotate_left
                      · simp only [pA, pB, pC, pD, i64_w, i32_w]; rfl
                      refine of 13 111 ?_ rfl rfl (by kernel_rfl) (fun _ _ _ h => h) (by first | rfl | (simp [Region.wanted, yielded]; done) | (go_simp; done)) ?_ ?_; rotate_left
                      · simp only [pA, pB, pC, pD, i64_w, i32_w]; rfl
                      refine of 14 112 ?_ rfl rfl (by kernel_rfl) (fun _ _ _ h => h) (by first | rfl | (simp [Region.wanted, yielded]; done) | (go_simp; done)) ?_ ?_; rotate_left
                      · simp only [pA, pB, pC, pD, i64_w, i32_w]; rfl
                      refine of 15 113 ?_ rfl rfl (by kernel_rfl) (fun _ _ _ h => h) (by first | rfl | (simp [Region.wanted, yielded]; done) | (go_simp; done)) ?_ ?_; rotate_left
                      · simp only [pA, pB, pC, pD, i64_w, i32_w]; rfl
                      (try rw [b4])
                      refine pv_ 16 114 ?_
                      refine pv_ 17 115 ?_
                      refine of 18 116 ?_ rfl rfl (by kernel_rfl) (fun _ _ _ h => h) (by first | rfl | (simp [Region.wanted, yielded]; done) | (go_simp; done)) ?_ ?_; rotate_left
                      · simp only [pA, pB, pC, pD, i64_w, i32_w]; rfl
                      refine of 19 117 ?_ rfl rfl (by kernel_rfl) (fun _ _ _ h => h) (by first | rfl | (simp [Region.wanted, yielded]; done) | (go_simp; done)) ?_ ?_; rotate_left
                      · simp only [pA, pB, pC, pD, i64_w, i32_w]; rfl
                      refine of 20 118 ?_ rfl rfl (by kernel_rfl) (fun _ _ _ h => h) (by first | rfl | (simp [Region.wanted, yielded]; done) | (go_simp; done)) ?_ ?_; rotate_left
                      · simp only [pA, pB, pC, pD, i64_w, i32_w]; rfl
                      refine of 21 119 ?_ rfl rfl (by kernel_rfl) (fun _ _ _ h => h) (by first | rfl | (simp [Region.wanted, yielded]; done) | (go_simp; done)) ?_ ?_; rotate_left
                      · simp only [pA, pB, pC, pD, i64_w, i32_w]; rfl
                      refine of 22 120 ?_ rfl rfl (by kernel_rfl) (fun _ _ _ h => h) (by first | rfl | (simp [Region.wanted, yielded]; done) | (go_simp; done)) ?_ ?_; rotate_left
                      · simp only [pA, pB, pC, pD, i64_w, i32_w]; rfl
                      refine of 23 121 ?_ rfl rfl (by kernel_rfl) (fun _ _ _ h => h) (by first | rfl | (simp [Region.wanted, yielded]; done) | (go_simp; done)) ?_ ?_; rotate_left
                      · simp only [pA, pB, pC, pD, i64_w, i32_w]; rfl
                      refine of 24 122 ?_ rfl rfl (by kernel_rfl) (fun _ _ _ h => h) (by first | rfl | (simp [Region.wanted, yielded]; done) | (go_simp; done)) ?_ ?_; rotate_left
                      · simp only [pA, pB, pC, pD, i64_w, i32_w]; rfl
                      refine of 25 123 ?_ rfl rfl (by kernel_rfl) (fun _ _ _ h => h) (by first | rfl | (simp [Region.wanted, yielded]; done) | (go_simp; done)) ?_ ?_; rotate_left
                      · simp only [pA, pB, pC, pD, i64_w, i32_w]; rfl
                      refine pv_ 26 124 ?_
                      refine pv_ 27 125 ?_
                      refine of 28 126 ?_ rfl rfl (by kernel_rfl) (fun _ _ _ h => h) (by first | rfl | (simp [Region.wanted, yielded]; done) | (go_simp; done)) ?_ ?_; rotate_left
                      · simp only [pA, pB, pC, pD, i64_w, i32_w]; rfl
                      refine of 29 127 ?_ rfl rfl (by kernel_rfl) (fun _ _ _ h => h) (by first | rfl | (simp [Region.wanted, yielded]; done) | (go_simp; done)) ?_ ?_; rotate_left
                      · simp only [pA, pB, pC, pD, i64_w, i32_w]; rfl
                      refine of 30 128 ?_ rfl rfl (by kernel_rfl) (fun _ _ _ h => h) (by first | rfl | (simp [Region.wanted, yielded]; done) | (go_simp; done)) ?_ ?_; rotate_left
                      · simp only [pA, pB, pC, pD, i64_w, i32_w]; rfl
                      refine of 31 129 ?_ rfl rfl (by kernel_rfl) (fun _ _ _ h => h) (by first | rfl | (simp [Region.wanted, yielded]; done) | (go_simp; done)) ?_ ?_; rotate_left
                      · simp only [pA, pB, pC, pD, i64_w, i32_w]; rfl
                      refine of 32 130 ?_ rfl rfl (by kernel_rfl) (fun _ _ _ h => h) (by first | rfl | (simp [Region.wanted, yielded]; done) | (go_simp; done)) ?_ ?_; rotate_left
                      · simp only [pA, pB, pC, pD, i64_w, i32_w]; rfl
                      refine of 33 131 ?_ rfl rfl (by kernel_rfl) (fun _ _ _ h => h) (by first | rfl | (simp [Region.wanted, yielded]; done) | (go_simp; done)) ?_ ?_; rotate_left
                      · simp only [pA, pB, pC, pD, i64_w, i32_w]; rfl
                      refine pv_ 34 132 ?_
                      refine pv_ 35 13 ?_
                      refine done_ (by kernel_rfl) ?_
                      go_wp2_with fail
                      go_meet
                      exact ⟨by rw [HLS.out], hHeld⟩
                  · have b2 : decide ((3 : Int) ≤ (N : Int)) = false := decide_eq_false (by omega)
                    have b5 : decide ((N : Int) ≥ 3) = false := decide_eq_false (by omega)
                    have HLS : Hid (ls = false) := Lib.hid (by rw [HLs.out, decide_eq_false e2]; simp)
                    clear e2
                    as_aux_lemma =>
                    refine start_ (n := 36) (S := fun w' => Below we.heap.size we w') (ds := []) (bt 36 0) (by kernel_rfl) rfl rfl ((Below.refl _ _).drew) (fun hHeld => ?_)
                    refine pv_ 0 98 ?_
                    refine ld_ 1 99 ?_ hHeld ?_ ?_; rotate_left
                    · rintro w' hs
                      obtain ⟨⟨r0, r1, r2, r3, r4, r5, _⟩, ⟨c0, c1⟩, ⟨c2, c3⟩, ⟨c4, c5⟩⟩ := HR3.out _ (HB4.out.trans (hs.mono HB4.out.size))
                      clear hs
                      go_simp; with_reducible rfl
                    refine pv_ 2 100 ?_
                    (try rw [b0])
                    refine pv_ 3 101 ?_
                    refine pv_ 4 102 ?_
                    refine pv_ 5 103 ?_
                    (try rw [b2])
                    (try rw [b5])
                    refine pv_ 6 104 ?_
                    refine pv_ 7 105 ?_
                    refine of 8 106 ?_ rfl rfl (by kernel_rfl) (fun _ _ _ h => h) (by first | rfl | (simp [Region.wanted, yielded]; done) | (go_simp; done)) ?_ ?_; rotate_left
                    · simp only [pA, pB, pC, pD, i64_w, i32_w]; rfl
                    refine of 9 107 ?_ rfl rfl (by kernel_rfl) (fun _ _ _ h => h) (by first | rfl | (simp [Region.wanted, yielded]; done) | (go_simp; done)) ?_ ?_; rotate_left
                    · simp only [pA, pB, pC, pD, i64_w, i32_w]; rfl
                    (try rw [b3])
                    refine pv_ 10 108 ?_
                    refine pv_ 11 109 ?_
                    refine of 12 110 ?_ rfl rfl (by kernel_rfl) (fun _ _ _ h => h) (by first | rfl | (simp [Region.wanted, yielded]; done) | (go_simp; done)) ?_ ?_; rotate_left
                    · simp only [pA, pB, pC, pD, i64_w, i32_w]; rfl
                    refine of 13 111 ?_ rfl rfl (by kernel_rfl) (fun _ _ _ h => h) (by first | rfl | (simp [Region.wanted, yielded]; done) | (go_simp; done)) ?_ ?_; rotate_left
                    · simp only [pA, pB, pC, pD, i64_w, i32_w]; rfl
                    refine of 14 112 ?_ rfl rfl (by kernel_rfl) (fun _ _ _ h => h) (by first | rfl | (simp [Region.wanted, yielded]; done) | (go_simp; done)) ?_ ?_; rotate_left
                    · simp only [pA, pB, pC, pD, i64_w, i32_w]; rfl
                    refine of 15 113 ?_ rfl rfl (by kernel_rfl) (fun _ _ _ h => h) (by first | rfl | (simp [Region.wanted, yielded]; done) | (go_simp; done)) ?_ ?_; rotate_left
                    · simp only [pA, pB, pC, pD, i64_w, i32_w]; rfl
                    (try rw [b4])
                    refine pv_ 16 114 ?_
                    refine pv_ 17 115 ?_
                    refine of 18 116 ?_ rfl rfl (by kernel_rfl) (fun _ _ _ h => h) (by first | rfl | (simp [Region.wanted, yielded]; done) | (go_simp; done)) ?_ ?_; rotate_left
                    · simp only [pA, pB, pC, pD, i64_w, i32_w]; rfl
                    refine of 19 117 ?_ rfl rfl (by kernel_rfl) (fun _ _ _ h => h) (by first | rfl | (simp [Region.wanted, yielded]; done) | (go_simp; done)) ?_ ?_; rotate_left
                    · simp only [pA, pB, pC, pD, i64_w, i32_w]; rfl
                    refine of 20 118 ?_ rfl rfl (by kernel_rfl) (fun _ _ _ h => h) (by first | rfl | (simp [Region.wanted, yielded]; done) | (go_simp; done)) ?_ ?_; rotate_left
                    · simp only [pA, pB, pC, pD, i64_w, i32_w]; rfl
                    refine of 21 119 ?_ rfl rfl (by kernel_rfl) (fun _ _ _ h => h) (by first | rfl | (simp [Region.wanted, yielded]; done) | (go_simp; done)) ?_ ?_; rotate_left
                    · simp only [pA, pB, pC, pD, i64_w, i32_w]; rfl
                    refine of 22 120 ?_ rfl rfl (by kernel_rfl) (fun _ _ _ h => h) (by first | rfl | (simp [Region.wanted, yielded]; done) | (go_simp; done)) ?_ ?_; rotate_left
                    · simp only [pA, pB, pC, pD, i64_w, i32_w]; rfl
                    refine of 23 121 ?_ rfl rfl (by kernel_rfl) (fun _ _ _ h => h) (by first | rfl | (simp [Region.wanted, yielded]; done) | (go_simp; done)) ?_ ?_; rotate_left
                    · simp only [pA, pB, pC, pD, i64_w, i32_w]; rfl
                    refine of 24 122 ?_ rfl rfl (by kernel_rfl) (fun _ _ _ h => h) (by first | rfl | (simp [Region.wanted, yielded]; done) | (go_simp; done)) ?_ ?_; rotate_left
                    · simp only [pA, pB, pC, pD, i64_w, i32_w]; rfl
                    refine of 25 123 ?_ rfl rfl (by kernel_rfl) (fun _ _ _ h => h) (by first | rfl | (simp [Region.wanted, yielded]; done) | (go_simp; done)) ?_ ?_; rotate_left
                    · simp only [pA, pB, pC, pD, i64_w, i32_w]; rfl
                    refine pv_ 26 124 ?_
                    refine pv_ 27 125 ?_
                    refine of 28 126 ?_ rfl rfl (by kernel_rfl) (fun _ _ _ h => h) (by first | rfl | (simp [Region.wanted, yielded]; done) | (go_simp; done)) ?_ ?_; rotate_left
                    · simp only [pA, pB, pC, pD, i64_w, i32_w]; rfl
                    refine of 29 127 ?_ rfl rfl (by kernel_rfl) (fun _ _ _ h => h) (by first | rfl | (simp [Region.wanted, yielded]; done) | (go_simp; done)) ?_ ?_; rotate_left
                    · simp only [pA, pB, pC, pD, i64_w, i32_w]; rfl
                    refine of 30 128 ?_ rfl rfl (by kernel_rfl) (fun _ _ _ h => h) (by first | rfl | (simp [Region.wanted, yielded]; done) | (go_simp; done)) ?_ ?_; rotate_left
                    · simp only [pA, pB, pC, pD, i64_w, i32_w]; rfl
                    refine of 31 129 ?_ rfl rfl (by kernel_rfl) (fun _ _ _ h => h) (by first | rfl | (simp [Region.wanted, yielded]; done) | (go_simp; done)) ?_ ?_; rotate_left
                    · simp only [pA, pB, pC, pD, i64_w, i32_w]; rfl
                    refine of 32 130 ?_ rfl rfl (by kernel_rfl) (fun _ _ _ h => h) (by first | rfl | (simp [Region.wanted, yielded]; done) | (go_simp; done)) ?_ ?_; rotate_left
                    · simp only [pA, pB, pC, pD, i64_w, i32_w]; rfl
                    refine of 33 131 ?_ rfl rfl (by kernel_rfl) (fun _ _ _ h => h) (by first | rfl | (simp [Region.wanted, yielded]; done) | (go_simp; done)) ?_ ?_; rotate_left
                    · simp only [pA, pB, pC, pD, i64_w, i32_w]; rfl
                    refine pv_ 34 132 ?_
                    refine pv_ 35 13 ?_
                    refine done_ (by kernel_rfl) ?_
                    go_wp2_with fail
                    go_meet
                    exact ⟨by rw [HLS.out], hHeld⟩
                · have b0 : (kd == 1) = false := beq_eq_false_iff_ne.2 e1
                  have HLS : Hid (ls = false) := Lib.hid (by rw [HLs.out, decide_eq_false e1]; simp)
                  clear e1
                  as_aux_lemma =>
                  refine start_ (n := 36) (S := fun w' => Below we.heap.size we w') (ds := []) (bt 36 0) (by kernel_rfl) rfl rfl ((Below.refl _ _).drew) (fun hHeld => ?_)
                  refine pv_ 0 98 ?_
                  refine ld_ 1 99 ?_ hHeld ?_ ?_; rotate_left
                  · rintro w' hs
                    obtain ⟨⟨r0, r1, r2, r3, r4, r5, _⟩, ⟨c0, c1⟩, ⟨c2, c3⟩, ⟨c4, c5⟩⟩ := HR3.out _ (HB4.out.trans (hs.mono HB4.out.size))
                    clear hs
                    go_simp; with_reducible rfl
                  refine pv_ 2 100 ?_
                  (try rw [b0])
                  refine pv_ 3 101 ?_
                  refine of 4 102 ?_ rfl rfl (by kernel_rfl) (fun _ _ _ h => h) (by first | rfl | (simp [Region.wanted, yielded]; done) | (go_simp; done)) ?_ ?_; rotate_left
                  · simp only [pA, pB, pC, pD, i64_w, i32_w]; rfl
                  refine of 5 103 ?_ rfl rfl (by kernel_rfl) (fun _ _ _ h => h) (by first | rfl | (simp [Region.wanted, yielded]; done) | (go_simp; done)) ?_ ?_; rotate_left
                  · simp only [pA, pB, pC, pD, i64_w, i32_w]; rfl
                  (try rw [b2])
                  (try rw [b5])
                  refine pv_ 6 104 ?_
                  refine pv_ 7 105 ?_
                  refine of 8 106 ?_ rfl rfl (by kernel_rfl) (fun _ _ _ h => h) (by first | rfl | (simp [Region.wanted, yielded]; done) | (go_simp; done)) ?_ ?_; rotate_left
                  · simp only [pA, pB, pC, pD, i64_w, i32_w]; rfl
                  refine of 9 107 ?_ rfl rfl (by kernel_rfl) (fun _ _ _ h => h) (by first | rfl | (simp [Region.wanted, yielded]; done) | (go_simp; done)) ?_ ?_; rotate_left
                  · simp only [pA, pB, pC, pD, i64_w, i32_w]; rfl
                  (try rw [b3])
                  refine pv_ 10 108 ?_
                  refine pv_ 11 109 ?_
                  refine of 12 110 ?_ rfl rfl (by kernel_rfl) (fun _ _ _ h => h) (by first | rfl | (simp [Region.wanted, yielded]; done) | (go_simp; done)) ?_ ?_; rotate_left
                  · simp only [pA, pB, pC, pD, i64_w, i32_w]; rfl
                  refine of 13 111 ?_ rfl rfl (by kernel_rfl) (fun _ _ _ h => h) (by first | rfl | (simp [Region.wanted, yielded]; done) | (go_simp; done)) ?_ ?_; rotate_left
                  · simp only [pA, pB, pC, pD, i64_w, i32_w]; rfl
                  refine of 14 112 ?_ rfl rfl (by kernel_rfl) (fun _ _ _ h => h) (by first | rfl | (simp [Region.wanted, yielded]; done) | (go_simp; done)) ?_ ?_; rotate_left
                  · simp only [pA, pB, pC, pD, i64_w, i32_w]; rfl
                  refine of 15 113 ?_ rfl rfl (by kernel_rfl) (fun _ _ _ h => h) (by first | rfl | (simp [Region.wanted, yielded]; done) | (go_simp; done)) ?_ ?_; rotate_left
                  · simp only [pA, pB, pC, pD, i64_w, i32_w]; rfl
                  (try rw [b4])
                  refine pv_ 16 114 ?_
                  refine pv_ 17 115 ?_
                  refine of 18 116 ?_ rfl rfl (by kernel_rfl) (fun _ _ _ h => h) (by first | rfl | (simp [Region.wanted, yielded]; done) | (go_simp; done)) ?_ ?_; rotate_left
                  · simp only [pA, pB, pC, pD, i64_w, i32_w]; rfl
                  refine of 19 117 ?_ rfl rfl (by kernel_rfl) (fun _ _ _ h => h) (by first | rfl | (simp [Region.wanted, yielded]; done) | (go_simp; done)) ?_ ?_; rotate_left
                  · simp only [pA, pB, pC, pD, i64_w, i32_w]; rfl
                  refine of 20 118 ?_ rfl rfl (by kernel_rfl) (fun _ _ _ h => h) (by first | rfl | (simp [Region.wanted, yielded]; done) | (go_simp; done)) ?_ ?_; rotate_left
                  · simp only [pA, pB, pC, pD, i64_w, i32_w]; rfl
                  refine of 21 119 ?_ rfl rfl (by kernel_rfl) (fun _ _ _ h => h) (by first | rfl | (simp [Region.wanted, yielded]; done) | (go_simp; done)) ?_ ?_; rotate_left
                  · simp only [pA, pB, pC, pD, i64_w, i32_w]; rfl
                  refine of 22 120 ?_ rfl rfl (by kernel_rfl) (fun _ _ _ h => h) (by first | rfl | (simp [Region.wanted, yielded]; done) | (go_simp; done)) ?_ ?_; rotate_left
                  · simp only [pA, pB, pC, pD, i64_w, i32_w]; rfl
                  refine of 23 121 ?_ rfl rfl (by kernel_rfl) (fun _ _ _ h => h) (by first | rfl | (simp [Region.wanted, yielded]; done) | (go_simp; done)) ?_ ?_; rotate_left
                  · simp only [pA, pB, pC, pD, i64_w, i32_w]; rfl
                  refine of 24 122 ?_ rfl rfl (by kernel_rfl) (fun _ _ _ h => h) (by first | rfl | (simp [Region.wanted, yielded]; done) | (go_simp; done)) ?_ ?_; rotate_left
                  · simp only [pA, pB, pC, pD, i64_w, i32_w]; rfl
                  refine of 25 123 ?_ rfl rfl (by kernel_rfl) (fun _ _ _ h => h) (by first | rfl | (simp [Region.wanted, yielded]; done) | (go_simp; done)) ?_ ?_; rotate_left
                  · simp only [pA, pB, pC, pD, i64_w, i32_w]; rfl
                  refine pv_ 26 124 ?_
                  refine pv_ 27 125 ?_
                  refine of 28 126 ?_ rfl rfl (by kernel_rfl) (fun _ _ _ h => h) (by first | rfl | (simp [Region.wanted, yielded]; done) | (go_simp; done)) ?_ ?_; rotate_left
                  · simp only [pA, pB, pC, pD, i64_w, i32_w]; rfl
                  refine of 29 127 ?_ rfl rfl (by kernel_rfl) (fun _ _ _ h => h) (by first | rfl | (simp [Region.wanted, yielded]; done) | (go_simp; done)) ?_ ?_; rotate_left
                  · simp only [pA, pB, pC, pD, i64_w, i32_w]; rfl
                  refine of 30 128 ?_ rfl rfl (by kernel_rfl) (fun _ _ _ h => h) (by first | rfl | (simp [Region.wanted, yielded]; done) | (go_simp; done)) ?_ ?_; rotate_left
                  · simp only [pA, pB, pC, pD, i64_w, i32_w]; rfl
                  refine of 31 129 ?_ rfl rfl (by kernel_rfl) (fun _ _ _ h => h) (by first | rfl | (simp [Region.wanted, yielded]; done) | (go_simp; done)) ?_ ?_; rotate_left
                  · simp only [pA, pB, pC, pD, i64_w, i32_w]; rfl
                  refine of 32 130 ?_ rfl rfl (by kernel_rfl) (fun _ _ _ h => h) (by first | rfl | (simp [Region.wanted, yielded]; done) | (go_simp; done)) ?_ ?_; rotate_left
                  · simp only [pA, pB, pC, pD, i64_w, i32_w]; rfl
                  refine of 33 131 ?_ rfl rfl (by kernel_rfl) (fun _ _ _ h => h) (by first | rfl | (simp [Region.wanted, yielded]; done) | (go_simp; done)) ?_ ?_; rotate_left
                  · simp only [pA, pB, pC, pD, i64_w, i32_w]; rfl
                  refine pv_ 34 132 ?_
                  refine pv_ 35 13 ?_
                  refine done_ (by kernel_rfl) ?_
                  go_wp2_with fail
                  go_meet
                  exact ⟨by rw [HLS.out], hHeld⟩
              case rest =>
              obtain ⟨rfl, hB5⟩ := hcut
              obtain ⟨wf, hwf⟩ : ∃ x, x = wc := ⟨_, rfl⟩
              subst hwf
              have hBz := HB4.out.trans (hB5.mono HB4.out.size)
              have hBf := HQ.out.1.trans (hBz.mono HQ.out.1.size)
              obtain ⟨n0, _⟩ := row6 ((hBz.block gn (heap_lt HQ.out.2)).trans HQ.out.2)
              have HX := Lib.hid hBf
              clear HPb HPc HLs HQ HB4 hB5 hBz hBf HR3
              as_aux_lemma =>
              rcases Bool.eq_false_or_eq_true ts with hts | hts
              · have h5 := HL.out.1
                rw [hts] at h5
                simp only [Bool.true_eq, Bool.not_eq_true', Bool.or_eq_false_iff, decide_eq_false_iff_not] at h5
                obtain ⟨⟨h5, rfl⟩, rfl⟩ := h5
                have b0 : (kd == 0) = false := beq_eq_false_iff_ne.2 h5
                obtain ⟨q1, q2⟩ := HPr.out hts
                rw [← HK.out] at q1 q2
                have HR3 : Hid (rowP ps N i (j + 1) = rowP ps N i j ++ [(i, j)]) := Lib.hid (by rw [HRs.out, if_pos hts])
                have hl8 : (prsP ps N N).length ≤ 81 := Nat.le_trans (prsP_len ps N N) (Nat.mul_le_mul hN9 hN9)
                obtain ⟨g2, c3, hA, hg1, hg2, hg3⟩ := own_value HO3.out.2.1 (by omega)
                obtain ⟨rfl, rfl⟩ : A2 = some ⟨g2, 0, none⟩ ∧ c2 = c3 := by cases hA; exact ⟨rfl, rfl⟩
                obtain ⟨p0, p1⟩ := own_pair (ownsRow_keep HO3.out.2.1 HX.out) q1
                clear hA hg1 hg2 hg3 q1 h5 hts HL HPr HRs HO3
                ((try dsimp only); repeat (first | go_values | go_skip | go_guarded | go_step | go_upon))
                exact ⟨⟨j + 1, k + 1, vint (by omega), vint (by omega), by omega, h2, by rw [HR3.out, ← List.append_assoc, List.length_append]; show k + 1 = (prsP ps N i ++ rowP ps N i j).length + 1; rw [← HK.out], HX.out⟩, by simp [intOf]; omega⟩
              · have h5 := HL.out.1
                rw [hts] at h5
                have HR3 : Hid (rowP ps N i (j + 1) = rowP ps N i j) := Lib.hid (by rw [HRs.out, if_neg (by rw [hts]; decide)])
                clear HL HPr HRs hts
                by_cases e0 : kd = 0
                · obtain rfl := e0
                  clear h5
                  ((try dsimp only); repeat (first | go_values | go_skip | go_guarded | go_step | go_upon))
                  exact ⟨⟨j + 1, k, rfl, vint (by omega), by omega, h2, by rw [HR3.out]; exact HK.out, HX.out⟩, by simp [intOf]; omega⟩
                · have b0 : (kd == 0) = false := beq_eq_false_iff_ne.2 e0
                  rw [decide_eq_false e0] at h5
                  clear e0
                  cases cm
                  · obtain rfl : ls = true := by simpa using h5
                    clear h5
                    ((try dsimp only); repeat (first | go_values | go_skip | go_guarded | go_step | go_upon))
                    exact ⟨⟨j + 1, k, rfl, vint (by omega), by omega, h2, by rw [HR3.out]; exact HK.out, HX.out⟩, by simp [intOf]; omega⟩
                  · clear h5
                    ((try dsimp only); repeat (first | go_values | go_skip | go_guarded | go_step | go_upon))
                    exact ⟨⟨j + 1, k, rfl, vint (by omega), by omega, h2, by rw [HR3.out]; exact HK.out, HX.out⟩, by simp [intOf]; omega⟩
            · have h2z : ¬ (j : Int) < z := fun h => h2 ((HZL.out j).1 h)
              obtain rfl : j = N := by omega
              have HX := Lib.hid hB
              clear hB
              ((try dsimp only); repeat (first | go_values | go_skip | go_guarded | go_step | go_upon))
              exact ⟨⟨i + 1, k, rfl, vint (by omega), by omega, HK.out, HX.out⟩, by simp [intOf]; omega⟩
        · have h1z : ¬ (i : Int) < z := fun h => h1 ((HZL.out i).1 h)
          obtain rfl : i = N := by omega
          obtain rfl := HK.out
          have HX := Lib.hid hB
          clear hB
          ((try dsimp only); repeat (first | go_values | go_skip | go_guarded | go_step | go_upon))
          go_ret
          exact ⟨rfl, HO3.out.2.2.trans (HX.out.mono HO3.out.2.2.size)⟩
end Go.Proofs.YtggfppgjabembaaGreatDoor

namespace Go.Proofs.YtggfppgjabembaaGreatDoor
open Go Go.ChangeShapes Go.WideShapes Go.ChangeAt Go.RowKit
set_option linter.unusedVariables false
set_option linter.unusedSimpArgs false
section
variable {H : Type} {enc : TypeId × Value → H} {w : World} {base : Nat} {spare : Nat → Bool} {held : Bool} {fuel : Nat}
set_option maxRecDepth 100000 in
theorem open_pts {r : Reach} {b0 : Nat} {v : Value} {d : DataW H} {p : List MemPlace} (hv : Value.okWide Tryz.prog w r b0 37 v) (h : DataW.Trod enc Tryz.prog w base spare held 37 v d p) :
    ∃ (A : Option Addr) (c : Nat) (qs : List Pt), v = .slice A qs.length c ∧ PtsIn w A qs ∧ qs.length ≤ 9223372036854775807 ∧ ∀ p ∈ qs, PtU p := by
  obtain ⟨A, len, cap, rfl⟩ := okWide_slice Tryz.underlying37 hv
  have c2 : Tryz.prog.cellsOf 24 = 2 := by kernel_rfl
  obtain ⟨fuel, hf⟩ := h
  rcases Deep.open_slice Tryz.underlying37 (show DataW.trod enc Tryz.prog w base spare held fuel 37 [.slice A len cap] = some (d, p) from hf) with ⟨e, _⟩ | ⟨a, len', cap', m, n, D, Pl, e, hb, hl, hm, hmm, _, hx⟩
  · cases e
    exact ⟨none, 0, [], rfl, Or.inl rfl, by decide, fun p hp => by cases hp⟩
  · cases e
    have hlm : len ≤ m := by rw [hmm]; split <;> omega
    have hpt : ∀ i, i < len → ∃ q : Pt, w.cells? base (a.add (i * 2)) 2 = some [.int .u64 q.1, .int .u64 q.2] ∧ PtU q := by
      intro i hi
      obtain ⟨cs', h1, h2⟩ := hx i (by omega)
      rw [c2] at h1
      obtain ⟨q, rfl, hq⟩ := open_point h2
      exact ⟨q, h1, hq⟩
    obtain ⟨f, hf⟩ := Deep.choose_lt hpt
    have hlen : ((List.range len).map f).length = len := by simp
    have hget : ∀ i, i < len → ((List.range len).map f).getD i (0, 0) = f i := by
      intro i hi
      rw [List.getD_eq_getElem?_getD]
      simp [hi]
    refine ⟨some a, cap, (List.range len).map f, by rw [hlen], ?_, ?_, ?_⟩
    · by_cases h0 : len = 0
      · left; exact List.eq_nil_of_length_eq_zero (by rw [hlen, h0])
      · right
        have h1 := (World.cells?_some (hf 0 (by omega)).1).2.2 0 (by decide)
        have ha : a.add (0 * 2) = a := by simp [Addr.add]
        rw [ha] at h1
        have ha0 : a.add 0 = a := by simp [Addr.add]
        rw [ha0] at h1
        obtain ⟨b, o, s⟩ := a
        cases s with
        | some s =>
          exfalso
          simp only [World.cell?] at h1
          split at h1
          · simp at h1
          · cases h1
        | none =>
          refine ⟨b, o, rfl, ?_, fun i hi => ?_⟩
          · have hh : w.cell? ⟨b, o, none⟩ ≠ none := by rw [h1]; simp
            refine Nat.lt_of_not_le fun hge => hh ?_
            simp only [World.cell?]
            rw [Array.getElem?_eq_none hge]
          · rw [hlen] at hi
            have k := (World.cells?_some (hf i hi).1).2.2
            have k0 := k 0 (by decide)
            have k1 := k 1 (by decide)
            rw [Deep.add_add] at k0 k1
            have e : ∀ j, (⟨b, o, none⟩ : Addr).add j = ⟨b, o + j, none⟩ := by
              intro j
              unfold Addr.add
              split
              · rename_i h; simp [h]
              · rfl
            rw [e] at k0 k1
            rw [hget i hi]
            exact ⟨k0, by rw [Nat.add_assoc]; exact k1⟩
    · rw [hlen]
      unfold maxLen at hm
      omega
    · intro q hq
      obtain ⟨i, hi, rfl⟩ := List.mem_map.1 hq
      exact (hf i (List.mem_range.1 hi)).2
end
set_option maxRecDepth 100000 in
theorem segAll_lifted (os : Os) (started : os.Started) (H : Type) (enc : TypeId × Value → H) :
    ReturnsInHanded {} Tryz.checked os 7 .any (fun w args => (Rows.segAllSpec.pre enc Tryz.prog Tryz.f7 [] false w args ∧ laidMetH Tryz.prog [("plumb/near.stays", Rows.laid_plumb_near_stays)] w) ∧ sizedMet enc Tryz.prog Tryz.f7 (OpenSpec.ofChange Rows.segAllSpec) false w args)
      (Rows.segAllSpec.post enc Tryz.prog Tryz.f7 false true false false) := by
  refine returnsInHanded_of_change_and (C := Tryz.checked) (X := fun w _ => laidMetH Tryz.prog [("plumb/near.stays", Rows.laid_plumb_near_stays)] w) (fun _ _ _ hh h => h.of_heap hh) row_own started (by kernel_rfl) Tryz.func7
    (ChangeSpec.witness_shaped (enc := enc) (C := Tryz.checked) (os := os) (X := fun w _ => laidMetH Tryz.prog [("plumb/near.stays", Rows.laid_plumb_near_stays)] w) false (World.doorLaid Tryz.prog 400 os) #[.slice none 0 0] 8 rfl (World.shaped_of_RefB (by kernel_rfl) (by kernel_rfl)) (by kernel_rfl) (by kernel_rfl) (by kernel_rfl) (door_met os _)) ?_
  intro W base args ds gs before hval0 hW _ _ _ _
  have hval : ∀ (j : Nat) t v, Tryz.f7.params[j]? = some t → args[j]? = some v → Value.okWide Tryz.prog W .any base t v := hval0
  have hW' := hW
  obtain ⟨p, q, hA0, hV, rfl, hfz, hnd⟩ := hW
  have hA : DataW.TrodAll enc Tryz.prog W 0 (fun _ => true) true Tryz.f7.params.toList args.toList ds p := hA0
  rw [Tryz.params7] at hA hval
  obtain ⟨v0, d0, hargs, hds, h0⟩ := trodAll_one hA
  obtain ⟨rfl, rfl⟩ := trodVars_none hV
  subst hargs hds
  obtain ⟨A, c, qs, rfl, hp, hl, hu⟩ := open_pts (hval 0 37 v0 rfl rfl) h0
  simp only [List.append_nil] at hW'
  refine (lSegAll A c qs W hp hl hu).mono fun x W' ⟨hx, hb⟩ => ?_
  subst hx
  refine ⟨_, rfl, post_true rfl rfl rfl hW' hb (fun sp hsp => ?_)⟩
  rw [Tryz.params7]
  have hlt : ∀ x ∈ p, x.block < W.heap.size := fun x hx => hW'.lt x hx
  exact trodAll_mk1 (WideElems.Trod_stays row_laidOut (by kernel_rfl) (of_decide_eq_true (by kernel_rfl)) h0 (fun x hx => hb.same (hlt x hx)) hsp)
theorem segAll_said : Rows.SegAllSaid :=
  OpenClaim.holds_of_wide 7 Tryz.f7 rfl rfl rfl rfl rfl rfl rfl ⟨rfl, rfl, rfl, rfl, rfl⟩ rfl rfl rfl rfl rfl (by kernel_rfl) Tryz.func7 (by kernel_rfl)
    (of_decide_eq_true (by kernel_rfl)) (by unfold Func.isWrapper; first | (rw [if_pos (by decide +kernel)]; kernel_rfl) | (rw [if_neg (by decide +kernel)]; exact ⟨rfl, rfl⟩))
    (fun os started H enc _ => segAll_lifted os started H enc)
theorem segAll_holds : Rows.SegAllCardSaid :=
  Claim7.holds_tied_plain_at .later [] [.data] true (true, "80a292a554acde2cdd04e5bef36b3977b4b8f6b315eb70e2ed427cc397b18b81") true
    segAll_said (fun _ h => by cases h) (by kernel_rfl) (fun _ h => by cases h) segAll_row_tie rfl ⟨rfl, rfl⟩ (by kernel_rfl) rfl
    (fun f fn hf hfn => by
      obtain rfl : f = 7 := Option.some.inj ((show Tryz.prog.funcNamed "plumb/plumblaw23.SegAll" = some 7 by kernel_rfl).symm.trans hf) |>.symm
      obtain rfl : fn = Tryz.f7 := (Option.some.inj (Tryz.func7.symm.trans hfn)).symm
      exact ⟨by kernel_rfl, fun j t ht => by
        rw [Tryz.params7] at ht
        have hm : t ∈ [37] := by simpa using Array.mem_of_getElem? ht
        have hall : ([37].all fun u => !Tryz.prog.wantsStandIn u) = true := by kernel_rfl
        exact (show Tryz.prog.wantsStandIn t = false by simpa using List.all_eq_true.1 hall t hm)⟩)
    (by kernel_rfl)
end Go.Proofs.YtggfppgjabembaaGreatDoor
