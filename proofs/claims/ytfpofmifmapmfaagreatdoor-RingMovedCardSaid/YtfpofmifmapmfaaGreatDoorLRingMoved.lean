/- The law RingMoved of package plumblaw24 answers true at every list of pairs, every pair and every frame, and changes nothing that it was handed: the tied card, for every input, no condition. -/
import Derived.Test.YtfpofmifmapmfaaGreatDoorRF
import Derived.Test.YtfpofmifmapmfaaGreatDoorRA
import Derived.Test.YtfpofmifmapmfaaGreatDoorRows
import Derived.Test.YtfpofmifmapmfaaGreatDoorCards
import Derived.Test.YtfpofmifmapmfaaGreatDoorTie
import Derived.ProofKit
import Derived.LaidMore
import Derived.OpenShut
import Derived.Stop.Joined
import Derived.Below
import Derived.ChangeSame
import Derived.SevenTiedAt
import Derived.Deep.Slices
import Derived.SizedLaws
namespace Go.Proofs.YtfpofmifmapmfaaGreatDoor
open Go.RowKit Go.Proofs.YtfpofmifmapmfaaGreatDoorW.PrintLast
set_option linter.unusedVariables false
set_option linter.unusedSimpArgs false
abbrev rgA (ls : List Pt) : List Pt := (rndI ls).map (layP 0 0 0)
abbrev rgB (dx dy : Int) (k : Nat) (ls : List Pt) : List Pt := (rndI ls).map (layP dx dy k)
theorem cWhole (A : Option Addr) (c : Nat) (ls : List Pt) (dx dy : Int) (sh : Nat) (hl : ls.length ≤ 100000) (hu : ∀ q ∈ ls, I64 q.1 ∧ I64 q.2) (hf : FrO dx dy sh) (w : World) (hp : IpsIn w A ls) :
    Calls Tryz.prog 33 #[.slice A ls.length c, .int .i64 dx, .int .i64 dy, .int .i64 sh] w fun e w' => ∃ A1 c1, e = .returned (.slice A1 ls.length c1) ∧ PtsIn w' A1 (wholeL dx dy sh ls) ∧ Below w.heap.size w w' := by
  refine (lWhole A c ls dx dy sh w hp hl hu hf).mono ?_
  rintro e w' ⟨v, rfl, hown, hb⟩
  obtain ⟨A1, c1, rfl⟩ := own_form hown
  exact ⟨A1, c1, rfl, own_pts hown (wholeL_len _ _ _ _), hb⟩
theorem rnd_len {dx dy : Int} {sh : Nat} {ls : List Pt} (h0 : 0 < ls.length) : ((rndI ls).map (layP dx dy sh)).length = ls.length + 1 := by
  rw [List.length_map]; unfold rndI; rw [closedL_len (by rw [List.length_map]; exact h0), List.length_map]
theorem cClosed (A : Option Addr) (c : Nat) (ls : List Pt) (dx dy : Int) (sh : Nat) (h0 : 0 < ls.length) (hl : ls.length ≤ 511) (w : World) (hp : PtsIn w A (wholeL dx dy sh ls)) :
    Calls Tryz.prog 32 #[.slice A ls.length c] w fun e w' => ∃ A1 c1, e = .returned (.slice A1 (ls.length + 1) c1) ∧ PtsIn w' A1 ((rndI ls).map (layP dx dy sh)) ∧ Below w.heap.size w w' := by
  have h := lClosed A c (wholeL dx dy sh ls) w hp (by rw [wholeL_len]; omega)
  rw [wholeL_len] at h
  refine h.mono ?_
  rintro e w' ⟨v, rfl, hown, hb⟩
  rw [rnd_whole] at hown
  have e : ((rndI ls).map (layP dx dy sh)).length = ls.length + 1 := rnd_len h0
  rw [e] at hown
  obtain ⟨A1, c1, rfl⟩ := own_form hown
  exact ⟨A1, c1, rfl, own_pts hown e, hb⟩
theorem ips_one {w : World} {g : Nat} {p : Pt} {t : TypeId} {f : Nat × Nat} (h : w.heap[g]? = some (.cells #[.int .i64 p.1, .int .i64 p.2] t f)) : IpsAt w g 0 [p] := by
  intro i hi
  match i, hi with
  | 0, _ => exact ⟨by rw [cell_of_cells h]; rfl, by rw [cell_of_cells h]; rfl⟩
theorem cOne (p : Pt) (dx dy : Int) (sh : Nat) (hu : I64 p.1 ∧ I64 p.2) (hf : FrO dx dy sh) (w : World) (g : Nat) (h : w.heap[g]? = some (.cells #[.int .i64 p.1, .int .i64 p.2] 59 (0, 0))) :
    Calls Tryz.prog 33 #[.slice (some ⟨g, 0, none⟩) 1 1, .int .i64 dx, .int .i64 dy, .int .i64 sh] w fun e w' => ∃ g2 c2, e = .returned (.slice (some ⟨g2, 0, none⟩) 1 c2) ∧ w'.cell? ⟨g2, 0, none⟩ = some (.int .u64 (layP dx dy sh (litP p)).1) ∧ w'.cell? ⟨g2, 1, none⟩ = some (.int .u64 (layP dx dy sh (litP p)).2) ∧ Below w.heap.size w w' := by
  refine (lWhole (some ⟨g, 0, none⟩) 1 [p] dx dy sh w (Or.inr ⟨g, 0, rfl, heap_lt h, ips_one h⟩) (by simp) (by intro q hq; simp at hq; subst hq; exact hu) hf).mono ?_
  rintro e w' ⟨v, rfl, hown, hb⟩
  obtain ⟨g2, c2, e2, h1, h2, h3⟩ := own_value hown (by simp)
  subst e2
  have hk := own_pts hown (wholeL_len _ _ _ _)
  rcases hk with hk | ⟨b, o, e, hbb, hpt⟩
  · exact absurd (congrArg List.length hk) (by simp [wholeL])
  · cases e
    have := hpt 0 (by simp [wholeL])
    exact ⟨_, _, rfl, this.1, this.2, hb⟩
theorem sz_int {z : Int} {n : Nat} (h : -2 ^ n < z ∧ z < 2 ^ n) (hn : 0 < n := by decide) : Sz n ((z : Int) : Rat) := by
  unfold Sz
  rw [Rat.num_intCast, Rat.den_intCast]
  have := ipow_le (Nat.zero_le n)
  refine ⟨by omega, ?_⟩
  cases n with
  | zero => omega
  | succ n => have := ipow_lt (Nat.succ_pos n); rw [Int.pow_zero] at this; exact this
theorem no_more' : ∀ q ∈ ([] : List Pt), FinP q := fun q h => by cases h
set_option maxRecDepth 100000 in
set_option maxHeartbeats 12800000 in
theorem lMovedNo (A : Option Addr) (c : Nat) (ls : List Pt) (p : Pt) (f1 f2 f3 : Int) (w : World) (hp : IpsIn w A ls) (hl : ls.length ≤ 4611686018427387903) (hn : ls.length = 0 ∨ 511 < ls.length) :
    Calls Tryz.prog 6 #[.slice A ls.length c, .agg #[.int .i64 p.1, .int .i64 p.2], .agg #[.int .i64 f1, .int .i64 f2, .int .i64 f3]] w fun e w' => e = .returned (.bool true) ∧ Below w.heap.size w w' := by
  have HAl := Lib.hid (fun wz => lAlive24 wz)
  clear hp
  have hmm : Bx w.heap.size w ((w.alloc (.cells #[.int .i64 p.1, .int .i64 p.2] 59)).alloc (.cells #[.int .i64 f1, .int .i64 f2, .int .i64 f3] 61)) _ _ := ((Bx.start w).alloc (.cells #[.int .i64 p.1, .int .i64 p.2] 59 (0, 0))).alloc (.cells #[.int .i64 f1, .int .i64 f2, .int .i64 f3] 61 (0, 0))
  go_enter Tryz.func6, Tryz.ntmps6
  go_upto_region 1 with (fail)
  generalize (World.alloc (World.alloc w _) _) = v at *
  (try simp only [List.nil_append, List.cons_append, World.size_alloc, List.set_cons_zero, List.set_cons_succ, putsC, pB, pC, pD] at hmm)
  have HM := Lib.hid hmm
  clear hmm
  have HK := Lib.hid (HAl.out v)
  ((try dsimp only); repeat (first | go_values | go_skip | go_guarded | go_step | go_upon))
  refine HK.out.mono ?_
  rintro e w0 ⟨rfl, hb⟩
  have hm := (HM.out.keep hb)
  clear HK HM hb 
  (try simp only [List.nil_append, List.cons_append, World.size_alloc, List.set_cons_zero, List.set_cons_succ, putsC, pB, pC, pD] at hm)
  have HM := Lib.hid hm
  clear hm
  by_cases h0 : ls.length = 0
  · have l0 : ((ls.length : Int) == 0) = true := by rw [h0]; rfl
    clear h0 hn
    ((try dsimp only); repeat (first | go_values | go_skip | go_guarded | go_step | go_upon))
    refine (HAl.out _).mono ?_
    rintro e w9 ⟨rfl, hb9⟩
    ((try dsimp only); repeat (first | go_values | go_skip | go_guarded | go_step | go_upon))
    go_ret
    exact ⟨rfl, HM.out.m.b.trans (hb9.mono HM.out.m.b.size)⟩
  · have l0 : ((ls.length : Int) == 0) = false := beq_eq_false_iff_ne.2 (by omega)
    have l1 : (511 : Int) < (ls.length : Int) := by omega
    have l2 : 511 < ls.length := by omega
    clear hn
    ((try dsimp only); repeat (first | go_values | go_skip | go_guarded | go_step | go_upon))
    refine (HAl.out _).mono ?_
    rintro e w9 ⟨rfl, hb9⟩
    ((try dsimp only); repeat (first | go_values | go_skip | go_guarded | go_step | go_upon))
    go_ret
    exact ⟨rfl, HM.out.m.b.trans (hb9.mono HM.out.m.b.size)⟩
set_option maxRecDepth 100000 in
set_option maxHeartbeats 12800000 in
theorem lMovedYes (A : Option Addr) (c : Nat) (ls : List Pt) (p : Pt) (f1 f2 f3 : Int) (w : World) (hp : IpsIn w A ls) (h0 : 0 < ls.length) (hl : ls.length ≤ 511) (hu : ∀ q ∈ ls, I64 q.1 ∧ I64 q.2) (hup : I64 p.1 ∧ I64 p.2) (hf : I64 f1 ∧ I64 f2 ∧ I64 f3) :
    Calls Tryz.prog 6 #[.slice A ls.length c, .agg #[.int .i64 p.1, .int .i64 p.2], .agg #[.int .i64 f1, .int .i64 f2, .int .i64 f3]] w fun e w' => e = .returned (.bool true) ∧ Below w.heap.size w w' := by
  have HAl := Lib.hid (fun wz => lAlive24 wz)
  have H1 := Lib.hid (fun wz => lLittle f1 wz hf.1)
  have H2 := Lib.hid (fun wz => lLittle f2 wz hf.2.1)
  obtain ⟨kk, hkk, hk7⟩ : ∃ kk : Nat, f3 % 8 = (kk : Int) ∧ kk ≤ 7 := ⟨(f3 % 8).toNat, by omega, by omega⟩
  have hk8 : wrap64 ((IntKind.u64.wrap f3).tmod 8) = (kk : Int) := by
    have e : IntKind.u64.wrap f3 = f3 % 18446744073709551616 := rfl
    rw [e, Int.tmod_eq_emod_of_nonneg (by omega)]
    unfold wrap64
    omega
  have HFr : Hid (FrO (litI f1) (litI f2) kk) := Lib.hid ⟨litI_range f1, litI_range f2, hk7⟩
  generalize litI f1 = dx at *
  generalize litI f2 = dy at *
  have HU := Lib.hid hu
  have HUp := Lib.hid hup
  have HL := Lib.hid (And.intro h0 hl)
  have HW0 : Hid (∀ wz : World, IpsIn wz A ls → Calls Tryz.prog 33 #[.slice A ls.length c, .int .i64 0, .int .i64 0, .int .i64 0] wz fun e w' => ∃ A1 c1, e = .returned (.slice A1 ls.length c1) ∧ PtsIn w' A1 (wholeL 0 0 0 ls) ∧ Below wz.heap.size wz w') := Lib.hid (fun wz h => cWhole A c ls 0 0 0 (by omega) hu litP_fr0 wz h)
  have HW1 := Lib.hid (fun wz h => cWhole A c ls dx dy kk (by omega) hu HFr.out wz h)
  have HC0 := Lib.hid (fun wz A1 c1 h => cClosed A1 c1 ls 0 0 0 h0 hl wz h)
  have HC1 := Lib.hid (fun wz A1 c1 h => cClosed A1 c1 ls dx dy kk h0 hl wz h)
  have HP := Lib.hid hp
  clear hp hu hup hf hkk hk7
  have l0 : ((ls.length : Int) == 0) = false := beq_eq_false_iff_ne.2 (by omega)
  have l1 : ¬ (511 : Int) < (ls.length : Int) := by omega
  have l2 : ¬ 511 < ls.length := by omega
  have hmm : Bx w.heap.size w ((w.alloc (.cells #[.int .i64 p.1, .int .i64 p.2] 59)).alloc (.cells #[.int .i64 f1, .int .i64 f2, .int .i64 f3] 61)) _ _ := ((Bx.start w).alloc (.cells #[.int .i64 p.1, .int .i64 p.2] 59 (0, 0))).alloc (.cells #[.int .i64 f1, .int .i64 f2, .int .i64 f3] 61 (0, 0))
  go_enter Tryz.func6, Tryz.ntmps6
  go_upto_region 1 with (fail)
  generalize (World.alloc (World.alloc w _) _) = v at *
  (try simp only [List.nil_append, List.cons_append, World.size_alloc, List.set_cons_zero, List.set_cons_succ, putsC, pB, pC, pD] at hmm)
  have HM := Lib.hid hmm
  clear hmm
  have HK := Lib.hid (HAl.out v)
  ((try dsimp only); repeat (first | go_values | go_skip | go_guarded | go_step | go_upon))
  refine HK.out.mono ?_
  rintro e w0 ⟨rfl, hb⟩
  have hm := (HM.out.keep hb)
  clear HK HM hb 
  (try simp only [List.nil_append, List.cons_append, World.size_alloc, List.set_cons_zero, List.set_cons_succ, putsC, pB, pC, pD] at hm)
  have HM := Lib.hid hm
  clear hm
  go_upto_region 3 with (fail)
  obtain ⟨c1_0, c1_1, c1_2, c1_3, c1_4, c1_5⟩ := rw3 (HM.out.at 1 rfl)
  go_upto_region 4 with (fail)
  clear c1_0 c1_1 c1_2 c1_3 c1_4 c1_5
  rw [hk8]
  clear hk8
  obtain ⟨c1_0, c1_1, c1_2, c1_3, c1_4, c1_5⟩ := rw3 (HM.out.at 1 rfl)
  have HK := Lib.hid (H1.out w0)
  ((try dsimp only); repeat (first | go_values | go_skip | go_guarded | go_step | go_upon))
  refine HK.out.mono ?_
  rintro e w1 ⟨rfl, hb⟩
  have hm := (HM.out.keep hb)
  clear HK HM hb c1_0 c1_1 c1_2 c1_3 c1_4 c1_5
  (try simp only [List.nil_append, List.cons_append, World.size_alloc, List.set_cons_zero, List.set_cons_succ, putsC, pB, pC, pD] at hm)
  have HM := Lib.hid hm
  clear hm
  go_upto_region 5 with (fail)
  obtain ⟨c1_0, c1_1, c1_2, c1_3, c1_4, c1_5⟩ := rw3 (HM.out.at 1 rfl)
  have HK := Lib.hid (H2.out w1)
  ((try dsimp only); repeat (first | go_values | go_skip | go_guarded | go_step | go_upon))
  refine HK.out.mono ?_
  rintro e w2 ⟨rfl, hb⟩
  have hm := (HM.out.keep hb)
  clear HK HM hb c1_0 c1_1 c1_2 c1_3 c1_4 c1_5
  (try simp only [List.nil_append, List.cons_append, World.size_alloc, List.set_cons_zero, List.set_cons_succ, putsC, pB, pC, pD] at hm)
  have HM := Lib.hid hm
  clear hm
  go_upto_region 6 with (fail)
  have HK := Lib.hid (HW0.out w2 (HP.out.keep HM.out.m.b))
  ((try dsimp only); repeat (first | go_values | go_skip | go_guarded | go_step | go_upon))
  refine HK.out.mono ?_
  rintro e w3 ⟨A1, c1, rfl, hq1, hb⟩
  have hm := (HM.out.keep hb)
  clear HK HM hb 
  (try simp only [List.nil_append, List.cons_append, World.size_alloc, List.set_cons_zero, List.set_cons_succ, putsC, pB, pC, pD] at hm)
  have HM := Lib.hid hm
  clear hm
  have HK := Lib.hid (HC0.out w3 A1 c1 hq1)
  ((try dsimp only); repeat (first | go_values | go_skip | go_guarded | go_step | go_upon))
  refine HK.out.mono ?_
  rintro e w4 ⟨A2, c2, rfl, hq2, hb⟩
  have hm := (HM.out.keep hb)
  clear HK HM hb 
  (try simp only [List.nil_append, List.cons_append, World.size_alloc, List.set_cons_zero, List.set_cons_succ, putsC, pB, pC, pD] at hm)
  have HM := Lib.hid hm
  clear hm
  go_upto_region 7 with (fail)
  have HB1 := Lib.hid HM.out.m.b
  have HF1 : Hid (∀ wz : World, Below w4.heap.size w4 wz → IpsIn wz A ls ∧ wz.heap[w.heap.size]? = some (.cells #[.int .i64 p.1, .int .i64 p.2] 59 (0, 0)) ∧ PtsIn wz A2 (rgA ls)) := Lib.hid (fun wz h => ⟨(HP.out.keep HB1.out).keep h, (h.block _ (HM.out.lt 0 rfl)).trans (HM.out.at 0 rfl), hq2.keep h⟩)
  clear HM HP HW0 HC0 hq1 hq2
  have HM := Lib.hid (Bx.start w4)
  have HK := Lib.hid (HW1.out w4 (HF1.out _ HM.out.m.b).1)
  ((try dsimp only); repeat (first | go_values | go_skip | go_guarded | go_step | go_upon))
  refine HK.out.mono ?_
  rintro e w40 ⟨A3, c3, rfl, hq3, hb⟩
  have hm := (HM.out.keep hb)
  clear HK HM hb 
  (try simp only [List.nil_append, List.cons_append, World.size_alloc, List.set_cons_zero, List.set_cons_succ, putsC, pB, pC, pD] at hm)
  have HM := Lib.hid hm
  clear hm
  have HK := Lib.hid (HC1.out w40 A3 c3 hq3)
  ((try dsimp only); repeat (first | go_values | go_skip | go_guarded | go_step | go_upon))
  refine HK.out.mono ?_
  rintro e w41 ⟨A4, c4, rfl, hq4, hb⟩
  have hm := (HM.out.keep hb)
  clear HK HM hb 
  (try simp only [List.nil_append, List.cons_append, World.size_alloc, List.set_cons_zero, List.set_cons_succ, putsC, pB, pC, pD] at hm)
  have HM := Lib.hid hm
  clear hm
  go_upto_region 8 with (fail)
  have HB2 := Lib.hid (HB1.out.trans (HM.out.m.b.mono HB1.out.size))
  have HF2 : Hid (∀ wz : World, Below w41.heap.size w41 wz → IpsIn wz A ls ∧ wz.heap[w.heap.size]? = some (.cells #[.int .i64 p.1, .int .i64 p.2] 59 (0, 0)) ∧ PtsIn wz A2 (rgA ls) ∧ PtsIn wz A4 (rgB dx dy kk ls)) := Lib.hid (fun wz h => by
    obtain ⟨x1, x2, x3⟩ := HF1.out wz (HM.out.m.b.trans (h.mono HM.out.m.b.size))
    exact ⟨x1, x2, x3, hq4.keep h⟩)
  clear HM HW1 HC1 HF1 HB1 hq3 hq4 l0 l1 l2
  ((try dsimp only); repeat (first | go_values | go_skip | go_guarded | go_step | go_upon))
  go_loopw [12, 13] (fun sm i wr => ∃ k : Nat, sm = .int .i64 (sumI icrs (edgesU (rndI ls) k)) ∧ i = .int .i64 (k : Int) ∧ k ≤ ls.length ∧ Below w41.heap.size w41 wr) (fun _ i _ => ls.length - (intOf i).toNat)
  case atStart => exact ⟨0, rfl, rfl, Nat.zero_le _, Below.refl _ _⟩
  case round =>
    obtain ⟨k, rfl, rfl, hk, hB⟩ := hrel
    have HK := Lib.hid hB
    clear hB
    by_cases hkl : k < ls.length
    · as_aux_lemma =>
        obtain ⟨j, hj, hjl⟩ : ∃ j : Nat, (k + 1) % ls.length = j ∧ j < ls.length := ⟨_, rfl, Nat.mod_lt _ HL.out.1⟩
        have hrng := isum_rng (rndI_lit ls) k (by unfold rndI; rw [closedL_len (by rw [List.length_map]; exact HL.out.1), List.length_map]; omega)
        have hedge : edge (rndI ls) k = (litP (ls.getD k (0, 0)), litP (ls.getD j (0, 0))) := by
          have hm : (ls.map litP).length = ls.length := List.length_map ..
          have g : ∀ i, i < ls.length → (ls.map litP).getD i (0, 0) = litP (ls.getD i (0, 0)) := fun i hi => by
            rw [List.getD_eq_getElem?_getD, List.getElem?_map, List.getElem?_eq_getElem hi, List.getD_eq_getElem?_getD, List.getElem?_eq_getElem hi]; rfl
          unfold edge rndI
          rw [closedL_get (by omega), closedL_next (by omega), hm, hj, g k hkl, g j hjl]
        have hnext : sumI icrs (edgesU (rndI ls) (k + 1)) = sumI icrs (edgesU (rndI ls) k) + icrs (litP (ls.getD k (0, 0)), litP (ls.getD j (0, 0))) := by rw [edgesU_succ, sumI_snoc, hedge]
        obtain ⟨b0, o0, rfl, hb0, hpa⟩ := ((HF2.out _ HK.out).1).open hkl
        have x0 := hpa k hkl
        have x1 := hpa j hjl
        have u0 := HU.out _ (getD_mem hkl)
        have u1 := HU.out _ (getD_mem hjl)
        have rr := icrs_rng (litP_lit (ls.getD k (0, 0))) (litP_lit (ls.getD j (0, 0)))
        generalize ls.getD k (0, 0) = q0 at *
        generalize ls.getD j (0, 0) = q1 at *
        replace hnext : sumI icrs (edgesU (rndI ls) (k + 1)) = sumI icrs (edgesU (rndI ls) k) + (litI q0.1 * litI q1.2 - litI q1.1 * litI q0.2) := hnext
        unfold litP at rr
        dsimp only at rr
        have G1 := Lib.hid (fun wz => lLittle q0.1 wz u0.1)
        have G2 := Lib.hid (fun wz => lLittle q1.2 wz u1.2)
        have G3 := Lib.hid (fun wz => lLittle q1.1 wz u1.1)
        have G4 := Lib.hid (fun wz => lLittle q0.2 wz u0.2)
        generalize litI q0.1 = xa at *
        generalize litI q1.2 = yb at *
        generalize litI q1.1 = xb at *
        generalize litI q0.2 = ya at *
        generalize sumI icrs (edgesU (rndI ls) k) = sm at *
        have hki : (k : Int) < (ls.length : Int) := by omega
        have hji : (j : Int) < (ls.length : Int) := by omega
        have hne : ¬ (ls.length : Int) = 0 := by have := HL.out.1; omega
        have hne2 : ((ls.length : Int) == 0) = false := beq_eq_false_iff_ne.2 hne
        have hne3 : ¬ ls = [] := by intro h; rw [h] at hkl; simp at hkl
        have e1 : wrap64 (xa * yb) = xa * yb := by clear HK HL HF2 HU HUp HFr H1 H2 G1 G2 G3 G4 HB2 HAl hnext; unfold wrap64; omega
        have e2 : wrap64 (sm + xa * yb) = sm + xa * yb := by have := HL.out.2; clear HK HL HF2 HU HUp HFr H1 H2 G1 G2 G3 G4 HB2 HAl hnext e1; unfold wrap64; omega
        have e3 : wrap64 (xb * ya) = xb * ya := by clear HK HL HF2 HU HUp HFr H1 H2 G1 G2 G3 G4 HB2 HAl hnext e1 e2; unfold wrap64; omega
        have e4 : wrap64 (sm + xa * yb - xb * ya) = sm + xa * yb - xb * ya := by have := HL.out.2; clear HK HL HF2 HU HUp HFr H1 H2 G1 G2 G3 G4 HB2 HAl hnext e1 e2 e3; unfold wrap64; omega
        have hw1 : wrap64 ((k : Int) + 1) = ((k + 1 : Nat) : Int) := by have := HL.out.2; clear HK HL HF2 HU HUp HFr H1 H2 G1 G2 G3 G4 HB2 HAl hnext e1 e2 e3 e4; unfold wrap64; omega
        have hm1 : (((k + 1 : Nat) : Int)).tmod (ls.length : Int) = (j : Int) := by rw [Int.tmod_eq_emod_of_nonneg (Int.natCast_nonneg _), ← hj]; exact (Int.natCast_emod _ _).symm
        have W1 := Lib.hid (And.intro hw1 (And.intro hm1 hj))
        have HN := Lib.hid (And.intro hnext (And.intro hkl (And.intro x0 (And.intro x1 hb0))))
        clear hnext hrng hedge hj rr u0 u1 hpa hw1 hm1 x0 x1
        have EE := Lib.hid (And.intro e1 (And.intro e2 (And.intro e3 e4)))
        clear e1 e2 e3 e4
        have HM := Lib.hid (Bx.start wr)
        obtain ⟨x0, x1⟩ := HN.out.2.2.1
        go_upto_region 12 with (fail)
        have hm : Bx wr.heap.size wr (World.alloc wr (.cells #[.int .i64 q0.1, .int .i64 q0.2] 59)) _ _ := (HM.out.alloc (.cells #[.int .i64 q0.1, .int .i64 q0.2] 59 (0, 0)))
        go_upto_region 13 with (fail)
        generalize (World.alloc wr _) = v60 at *
        clear HM 
        (try simp only [List.nil_append, List.cons_append, World.size_alloc, List.set_cons_zero, List.set_cons_succ, putsC, pB, pC, pD] at hm)
        have HM := Lib.hid hm
        clear hm
        clear x0 x1
        obtain ⟨⟨x0, x1⟩, hb0⟩ := HN.out.2.2.2
        have y0 := (HM.out.m.b.cell (p := ⟨b0, o0 + j * 2, none⟩) hb0).trans x0
        have y1 := (HM.out.m.b.cell (p := ⟨b0, o0 + j * 2 + 1, none⟩) hb0).trans x1
        clear x0 x1
        obtain ⟨K1, hw1⟩ : ∃ K1 : Int, wrap64 ((k : Int) + 1) = K1 := ⟨_, rfl⟩
        have hm1 : K1.tmod (ls.length : Int) = (j : Int) := by rw [← hw1, W1.out.1]; exact W1.out.2.1
        rw [← W1.out.2.2] at y0 y1
        have hjm : (k + 1) % ls.length < ls.length := Nat.mod_lt _ HL.out.1
        have hjm2 : 0 ≤ ((k : Int) + 1) % (ls.length : Int) := Int.emod_nonneg _ (by have := HL.out.1; omega)
        have hjm3 : ((k : Int) + 1) % (ls.length : Int) < (ls.length : Int) := Int.emod_lt_of_pos _ (by have := HL.out.1; omega)
        have hm : Bx wr.heap.size wr (World.alloc v60 (.cells #[.int .i64 q1.1, .int .i64 q1.2] 59)) _ _ := (HM.out.alloc (.cells #[.int .i64 q1.1, .int .i64 q1.2] 59 (0, 0)))
        go_upto_region 14 with (fail)
        generalize (World.alloc v60 _) = v61 at *
        clear HM 
        (try simp only [List.nil_append, List.cons_append, World.size_alloc, List.set_cons_zero, List.set_cons_succ, putsC, pB, pC, pD] at hm)
        have HM := Lib.hid hm
        clear hm
        clear y0 y1 hw1 hm1
        obtain ⟨e1, e2, e3, e4⟩ := EE.out
        refine start_ (n := 18) (S := fun w' => Below v61.heap.size v61 w') (ds := []) (bt 18 0) (by kernel_rfl) rfl rfl ((Below.refl _ _).drew) (fun hHeld => ?_)
        refine pv_ 0 88 ?_
        refine pv_ 1 89 ?_
        refine ld_ 2 90 ?_ hHeld ?_ ?_; rotate_left
        · rintro w' hs
          obtain ⟨c0, c1, _, _⟩ := rw2 ((hs.block _ (HM.out.lt 0 rfl)).trans (HM.out.at 0 rfl))
          obtain ⟨d0, d1, _, _⟩ := rw2 ((hs.block _ (HM.out.lt 1 rfl)).trans (HM.out.at 1 rfl))
          clear hs
          go_simp; with_reducible rfl
        refine pv_ 4 92 ?_
        refine ld_ 5 93 ?_ hHeld ?_ ?_; rotate_left
        · rintro w' hs
          obtain ⟨c0, c1, _, _⟩ := rw2 ((hs.block _ (HM.out.lt 0 rfl)).trans (HM.out.at 0 rfl))
          obtain ⟨d0, d1, _, _⟩ := rw2 ((hs.block _ (HM.out.lt 1 rfl)).trans (HM.out.at 1 rfl))
          clear hs
          go_simp; with_reducible rfl
        refine pv_ 9 97 ?_
        refine ld_ 10 98 ?_ hHeld ?_ ?_; rotate_left
        · rintro w' hs
          obtain ⟨c0, c1, _, _⟩ := rw2 ((hs.block _ (HM.out.lt 0 rfl)).trans (HM.out.at 0 rfl))
          obtain ⟨d0, d1, _, _⟩ := rw2 ((hs.block _ (HM.out.lt 1 rfl)).trans (HM.out.at 1 rfl))
          clear hs
          go_simp; with_reducible rfl
        refine pv_ 12 100 ?_
        refine ld_ 13 101 ?_ hHeld ?_ ?_; rotate_left
        · rintro w' hs
          obtain ⟨c0, c1, _, _⟩ := rw2 ((hs.block _ (HM.out.lt 0 rfl)).trans (HM.out.at 0 rfl))
          obtain ⟨d0, d1, _, _⟩ := rw2 ((hs.block _ (HM.out.lt 1 rfl)).trans (HM.out.at 1 rfl))
          clear hs
          go_simp; with_reducible rfl
        refine ca_ 3 91 Tryz.func31 #[.int .i64 q0.1] ?_
        with_reducible refine (G1.out _).mono ?_
        rintro e w' ⟨rfl, hb⟩
        refine ⟨_, rfl, (by exact hHeld.trans (hb.mono hHeld.size)), fun hHeld => ?_⟩
        refine nn ?_
        refine ca_ 6 94 Tryz.func31 #[.int .i64 q1.2] ?_
        with_reducible refine (G2.out _).mono ?_
        rintro e w' ⟨rfl, hb⟩
        refine ⟨_, rfl, (by exact hHeld.trans (hb.mono hHeld.size)), fun hHeld => ?_⟩
        refine nn ?_
        refine pv_ 7 95 ?_
        refine pv_ 8 96 ?_
        refine ca_ 11 99 Tryz.func31 #[.int .i64 q1.1] ?_
        with_reducible refine (G3.out _).mono ?_
        rintro e w' ⟨rfl, hb⟩
        refine ⟨_, rfl, (by exact hHeld.trans (hb.mono hHeld.size)), fun hHeld => ?_⟩
        refine nn ?_
        refine ca_ 14 102 Tryz.func31 #[.int .i64 q0.2] ?_
        with_reducible refine (G4.out _).mono ?_
        rintro e w' ⟨rfl, hb⟩
        refine ⟨_, rfl, (by exact hHeld.trans (hb.mono hHeld.size)), fun hHeld => ?_⟩
        refine nn ?_
        refine pv_ 15 103 ?_
        refine pv_ 16 104 ?_
        refine pv_ 17 12 ?_
        refine done_ (by kernel_rfl) ?_
        have HE := Lib.hid (HK.out.trans ((HM.out.m.b.trans (hHeld.mono HM.out.m.b.size)).mono HK.out.size))
        clear hHeld
        clear HM G1 G2 G3 G4 e1 e2 e3 e4
        ((try dsimp only); repeat (first | go_values | go_skip | go_guarded | go_step | go_upon))
        refine ⟨⟨k + 1, ?_, vint (by first | exact W1.out.1 | exact (Int.natCast_succ k).symm | rfl), HN.out.2.1, HE.out⟩, ?_⟩
        · rw [HN.out.1]; exact vint (by omega)
        · show ls.length - (intOf (.int .i64 ((k : Int) + 1))).toNat < ls.length - (intOf (.int .i64 (k : Int))).toNat
          have hk0 := HN.out.2.1
          clear HE HN HK HL HF2 HU HUp HFr H1 H2 HB2 HAl W1 EE
          show ls.length - ((k : Int) + 1).toNat < ls.length - ((k : Int)).toNat
          omega
    · obtain rfl : k = ls.length := by omega
      rw [isum_edges ls HL.out.1]
      have HFw := Lib.hid (fun (wz : World) (h : Below wr.heap.size wr wz) => HF2.out wz (HK.out.trans (h.mono HK.out.size)))
      have HBw := Lib.hid (HB2.out.trans (HK.out.mono HB2.out.size))
      clear HF2 HB2 hk hkl
      have f0 := litP_fr0
      have hN : ls.length + 1 ≤ 1000000 := by have := HL.out.2; omega
      have ir : -8796093022208 ≤ isum ls ∧ isum ls ≤ 8796093022208 := by
        have := isum_rng (rndI_lit ls) ls.length (by unfold rndI; rw [closedL_len (by rw [List.length_map]; exact HL.out.1), List.length_map]; omega)
        rw [isum_edges ls HL.out.1] at this
        have := HL.out.2
        omega
      have HA1 : Hid (∀ wz : World, Below wr.heap.size wr wz → Calls Tryz.prog 16 #[.slice A2 (ls.length + 1) c2] wz fun e w' => ∃ E F, e = .returned (.tuple #[qv E F (((isum ls * (2 ^ 0 * 2 ^ 0) : Int) : Rat)), .int .i64 0]) ∧ RatFresh wz.heap.size w' E F (((isum ls * (2 ^ 0 * 2 ^ 0) : Int) : Rat)) ∧ Below wz.heap.size wz w') := Lib.hid (fun wz h => by
        have hl := rnd_len (dx := 0) (dy := 0) (sh := 0) HL.out.1
        have h1 := area_any A2 c2 (rgA ls) wz (HFw.out wz h).2.2.1 (by rw [hl]; exact hN) (lay_u litP_fr0)
        rw [hl] at h1
        refine h1.mono ?_
        rintro e w' ⟨z, E, n1, n2, F, n3, n4, he, hq, hb⟩
        have hc := lay_chk litP_fr0 HL.out.1 HL.out.2 no_more'
        obtain ⟨q1, q2⟩ := hq hc
        rw [hc, q1, lay_sum litP_fr0 HL.out.1] at he
        rw [lay_sum litP_fr0 HL.out.1] at q2
        exact ⟨E, F, he, q2, hb⟩)
      have HA2 : Hid (∀ wz : World, Below wr.heap.size wr wz → Calls Tryz.prog 16 #[.slice A4 (ls.length + 1) c4] wz fun e w' => ∃ E F, e = .returned (.tuple #[qv E F (((isum ls * (2 ^ kk * 2 ^ kk) : Int) : Rat)), .int .i64 0]) ∧ RatFresh wz.heap.size w' E F (((isum ls * (2 ^ kk * 2 ^ kk) : Int) : Rat)) ∧ Below wz.heap.size wz w') := Lib.hid (fun wz h => by
        have hl := rnd_len (dx := dx) (dy := dy) (sh := kk) HL.out.1
        have h1 := area_any A4 c4 (rgB dx dy kk ls) wz (HFw.out wz h).2.2.2 (by rw [hl]; exact hN) (lay_u HFr.out)
        rw [hl] at h1
        refine h1.mono ?_
        rintro e w' ⟨z, E, n1, n2, F, n3, n4, he, hq, hb⟩
        have hc := lay_chk HFr.out HL.out.1 HL.out.2 no_more'
        obtain ⟨q1, q2⟩ := hq hc
        rw [hc, q1, lay_sum HFr.out HL.out.1] at he
        rw [lay_sum HFr.out HL.out.1] at q2
        exact ⟨E, F, he, q2, hb⟩)
      have HO1 := Lib.hid (cOne p 0 0 0 HUp.out litP_fr0)
      have HO2 := Lib.hid (cOne p dx dy kk HUp.out HFr.out)
      have HV1 : Hid (∀ wz : World, Below wr.heap.size wr wz → Calls Tryz.prog 27 #[.slice A2 (ls.length + 1) c2, .agg #[.int .u64 (layP 0 0 0 (litP p)).1, .int .u64 (layP 0 0 0 (litP p)).2]] wz fun e w' => e = .returned (.tuple #[.int .i64 (windV (rgA ls) (layP 0 0 0 (litP p))).1, .bool (windV (rgA ls) (layP 0 0 0 (litP p))).2.1, .int .i64 (windV (rgA ls) (layP 0 0 0 (litP p))).2.2]) ∧ Below wz.heap.size wz w') := Lib.hid (fun wz h => by
        have hl := rnd_len (dx := 0) (dy := 0) (sh := 0) HL.out.1
        have h1 := gWinding A2 c2 (rgA ls) (layP 0 0 0 (litP p)) wz (HFw.out wz h).2.2.1 (by rw [hl]; exact hN) (lay_u litP_fr0) (fin_u (lay_p litP_fr0 p))
        rw [hl] at h1
        exact h1)
      have HV2 : Hid (∀ wz : World, Below wr.heap.size wr wz → Calls Tryz.prog 27 #[.slice A4 (ls.length + 1) c4, .agg #[.int .u64 (layP dx dy kk (litP p)).1, .int .u64 (layP dx dy kk (litP p)).2]] wz fun e w' => e = .returned (.tuple #[.int .i64 (windV (rgB dx dy kk ls) (layP dx dy kk (litP p))).1, .bool (windV (rgB dx dy kk ls) (layP dx dy kk (litP p))).2.1, .int .i64 (windV (rgB dx dy kk ls) (layP dx dy kk (litP p))).2.2]) ∧ Below wz.heap.size wz w') := Lib.hid (fun wz h => by
        have hl := rnd_len (dx := dx) (dy := dy) (sh := kk) HL.out.1
        have h1 := gWinding A4 c4 (rgB dx dy kk ls) (layP dx dy kk (litP p)) wz (HFw.out wz h).2.2.2 (by rw [hl]; exact hN) (lay_u HFr.out) (fin_u (lay_p HFr.out p))
        rw [hl] at h1
        exact h1)
      have HS1 : Hid (∀ wz : World, Below wr.heap.size wr wz → Calls Tryz.prog 25 #[.slice A2 (ls.length + 1) c2, .agg #[.int .u64 (layP 0 0 0 (litP p)).1, .int .u64 (layP 0 0 0 (litP p)).2]] wz fun e w' => e = .returned (.tuple #[.int .i64 (sideV (rgA ls) (layP 0 0 0 (litP p))).1, .int .i64 (sideV (rgA ls) (layP 0 0 0 (litP p))).2]) ∧ Below wz.heap.size wz w') := Lib.hid (fun wz h => by
        have hl := rnd_len (dx := 0) (dy := 0) (sh := 0) HL.out.1
        have h1 := gSide A2 c2 (rgA ls) (layP 0 0 0 (litP p)) wz (HFw.out wz h).2.2.1 (by rw [hl]; exact hN) (lay_u litP_fr0) (fin_u (lay_p litP_fr0 p))
        rw [hl] at h1
        exact h1)
      have HS2 : Hid (∀ wz : World, Below wr.heap.size wr wz → Calls Tryz.prog 25 #[.slice A4 (ls.length + 1) c4, .agg #[.int .u64 (layP dx dy kk (litP p)).1, .int .u64 (layP dx dy kk (litP p)).2]] wz fun e w' => e = .returned (.tuple #[.int .i64 (sideV (rgB dx dy kk ls) (layP dx dy kk (litP p))).1, .int .i64 (sideV (rgB dx dy kk ls) (layP dx dy kk (litP p))).2]) ∧ Below wz.heap.size wz w') := Lib.hid (fun wz h => by
        have hl := rnd_len (dx := dx) (dy := dy) (sh := kk) HL.out.1
        have h1 := gSide A4 c4 (rgB dx dy kk ls) (layP dx dy kk (litP p)) wz (HFw.out wz h).2.2.2 (by rw [hl]; exact hN) (lay_u HFr.out) (fin_u (lay_p HFr.out p))
        rw [hl] at h1
        exact h1)
      have HBx : Hid (∀ wz : World, Below wr.heap.size wr wz → Calls Tryz.prog 29 #[.slice A4 (ls.length + 1) c4] wz fun e w' => e = .returned (.tuple #[.agg #[.int .u64 (lowP (rgB dx dy kk ls)).1, .int .u64 (lowP (rgB dx dy kk ls)).2], .agg #[.int .u64 (highP (rgB dx dy kk ls)).1, .int .u64 (highP (rgB dx dy kk ls)).2], .int .i64 (boxE (rgB dx dy kk ls))]) ∧ Below wz.heap.size wz w') := Lib.hid (fun wz h => by
        have hl := rnd_len (dx := dx) (dy := dy) (sh := kk) HL.out.1
        have h1 := gBox A4 c4 (rgB dx dy kk ls) wz (HFw.out wz h).2.2.2 (by rw [hl]; exact hN) (lay_u HFr.out)
        rw [hl] at h1
        exact h1)
      have hwe := lay_windV HFr.out p HL.out.1 HL.out.2
      have hsd := lay_sideV HFr.out p HL.out.1 HL.out.2
      have hck : chkE (rgB dx dy kk ls) [layP dx dy kk (litP p)] = 0 := lay_chk HFr.out HL.out.1 HL.out.2 (by intro q hq; simp at hq; subst hq; exact lay_p HFr.out p)
      have hw0 : (windV (rgA ls) (layP 0 0 0 (litP p))).2.2 = 0 := by rw [← hwe]; unfold windV; rw [hck]; rfl
      have hbe : boxE (rgB dx dy kk ls) = 0 := by
        unfold boxE
        rw [if_neg (by rw [rnd_len HL.out.1]; omega), if_pos ((finB_iff (lay_u HFr.out)).2 (lay_fin HFr.out))]
      have hlow : lowP (rgB dx dy kk ls) = (cornK (-1) fX (rgB dx dy kk ls) (rgB dx dy kk ls).length, cornK (-1) fY (rgB dx dy kk ls) (rgB dx dy kk ls).length) := by unfold lowP; rw [if_pos hbe]
      have hhigh : highP (rgB dx dy kk ls) = (cornK 1 fX (rgB dx dy kk ls) (rgB dx dy kk ls).length, cornK 1 fY (rgB dx dy kk ls) (rgB dx dy kk ls).length) := by unfold highP; rw [if_pos hbe]
      have hl0 : 0 < (rgB dx dy kk ls).length := by rw [rnd_len HL.out.1]; omega
      have fl := corn_fin (s := -1) (lay_fin HFr.out (ls := ls)) hl0 (Nat.le_refl _)
      have fh := corn_fin (s := 1) (lay_fin HFr.out (ls := ls)) hl0 (Nat.le_refl _)
      have ft := lay_p HFr.out p
      have hout := fun h => out_side (r := rgB dx dy kk ls) (p := layP dx dy kk (litP p)) hck (lay_u HFr.out) (by intro q hq; simp at hq; subst hq; exact fin_u ft) h
      rw [hwe, hw0] at HV2
      rw [hw0] at HV1
      rw [hsd] at HS2 hout
      rw [hlow, hhigh, hbe] at HBx
      generalize windV (rgA ls) (layP 0 0 0 (litP p)) = WV at *
      generalize sideV (rgA ls) (layP 0 0 0 (litP p)) = SV at *
      generalize cornK (-1) fX (rgB dx dy kk ls) (rgB dx dy kk ls).length = lx at *
      generalize cornK (-1) fY (rgB dx dy kk ls) (rgB dx dy kk ls).length = ly at *
      generalize cornK 1 fX (rgB dx dy kk ls) (rgB dx dy kk ls).length = hx at *
      generalize cornK 1 fY (rgB dx dy kk ls) (rgB dx dy kk ls).length = hy at *
      generalize layP 0 0 0 (litP p) = qa at *
      generalize layP dx dy kk (litP p) = qb at *
      have HC1 := Lib.hid (fun wz => lCmp24 qb.1 lx wz ft.1 fl.1)
      have HC2 := Lib.hid (fun wz => lCmp24 qb.2 ly wz ft.2 fl.2)
      have HC3 := Lib.hid (fun wz => lCmp24 qb.1 hx wz ft.1 fh.1)
      have HC4 := Lib.hid (fun wz => lCmp24 qb.2 hy wz ft.2 fh.2)
      have HOut := Lib.hid hout
      generalize qcmp (fval qb.1) (fval lx) = d1 at *
      generalize qcmp (fval qb.2) (fval ly) = d2 at *
      generalize qcmp (fval qb.1) (fval hx) = d3 at *
      generalize qcmp (fval qb.2) (fval hy) = d4 at *
      have HI := Lib.hid ir
      clear hwe hsd hck hw0 hbe hlow hhigh hl0 fl fh ft hout f0 hN ir H1 H2 HU HUp HAl
      obtain ⟨nw, ow, _⟩ := WV
      obtain ⟨inn, _⟩ := SV
      dsimp only at HV1 HV2 HS1 HS2 HOut
      obtain ⟨Qa, hQa⟩ : ∃ x, (((isum ls * (2 ^ 0 * 2 ^ 0) : Int) : Rat)) = x := ⟨_, rfl⟩
      obtain ⟨Qb, hQb⟩ : ∃ x, (((isum ls * (2 ^ kk * 2 ^ kk) : Int) : Rat)) = x := ⟨_, rfl⟩
      rw [hQa] at HA1
      rw [hQb] at HA2
      have HQ := Lib.hid (And.intro hQa hQb)
      clear hQa hQb
      unfold qv at HA1 HA2
      have HM := Lib.hid (Bx.start wr)
      go_upto_region 15 with (fail)
      have HK := Lib.hid (HA1.out wr HM.out.m.b)
      ((try dsimp only); repeat (first | go_values | go_skip | go_guarded | go_step | go_upon))
      refine HK.out.mono ?_
      rintro e w70 ⟨E70, F70, rfl, hf, hb⟩
      have hm : Bx wr.heap.size wr (World.alloc w70 (.cells #[.bool (decide (Qa.num < 0)), .slice E70 (qn Qa).length (qn Qa).length, .slice F70 (qd Qa).length (qd Qa).length] 26)) _ _ := ((HM.out.call hf hb).alloc (.cells #[.bool (decide (Qa.num < 0)), .slice E70 (qn Qa).length (qn Qa).length, .slice F70 (qd Qa).length (qd Qa).length] 26 (0, 0)))
      clear HK HM hf hb 
      go_upto_region 16 with (fail)
      generalize (World.alloc w70 _) = v71 at *
      (try simp only [List.nil_append, List.cons_append, World.size_alloc, List.set_cons_zero, List.set_cons_succ, putsC, pB, pC, pD] at hm)
      have HM := Lib.hid hm
      clear hm
      have HK := Lib.hid (HA2.out v71 HM.out.m.b)
      ((try dsimp only); repeat (first | go_values | go_skip | go_guarded | go_step | go_upon))
      refine HK.out.mono ?_
      rintro e w72 ⟨E72, F72, rfl, hf, hb⟩
      have hm : Bx wr.heap.size wr (World.alloc w72 (.cells #[.bool (decide (Qb.num < 0)), .slice E72 (qn Qb).length (qn Qb).length, .slice F72 (qd Qb).length (qd Qb).length] 26)) _ _ := ((HM.out.call hf hb).alloc (.cells #[.bool (decide (Qb.num < 0)), .slice E72 (qn Qb).length (qn Qb).length, .slice F72 (qd Qb).length (qd Qb).length] 26 (0, 0)))
      clear HK HM hf hb 
      go_upto_region 17 with (fail)
      generalize (World.alloc w72 _) = v73 at *
      (try simp only [List.nil_append, List.cons_append, World.size_alloc, List.set_cons_zero, List.set_cons_succ, putsC, pB, pC, pD] at hm)
      have HM := Lib.hid hm
      clear hm
      have hbp := rw2 ((HFw.out _ HM.out.m.b).2.1)
      obtain ⟨b0, b1, b2, b3⟩ := hbp
      have hm : Bx wr.heap.size wr (World.alloc v73 (.cells #[.int .i64 p.1, .int .i64 p.2] 59)) _ _ := (HM.out.alloc (.cells #[.int .i64 p.1, .int .i64 p.2] 59 (0, 0)))
      go_upto_region 18 with (fail)
      generalize (World.alloc v73 _) = v74 at *
      clear HM 
      (try simp only [List.nil_append, List.cons_append, World.size_alloc, List.set_cons_zero, List.set_cons_succ, putsC, pB, pC, pD] at hm)
      have HM := Lib.hid hm
      clear hm
      clear b0 b1 b2 b3
      have HK := Lib.hid (HO1.out v74 _ (HM.out.at 2 rfl))
      ((try dsimp only); repeat (first | go_values | go_skip | go_guarded | go_step | go_upon))
      refine HK.out.mono ?_
      rintro e w75 ⟨g8, c8, rfl, y0, y1, hb⟩
      have hm : Bx wr.heap.size wr (World.alloc w75 (.cells #[.int .u64 qa.1, .int .u64 qa.2] 38)) _ _ := ((HM.out.keep hb).alloc (.cells #[.int .u64 qa.1, .int .u64 qa.2] 38 (0, 0)))
      clear HK HM hb 
      go_upto_region 19 with (fail)
      generalize (World.alloc w75 _) = v76 at *
      (try simp only [List.nil_append, List.cons_append, World.size_alloc, List.set_cons_zero, List.set_cons_succ, putsC, pB, pC, pD] at hm)
      have HM := Lib.hid hm
      clear hm
      clear y0 y1
      have HK := Lib.hid (HO2.out v76 _ (HM.out.at 2 rfl))
      ((try dsimp only); repeat (first | go_values | go_skip | go_guarded | go_step | go_upon))
      refine HK.out.mono ?_
      rintro e w77 ⟨g9, c9, rfl, y0, y1, hb⟩
      have hm : Bx wr.heap.size wr (World.alloc w77 (.cells #[.int .u64 qb.1, .int .u64 qb.2] 38)) _ _ := ((HM.out.keep hb).alloc (.cells #[.int .u64 qb.1, .int .u64 qb.2] 38 (0, 0)))
      clear HK HM hb 
      go_upto_region 20 with (fail)
      generalize (World.alloc w77 _) = v78 at *
      (try simp only [List.nil_append, List.cons_append, World.size_alloc, List.set_cons_zero, List.set_cons_succ, putsC, pB, pC, pD] at hm)
      have HM := Lib.hid hm
      clear hm
      clear y0 y1
      obtain ⟨c3_0, c3_1, c3_2, c3_3⟩ := rw2 (HM.out.at 3 rfl)
      have HK := Lib.hid (HV1.out v78 HM.out.m.b)
      ((try dsimp only); repeat (first | go_values | go_skip | go_guarded | go_step | go_upon))
      refine HK.out.mono ?_
      rintro e w79 ⟨rfl, hb⟩
      have hm := (HM.out.keep hb)
      clear HK HM hb c3_0 c3_1 c3_2 c3_3
      (try simp only [List.nil_append, List.cons_append, World.size_alloc, List.set_cons_zero, List.set_cons_succ, putsC, pB, pC, pD] at hm)
      have HM := Lib.hid hm
      clear hm
      go_upto_region 21 with (fail)
      obtain ⟨c4_0, c4_1, c4_2, c4_3⟩ := rw2 (HM.out.at 4 rfl)
      have HK := Lib.hid (HV2.out w79 HM.out.m.b)
      ((try dsimp only); repeat (first | go_values | go_skip | go_guarded | go_step | go_upon))
      refine HK.out.mono ?_
      rintro e w80 ⟨rfl, hb⟩
      have hm := (HM.out.keep hb)
      clear HK HM hb c4_0 c4_1 c4_2 c4_3
      (try simp only [List.nil_append, List.cons_append, World.size_alloc, List.set_cons_zero, List.set_cons_succ, putsC, pB, pC, pD] at hm)
      have HM := Lib.hid hm
      clear hm
      go_upto_region 22 with (fail)
      obtain ⟨c3_0, c3_1, c3_2, c3_3⟩ := rw2 (HM.out.at 3 rfl)
      have HK := Lib.hid (HS1.out w80 HM.out.m.b)
      ((try dsimp only); repeat (first | go_values | go_skip | go_guarded | go_step | go_upon))
      refine HK.out.mono ?_
      rintro e w81 ⟨rfl, hb⟩
      have hm := (HM.out.keep hb)
      clear HK HM hb c3_0 c3_1 c3_2 c3_3
      (try simp only [List.nil_append, List.cons_append, World.size_alloc, List.set_cons_zero, List.set_cons_succ, putsC, pB, pC, pD] at hm)
      have HM := Lib.hid hm
      clear hm
      go_upto_region 23 with (fail)
      obtain ⟨c4_0, c4_1, c4_2, c4_3⟩ := rw2 (HM.out.at 4 rfl)
      have HK := Lib.hid (HS2.out w81 HM.out.m.b)
      ((try dsimp only); repeat (first | go_values | go_skip | go_guarded | go_step | go_upon))
      refine HK.out.mono ?_
      rintro e w82 ⟨rfl, hb⟩
      have hm := (HM.out.keep hb)
      clear HK HM hb c4_0 c4_1 c4_2 c4_3
      (try simp only [List.nil_append, List.cons_append, World.size_alloc, List.set_cons_zero, List.set_cons_succ, putsC, pB, pC, pD] at hm)
      have HM := Lib.hid hm
      clear hm
      go_upto_region 24 with (fail)
      have HK := Lib.hid (HBx.out w82 HM.out.m.b)
      ((try dsimp only); repeat (first | go_values | go_skip | go_guarded | go_step | go_upon))
      refine HK.out.mono ?_
      rintro e w83 ⟨rfl, hb⟩
      have hm : Bx wr.heap.size wr (World.alloc (World.alloc w83 (.cells #[.int .u64 lx, .int .u64 ly] 38)) (.cells #[.int .u64 hx, .int .u64 hy] 38)) _ _ := (((HM.out.keep hb).alloc (.cells #[.int .u64 lx, .int .u64 ly] 38 (0, 0))).alloc (.cells #[.int .u64 hx, .int .u64 hy] 38 (0, 0)))
      clear HK HM hb 
      go_upto_region 25 with (fail)
      generalize (World.alloc (World.alloc w83 _) _) = v84 at *
      (try simp only [List.nil_append, List.cons_append, World.size_alloc, List.set_cons_zero, List.set_cons_succ, putsC, pB, pC, pD] at hm)
      have HM := Lib.hid hm
      clear hm
      go_upto_region 27 with (fail)
      obtain ⟨ob, hob⟩ : ∃ ob : Bool, (decide (d1 < 0) || decide (d2 < 0) || decide (0 < d3) || decide (0 < d4)) = ob := ⟨_, rfl⟩
      have HOb := Lib.hid hob
      clear hob
      go_cut [36] (fun r wx => r = .bool ob ∧ wx = v84)
      case first =>
        as_aux_lemma =>
          obtain ⟨z4_0, z4_1, _, _⟩ := rw2 (HM.out.at 4 rfl)
          obtain ⟨z5_0, z5_1, _, _⟩ := rw2 (HM.out.at 5 rfl)
          obtain ⟨z6_0, z6_1, _, _⟩ := rw2 (HM.out.at 6 rfl)
          by_cases k1 : d1 < 0
          · ((try dsimp only); repeat (first | go_values | go_skip | go_guarded | go_step | go_upon))
            refine (HC1.out _).mono ?_
            rintro e w9 ⟨rfl, rfl⟩
            ((try dsimp only); repeat (first | go_values | go_skip | go_guarded | go_step | go_upon))
            go_meet
            exact ⟨by rw [← HOb.out, decide_eq_true k1]; simp only [Bool.false_or, Bool.true_or, Bool.or_false], rfl⟩
          · ((try dsimp only); repeat (first | go_values | go_skip | go_guarded | go_step | go_upon))
            refine (HC1.out _).mono ?_
            rintro e w9 ⟨rfl, rfl⟩
            by_cases k2 : d2 < 0
            · ((try dsimp only); repeat (first | go_values | go_skip | go_guarded | go_step | go_upon))
              refine (HC2.out _).mono ?_
              rintro e w9 ⟨rfl, rfl⟩
              ((try dsimp only); repeat (first | go_values | go_skip | go_guarded | go_step | go_upon))
              go_meet
              exact ⟨by rw [← HOb.out, decide_eq_false k1, decide_eq_true k2]; simp only [Bool.false_or, Bool.true_or, Bool.or_false], rfl⟩
            · ((try dsimp only); repeat (first | go_values | go_skip | go_guarded | go_step | go_upon))
              refine (HC2.out _).mono ?_
              rintro e w9 ⟨rfl, rfl⟩
              by_cases k3 : 0 < d3
              · ((try dsimp only); repeat (first | go_values | go_skip | go_guarded | go_step | go_upon))
                refine (HC3.out _).mono ?_
                rintro e w9 ⟨rfl, rfl⟩
                ((try dsimp only); repeat (first | go_values | go_skip | go_guarded | go_step | go_upon))
                go_meet
                exact ⟨by rw [← HOb.out, decide_eq_false k1, decide_eq_false k2, decide_eq_true k3]; simp only [Bool.false_or, Bool.true_or, Bool.or_false], rfl⟩
              · ((try dsimp only); repeat (first | go_values | go_skip | go_guarded | go_step | go_upon))
                refine (HC3.out _).mono ?_
                rintro e w9 ⟨rfl, rfl⟩
                by_cases k4 : 0 < d4
                · ((try dsimp only); repeat (first | go_values | go_skip | go_guarded | go_step | go_upon))
                  refine (HC4.out _).mono ?_
                  rintro e w9 ⟨rfl, rfl⟩
                  ((try dsimp only); repeat (first | go_values | go_skip | go_guarded | go_step | go_upon))
                  go_meet
                  exact ⟨by rw [← HOb.out, decide_eq_false k1, decide_eq_false k2, decide_eq_false k3, decide_eq_true k4]; simp only [Bool.false_or, Bool.true_or, Bool.or_false], rfl⟩
                · ((try dsimp only); repeat (first | go_values | go_skip | go_guarded | go_step | go_upon))
                  refine (HC4.out _).mono ?_
                  rintro e w9 ⟨rfl, rfl⟩
                  ((try dsimp only); repeat (first | go_values | go_skip | go_guarded | go_step | go_upon))
                  go_meet
                  exact ⟨by rw [← HOb.out, decide_eq_false k1, decide_eq_false k2, decide_eq_false k3, decide_eq_false k4]; simp only [Bool.false_or, Bool.true_or, Bool.or_false], rfl⟩
      case rest =>
      obtain ⟨rfl, rfl⟩ := hcut
      have HOut2 : Hid (ob = true → inn = -1) := Lib.hid (fun h => by
        rw [← HOb.out] at h
        simp only [Bool.or_eq_true, decide_eq_true_eq] at h
        have := HOut.out (by omega)
        exact (Prod.mk.inj this).1)
      have hQa : Qa = ((isum ls : Int) : Rat) := by rw [← HQ.out.1]; simp
      have hQb : Qb = ((isum ls * 2 ^ (2 * kk) : Int) : Rat) := by rw [← HQ.out.2, ← Int.pow_add, show kk + kk = 2 * kk by omega]
      have sa : -8796093022208 * 16384 ≤ isum ls * 2 ^ (2 * kk) ∧ isum ls * 2 ^ (2 * kk) ≤ 8796093022208 * 16384 := by
        have hi := HI.out
        have hk := HFr.out.k
        have p1 := ipow_le (show 2 * kk ≤ 14 by omega)
        have p0 := ipow_pos (2 * kk)
        have e14 : (2 : Int) ^ 14 = 16384 := by decide
        rw [e14] at p1
        have := abs_le_mul (M := 8796093022208) (N := 16384) (x := isum ls) (y := 2 ^ (2 * kk)) hi.1 hi.2 (by omega) p1
        omega
      obtain ⟨m2, hm2⟩ : ∃ m2 : Nat, m2 = 2 * kk := ⟨_, rfl⟩
      have le14 : 2 * kk ≤ 14 := by have := HFr.out.k; omega
      have hk2 : wrap64 (2 * (kk : Int)) = (m2 : Int) := by clear HFw HBw HOut HI HQ HM HL HA1 HA2 HO1 HO2 HV1 HV2 HS1 HS2 HBx HC1 HC2 HC3 HC4 HOut2 HFr; unfold wrap64; omega
      have esh : wrap64 (isum ls * 2 ^ min m2 64) = isum ls * 2 ^ (2 * kk) := by
        rw [Nat.min_eq_left (by omega), hm2]
        generalize isum ls * 2 ^ (2 * kk) = z at *
        clear HFw HBw HOut HI HQ HM HFr HL HA1 HA2 HO1 HO2 HV1 HV2 HS1 HS2 HBx HC1 HC2 HC3 HC4 HOut2
        unfold wrap64
        omega
      have HIa : Hid (∀ wz : World, Calls Tryz.prog 35 #[.int .i64 (isum ls)] wz fun e w' => ∃ E F, e = .returned (.agg #[.bool (decide (Qa.num < 0)), .slice E (qn Qa).length (qn Qa).length, .slice F (qd Qa).length (qd Qa).length]) ∧ RatFresh wz.heap.size w' E F Qa ∧ Below wz.heap.size wz w') := Lib.hid (fun wz => by
        have h := rIntA (isum ls) wz (by have := HI.out; omega) (by have := HI.out; omega)
        rw [← hQa] at h
        unfold qv at h
        exact h)
      have HIb : Hid (∀ wz : World, Calls Tryz.prog 35 #[.int .i64 (wrap64 (isum ls * 2 ^ min m2 64))] wz fun e w' => ∃ E F, e = .returned (.agg #[.bool (decide (Qb.num < 0)), .slice E (qn Qb).length (qn Qb).length, .slice F (qd Qb).length (qd Qb).length]) ∧ RatFresh wz.heap.size w' E F Qb ∧ Below wz.heap.size wz w') := Lib.hid (fun wz => by
        rw [esh]
        have h := rIntA (isum ls * 2 ^ (2 * kk)) wz (by omega) (by omega)
        rw [← hQb] at h
        unfold qv at h
        exact h)
      have e62 : (2 : Int) ^ 62 = 4611686018427387904 := by decide
      have hi0 := HI.out
      have ila : (qn Qa).length ≤ 4096 ∧ (qd Qa).length ≤ 4096 := by rw [hQa]; exact (sz_int (n := 62) (by rw [e62]; omega)).lens (by omega)
      have ilb : (qn Qb).length ≤ 4096 ∧ (qd Qb).length ≤ 4096 := by rw [hQb]; exact (sz_int (n := 62) (by rw [e62]; omega)).lens (by omega)
      have HSa : Hid (∀ (wz : World) (E F : Option Addr), RatIn 0 wz.heap.size wz E70 F70 Qa → RatIn 0 wz.heap.size wz E F Qa → Calls Tryz.prog 23 #[.agg #[.bool (decide (Qa.num < 0)), .slice E70 (qn Qa).length (qn Qa).length, .slice F70 (qd Qa).length (qd Qa).length], .agg #[.bool (decide (Qa.num < 0)), .slice E (qn Qa).length (qn Qa).length, .slice F (qd Qa).length (qd Qa).length]] wz fun e w' => e = .returned (.bool true) ∧ Below wz.heap.size wz w') := Lib.hid (fun wz E F h1 h2 => by
        have h := lSameRat E70 F70 E F 0 wz.heap.size 0 wz.heap.size Qa wz h1 h2 (Nat.le_refl _) (Nat.le_refl _) ila
        unfold qv at h
        exact h)
      have HSb : Hid (∀ (wz : World) (E F : Option Addr), RatIn 0 wz.heap.size wz E72 F72 Qb → RatIn 0 wz.heap.size wz E F Qb → Calls Tryz.prog 23 #[.agg #[.bool (decide (Qb.num < 0)), .slice E72 (qn Qb).length (qn Qb).length, .slice F72 (qd Qb).length (qd Qb).length], .agg #[.bool (decide (Qb.num < 0)), .slice E (qn Qb).length (qn Qb).length, .slice F (qd Qb).length (qd Qb).length]] wz fun e w' => e = .returned (.bool true) ∧ Below wz.heap.size wz w') := Lib.hid (fun wz E F h1 h2 => by
        have h := lSameRat E72 F72 E F 0 wz.heap.size 0 wz.heap.size Qb wz h1 h2 (Nat.le_refl _) (Nat.le_refl _) ilb
        unfold qv at h
        exact h)
      clear sa hQa hQb ila ilb esh le14 hm2 e62 hi0 HFw HA1 HA2 HO1 HO2 HV1 HV2 HS1 HS2 HBx HC1 HC2 HC3 HC4 HOut HI HQ HOb HFr HL
      go_upto_region 28 with (fail)
      cases ob
      · as_aux_lemma =>
          refine start_ (n := 22) (S := fun w' => Below wc.heap.size wc w') (ds := []) (bt 22 0) (by kernel_rfl) rfl rfl ((Below.refl _ _).drew) (fun hHeld => ?_)
          refine ld_ 0 223 ?_ hHeld ?_ ?_; rotate_left
          · rintro w' hs
            obtain ⟨c0, c1, c2, _, _, _⟩ := rw3 ((hs.block _ (HM.out.lt 0 rfl)).trans (HM.out.at 0 rfl))
            obtain ⟨d0, d1, d2, _, _, _⟩ := rw3 ((hs.block _ (HM.out.lt 1 rfl)).trans (HM.out.at 1 rfl))
            clear hs
            go_simp; with_reducible rfl
          refine pv_ 1 224 ?_
          refine ca_ 2 225 Tryz.func35 #[.int .i64 (isum ls)] ?_
          with_reducible refine (HIa.out _).mono ?_
          rintro e w' ⟨E5, F5, rfl, hf5, hb⟩
          refine ⟨_, rfl, (by exact hHeld.trans (hb.mono hHeld.size)), fun hHeld => ?_⟩
          refine nn ?_
          refine ca_ 3 226 Tryz.func23 #[.agg #[.bool (decide (Qa.num < 0)), .slice E70 (qn Qa).length (qn Qa).length, .slice F70 (qd Qa).length (qd Qa).length], .agg #[.bool (decide (Qa.num < 0)), .slice E5 (qn Qa).length (qn Qa).length, .slice F5 (qd Qa).length (qd Qa).length]] ?_
          with_reducible refine (HSa.out _ E5 F5 ((HM.out.keep hHeld).ins 0 rfl) (hf5.ins.wide (Nat.zero_le _) (Nat.le_refl _))).mono ?_
          rintro e w' ⟨rfl, hb⟩
          refine ⟨_, rfl, (by exact hHeld.trans (hb.mono hHeld.size)), fun hHeld => ?_⟩
          refine nn ?_
          refine pv_ 4 227 ?_
          refine ld_ 5 228 ?_ hHeld ?_ ?_; rotate_left
          · rintro w' hs
            obtain ⟨c0, c1, c2, _, _, _⟩ := rw3 ((hs.block _ (HM.out.lt 0 rfl)).trans (HM.out.at 0 rfl))
            obtain ⟨d0, d1, d2, _, _, _⟩ := rw3 ((hs.block _ (HM.out.lt 1 rfl)).trans (HM.out.at 1 rfl))
            clear hs
            go_simp; with_reducible rfl
          refine pv_ 6 229 ?_
          refine pv_ 7 230 ?_
          refine pv_ 8 231 ?_
          refine pv_ 9 232 ?_
          refine ca_ 10 233 Tryz.func35 #[.int .i64 (wrap64 (isum ls * 2 ^ min m2 64))] ?_
          with_reducible refine (HIb.out _).mono ?_
          rintro e w' ⟨E6, F6, rfl, hf6, hb⟩
          refine ⟨_, rfl, (by exact hHeld.trans (hb.mono hHeld.size)), fun hHeld => ?_⟩
          refine nn ?_
          refine ca_ 11 234 Tryz.func23 #[.agg #[.bool (decide (Qb.num < 0)), .slice E72 (qn Qb).length (qn Qb).length, .slice F72 (qd Qb).length (qd Qb).length], .agg #[.bool (decide (Qb.num < 0)), .slice E6 (qn Qb).length (qn Qb).length, .slice F6 (qd Qb).length (qd Qb).length]] ?_
          with_reducible refine (HSb.out _ E6 F6 ((HM.out.keep hHeld).ins 1 rfl) (hf6.ins.wide (Nat.zero_le _) (Nat.le_refl _))).mono ?_
          rintro e w' ⟨rfl, hb⟩
          refine ⟨_, rfl, (by exact hHeld.trans (hb.mono hHeld.size)), fun hHeld => ?_⟩
          refine nn ?_
          refine pv_ 12 235 ?_
          refine pv_ 13 236 ?_
          refine pv_ 14 237 ?_
          refine pv_ 15 238 ?_
          refine pv_ 16 239 ?_
          refine of 17 240 ?_ rfl rfl (by kernel_rfl) (fun _ _ _ h => h) (by first | rfl | (simp [Region.wanted, yielded]; done) | (go_simp; done)) ?_ ?_; rotate_left
          · simp only [pA, pB, pC, pD, i64_w, i32_w]; rfl
          refine of 18 241 ?_ rfl rfl (by kernel_rfl) (fun _ _ _ h => h) (by first | rfl | (simp [Region.wanted, yielded]; done) | (go_simp; done)) ?_ ?_; rotate_left
          · simp only [pA, pB, pC, pD, i64_w, i32_w]; rfl
          refine pv_ 19 242 ?_
          refine pv_ 20 243 ?_
          refine pv_ 21 6 ?_
          refine done_ (by kernel_rfl) ?_
          have HZ := Lib.hid (HBw.out.trans ((HM.out.m.b.trans (hHeld.mono HM.out.m.b.size)).mono HBw.out.size))
          clear hHeld
          ((try dsimp only); repeat (first | go_values | go_skip | go_guarded | go_step | go_upon))
          go_ret
          exact ⟨rfl, HZ.out⟩
      · as_aux_lemma =>
          obtain rfl := HOut2.out rfl
          refine start_ (n := 22) (S := fun w' => Below wc.heap.size wc w') (ds := []) (bt 22 0) (by kernel_rfl) rfl rfl ((Below.refl _ _).drew) (fun hHeld => ?_)
          refine ld_ 0 223 ?_ hHeld ?_ ?_; rotate_left
          · rintro w' hs
            obtain ⟨c0, c1, c2, _, _, _⟩ := rw3 ((hs.block _ (HM.out.lt 0 rfl)).trans (HM.out.at 0 rfl))
            obtain ⟨d0, d1, d2, _, _, _⟩ := rw3 ((hs.block _ (HM.out.lt 1 rfl)).trans (HM.out.at 1 rfl))
            clear hs
            go_simp; with_reducible rfl
          refine pv_ 1 224 ?_
          refine ca_ 2 225 Tryz.func35 #[.int .i64 (isum ls)] ?_
          with_reducible refine (HIa.out _).mono ?_
          rintro e w' ⟨E5, F5, rfl, hf5, hb⟩
          refine ⟨_, rfl, (by exact hHeld.trans (hb.mono hHeld.size)), fun hHeld => ?_⟩
          refine nn ?_
          refine ca_ 3 226 Tryz.func23 #[.agg #[.bool (decide (Qa.num < 0)), .slice E70 (qn Qa).length (qn Qa).length, .slice F70 (qd Qa).length (qd Qa).length], .agg #[.bool (decide (Qa.num < 0)), .slice E5 (qn Qa).length (qn Qa).length, .slice F5 (qd Qa).length (qd Qa).length]] ?_
          with_reducible refine (HSa.out _ E5 F5 ((HM.out.keep hHeld).ins 0 rfl) (hf5.ins.wide (Nat.zero_le _) (Nat.le_refl _))).mono ?_
          rintro e w' ⟨rfl, hb⟩
          refine ⟨_, rfl, (by exact hHeld.trans (hb.mono hHeld.size)), fun hHeld => ?_⟩
          refine nn ?_
          refine pv_ 4 227 ?_
          refine ld_ 5 228 ?_ hHeld ?_ ?_; rotate_left
          · rintro w' hs
            obtain ⟨c0, c1, c2, _, _, _⟩ := rw3 ((hs.block _ (HM.out.lt 0 rfl)).trans (HM.out.at 0 rfl))
            obtain ⟨d0, d1, d2, _, _, _⟩ := rw3 ((hs.block _ (HM.out.lt 1 rfl)).trans (HM.out.at 1 rfl))
            clear hs
            go_simp; with_reducible rfl
          refine pv_ 6 229 ?_
          refine pv_ 7 230 ?_
          refine pv_ 8 231 ?_
          refine pv_ 9 232 ?_
          refine ca_ 10 233 Tryz.func35 #[.int .i64 (wrap64 (isum ls * 2 ^ min m2 64))] ?_
          with_reducible refine (HIb.out _).mono ?_
          rintro e w' ⟨E6, F6, rfl, hf6, hb⟩
          refine ⟨_, rfl, (by exact hHeld.trans (hb.mono hHeld.size)), fun hHeld => ?_⟩
          refine nn ?_
          refine ca_ 11 234 Tryz.func23 #[.agg #[.bool (decide (Qb.num < 0)), .slice E72 (qn Qb).length (qn Qb).length, .slice F72 (qd Qb).length (qd Qb).length], .agg #[.bool (decide (Qb.num < 0)), .slice E6 (qn Qb).length (qn Qb).length, .slice F6 (qd Qb).length (qd Qb).length]] ?_
          with_reducible refine (HSb.out _ E6 F6 ((HM.out.keep hHeld).ins 1 rfl) (hf6.ins.wide (Nat.zero_le _) (Nat.le_refl _))).mono ?_
          rintro e w' ⟨rfl, hb⟩
          refine ⟨_, rfl, (by exact hHeld.trans (hb.mono hHeld.size)), fun hHeld => ?_⟩
          refine nn ?_
          refine pv_ 12 235 ?_
          refine pv_ 13 236 ?_
          refine pv_ 14 237 ?_
          refine pv_ 15 238 ?_
          refine pv_ 16 239 ?_
          refine pv_ 17 240 ?_
          refine pv_ 18 241 ?_
          refine pv_ 19 242 ?_
          refine pv_ 20 243 ?_
          refine pv_ 21 6 ?_
          refine done_ (by kernel_rfl) ?_
          have HZ := Lib.hid (HBw.out.trans ((HM.out.m.b.trans (hHeld.mono HM.out.m.b.size)).mono HBw.out.size))
          clear hHeld
          ((try dsimp only); repeat (first | go_values | go_skip | go_guarded | go_step | go_upon))
          go_ret
          exact ⟨rfl, HZ.out⟩
set_option maxRecDepth 100000 in
theorem lMoved (A : Option Addr) (c : Nat) (ls : List Pt) (p : Pt) (f1 f2 f3 : Int) (w : World) (hp : IpsIn w A ls) (hl : ls.length ≤ 4611686018427387903) (hu : ∀ q ∈ ls, I64 q.1 ∧ I64 q.2) (hup : I64 p.1 ∧ I64 p.2) (hf : I64 f1 ∧ I64 f2 ∧ I64 f3) :
    Calls Tryz.prog 6 #[.slice A ls.length c, .agg #[.int .i64 p.1, .int .i64 p.2], .agg #[.int .i64 f1, .int .i64 f2, .int .i64 f3]] w fun e w' => e = .returned (.bool true) ∧ Below w.heap.size w w' := by
  by_cases h : ls.length = 0 ∨ 511 < ls.length
  · exact lMovedNo A c ls p f1 f2 f3 w hp hl h
  · exact lMovedYes A c ls p f1 f2 f3 w hp (by omega) (by omega) hu hup hf
end Go.Proofs.YtfpofmifmapmfaaGreatDoor

namespace Go.Proofs.YtfpofmifmapmfaaGreatDoor
open Go Go.ChangeShapes Go.WideShapes Go.ChangeAt Go.RowKit
set_option linter.unusedVariables false
set_option linter.unusedSimpArgs false
set_option maxRecDepth 100000
theorem row_own : ownKnob Tryz.prog.godebug = none := by kernel_rfl
theorem row_laidOut : laidOutB Tryz.prog = true := by kernel_rfl
theorem door_met (os : Os) (args : Array Value) : laidMetH Tryz.prog [("plumb/near.stays", Rows.laid_plumb_near_stays)] ((World.doorLaid Tryz.prog 400 os).forCall (fun _ _ => 0) ⟨#[], args, []⟩).memory :=
  laidMetH_of_parts3 (fuel := 8) (laidMet_of_run' 8 (by kernel_rfl) (by kernel_rfl)) (by kernel_rfl) (by kernel_rfl)
section
variable {H : Type} {enc : TypeId × Value → H} {w : World} {base : Nat} {spare : Nat → Bool} {held : Bool} {fuel : Nat}
theorem open_word {cs : List Value} {x : DataW H × List MemPlace} (h : DataW.trod enc Tryz.prog w base spare held fuel 36 cs = some x) : ∃ n, cs = [.int .u64 n] ∧ U64 n := by
  obtain ⟨n, h1, h2, h3⟩ := DataW.trod_int Tryz.underlying36 h
  refine ⟨n, h1, ?_⟩
  unfold Lit.wf at h3
  simp only [Bool.and_eq_true, decide_eq_true_eq] at h3
  exact h3
theorem open_point {cs : List Value} {x : DataW H × List MemPlace} (h : DataW.trod enc Tryz.prog w base spare held fuel 38 cs = some x) : ∃ p : Pt, cs = [.int .u64 p.1, .int .u64 p.2] ∧ PtU p := by
  obtain ⟨xs, n, _, _, hl, hx, hf⟩ := DataW.trod_struct Tryz.underlying38 h
  have c1 : Tryz.prog.cellsOf 38 = 2 := by kernel_rfl
  have c2 : Tryz.prog.cellsOf 36 = 1 := by kernel_rfl
  rw [c1] at hl
  match cs, hl with
  | [u, v], _ =>
    match xs, hx with
    | [y0, y1], _ =>
      have h0 : DataW.trod enc Tryz.prog w base spare held n 36 (List.take (Tryz.prog.cellsOf 36) (List.drop 0 [u, v])) = some y0 := hf 0 _ rfl
      have h1 : DataW.trod enc Tryz.prog w base spare held n 36 (List.take (Tryz.prog.cellsOf 36) (List.drop 1 [u, v])) = some y1 := hf 1 _ rfl
      rw [c2] at h0 h1
      obtain ⟨a, ha, ua⟩ := open_word (show DataW.trod enc Tryz.prog w base spare held n 36 [u] = some y0 from h0)
      obtain ⟨b, hb, ub⟩ := open_word (show DataW.trod enc Tryz.prog w base spare held n 36 [v] = some y1 from h1)
      cases ha
      cases hb
      exact ⟨(a, b), rfl, ua, ub⟩
theorem open_int {cs : List Value} {x : DataW H × List MemPlace} (h : DataW.trod enc Tryz.prog w base spare held fuel 3 cs = some x) : ∃ n : Int, cs = [.int .i64 n] ∧ -9223372036854775808 ≤ n ∧ n ≤ 9223372036854775807 := by
  obtain ⟨n, h1, h2, h3⟩ := DataW.trod_int Tryz.underlying3 h
  refine ⟨n, h1, ?_⟩
  unfold Lit.wf at h3
  simp only [Bool.and_eq_true, decide_eq_true_eq] at h3
  exact h3
theorem open_ptv {r : Reach} {b0 : Nat} {v : Value} {d : DataW H} {p : List MemPlace} (hv : Value.okWide Tryz.prog w r b0 38 v) (h : DataW.Trod enc Tryz.prog w base spare held 38 v d p) :
    ∃ a : Pt, v = .agg #[.int .u64 a.1, .int .u64 a.2] ∧ PtU a := by
  obtain ⟨cs, rfl, hsz⟩ := okWide_struct Tryz.underlying38 hv
  obtain ⟨l⟩ := cs
  have c1 : Tryz.prog.cellsOf 38 = 2 := by kernel_rfl
  obtain ⟨fuel, hf⟩ := h
  rw [c1] at hsz
  match l, hsz with
  | [v0, v1], _ =>
    obtain ⟨a, ha, ua⟩ := open_point (show DataW.trod enc Tryz.prog w base spare held fuel 38 [v0, v1] = some (d, p) from hf)
    cases ha
    exact ⟨a, rfl, ua⟩
theorem open_pts {r : Reach} {b0 : Nat} {v : Value} {d : DataW H} {p : List MemPlace} (hv : Value.okWide Tryz.prog w r b0 22 v) (h : DataW.Trod enc Tryz.prog w base spare held 22 v d p) :
    ∃ (A : Option Addr) (c : Nat) (qs : List Pt), v = .slice A qs.length c ∧ PtsIn w A qs ∧ qs.length ≤ 9223372036854775807 ∧ (∀ p ∈ qs, PtU p) ∧ (qs.length = 0 ∨ ∃ es sp, d = .slice es sp ∧ es.length = qs.length) := by
  obtain ⟨A, len, cap, rfl⟩ := okWide_slice Tryz.underlying22 hv
  have c2 : Tryz.prog.cellsOf 38 = 2 := by kernel_rfl
  obtain ⟨fuel, hf⟩ := h
  rcases Deep.open_slice Tryz.underlying22 (show DataW.trod enc Tryz.prog w base spare held fuel 22 [.slice A len cap] = some (d, p) from hf) with ⟨e, _⟩ | ⟨a, len', cap', m, n, D, Pl, e, hb, hl, hm, hmm, hxe, hx⟩
  · cases e
    exact ⟨none, 0, [], rfl, Or.inl rfl, by decide, (fun p hp => by cases hp), Or.inl rfl⟩
  · cases e
    have hlm : len ≤ m := by rw [hmm]; split <;> omega
    have hpt : ∀ i, i < len → ∃ q : Pt, w.cells? base (a.add (i * 2)) 2 = some [.int .u64 q.1, .int .u64 q.2] ∧ PtU q := by
      intro i hi
      obtain ⟨cs', h1, h2⟩ := hx i (by omega)
      rw [c2] at h1
      obtain ⟨q, rfl, hq⟩ := open_point h2
      exact ⟨q, h1, hq⟩
    obtain ⟨f, hf⟩ := Deep.choose_lt hpt
    have hlen : ((List.range len).map f).length = len := by simp
    have hget : ∀ i, i < len → ((List.range len).map f).getD i (0, 0) = f i := by
      intro i hi
      rw [List.getD_eq_getElem?_getD]
      simp [hi]
    refine ⟨some a, cap, (List.range len).map f, by rw [hlen], ?_, ?_, ?_, Or.inr ⟨_, _, (Prod.mk.inj hxe).1, by simp⟩⟩
    · by_cases h0 : len = 0
      · left; exact List.eq_nil_of_length_eq_zero (by rw [hlen, h0])
      · right
        have h1 := (World.cells?_some (hf 0 (by omega)).1).2.2 0 (by decide)
        have ha : a.add (0 * 2) = a := by simp [Addr.add]
        rw [ha] at h1
        have ha0 : a.add 0 = a := by simp [Addr.add]
        rw [ha0] at h1
        obtain ⟨b, o, s⟩ := a
        cases s with
        | some s =>
          exfalso
          simp only [World.cell?] at h1
          split at h1
          · simp at h1
          · cases h1
        | none =>
          refine ⟨b, o, rfl, ?_, fun i hi => ?_⟩
          · have hh : w.cell? ⟨b, o, none⟩ ≠ none := by rw [h1]; simp
            refine Nat.lt_of_not_le fun hge => hh ?_
            simp only [World.cell?]
            rw [Array.getElem?_eq_none hge]
          · rw [hlen] at hi
            have k := (World.cells?_some (hf i hi).1).2.2
            have k0 := k 0 (by decide)
            have k1 := k 1 (by decide)
            rw [Deep.add_add] at k0 k1
            have e : ∀ j, (⟨b, o, none⟩ : Addr).add j = ⟨b, o + j, none⟩ := by
              intro j
              unfold Addr.add
              split
              · rename_i h; simp [h]
              · rfl
            rw [e] at k0 k1
            rw [hget i hi]
            exact ⟨k0, by rw [Nat.add_assoc]; exact k1⟩
    · rw [hlen]
      unfold maxLen at hm
      omega
    · intro q hq
      obtain ⟨i, hi, rfl⟩ := List.mem_map.1 hq
      exact (hf i (List.mem_range.1 hi)).2
theorem pts_len {ts : List TypeId} {ds : List (DataW H)} (h : (DataW.weightsEach Tryz.prog ts ds).all (· ≤ reachBytes) = true) {j : Nat} {d : DataW H} {qs : List Pt} (ht : ts[j]? = some 22) (hd : ds[j]? = some d)
    (hs : qs.length = 0 ∨ ∃ es sp, d = .slice es sp ∧ es.length = qs.length) : qs.length ≤ 8796093022208 := by
  rcases hs with e | ⟨es, sp, rfl, e⟩
  · omega
  · have := sized_slice h ht hd Tryz.underlying22
    have hb : Tryz.prog.bytesOf 38 = 16 := by kernel_rfl
    rw [hb] at this
    simp only [reachBytes] at this
    omega
end
theorem post_true {H : Type} {enc : TypeId × Value → H} {f : Func} {s : ChangeSpec} {apart fresh handsOn : Bool} {W W' : World} {args : Array Value} {ds : List (DataW H)} {before : List MemPlace}
    (hv : s.vars = []) (hs : s.fn H ds = { results := [.lit (.bool true)], args := ds }) (hr : f.resultTypes = #[4])
    (hW : DataW.Whole enc Tryz.prog f.params.toList s.vars apart W args.toList ds [] before) (hb : Below W.heap.size W W')
    (hst : ∀ sp : Nat → Bool, (∀ p ∈ before, sp p.block = true) → DataW.TrodAll enc Tryz.prog W' 0 sp true f.params.toList args.toList ds before) :
    s.post enc Tryz.prog f apart fresh handsOn false W args (.bool true) W' := by
  have below : ∀ p ∈ before, p.block < W.heap.size := fun p hp => hW.lt p hp
  have kept := hb.frame (· ∈ before)
  have fn0 : s.fn H (ds ++ []) = { results := [.lit (.bool true)], args := ds } := by rw [List.append_nil]; exact hs
  have res : ∀ (b : Nat) (sp : Nat → Bool) (hd : Bool), DataW.TrodAll enc Tryz.prog W' b sp hd f.resultTypes.toList ((Value.bool true).resultList f.resultTypes.size) (s.fn H (ds ++ [])).results [] := by
    intro b sp hd
    rw [fn0, hr]
    exact trodAll_mk1 (shut_bool Tryz.underlying4 _)
  have arg : ∀ sp : Nat → Bool, (∀ p ∈ before, sp p.block = true) → DataW.TrodAll enc Tryz.prog W' 0 sp true f.params.toList args.toList (s.fn H (ds ++ [])).args before := by
    intro sp h
    rw [fn0]
    exact hst sp h
  have vars : ∀ sp : Nat → Bool, DataW.TrodVars enc Tryz.prog W' sp s.vars (s.fn H (ds ++ [])).vars [] := by
    intro sp
    rw [fn0, hv]
    trivial
  refine ⟨ds, [], before, [], before, [], hW, res _ _ _, arg _ (fun p hp => by simpa using below p hp), vars _, World.keptBut_mono (fun p hp => ⟨hp, Or.inr (Or.inl hp)⟩) kept, fun h => by cases h⟩
end Go.Proofs.YtfpofmifmapmfaaGreatDoor

namespace Go.Proofs.YtfpofmifmapmfaaGreatDoor
open Go Go.ChangeShapes Go.WideShapes Go.ChangeAt Go.RowKit
set_option linter.unusedVariables false
set_option linter.unusedSimpArgs false
set_option maxRecDepth 100000
theorem okWide_array2 {P : Program} {w : World} {r : Reach} {base : Nat} {t e : TypeId} {n : Nat} {v : Value} (ht : P.underlying t = some (.array n e)) (h : Value.okWide P w r base t v) : ∃ cs, v = .agg cs ∧ cs.size = P.cellsOf t := by
  simp only [Value.okWide, ht] at h
  obtain ⟨cs, h1, h2, _⟩ := h
  exact ⟨cs, h1, h2⟩
section
variable {H : Type} {enc : TypeId × Value → H} {w : World} {base : Nat} {spare : Nat → Bool} {held : Bool} {fuel : Nat}
theorem open_two {cs : List Value} {x : DataW H × List MemPlace} (h : DataW.trod enc Tryz.prog w base spare held fuel 59 cs = some x) : ∃ p : Pt, cs = [.int .i64 p.1, .int .i64 p.2] ∧ I64 p.1 ∧ I64 p.2 := by
  obtain ⟨xs, n, _, _, hl, hx, hf⟩ := DataW.trod_array Tryz.underlying59 h
  have c1 : Tryz.prog.cellsOf 59 = 2 := by kernel_rfl
  have c2 : Tryz.prog.cellsOf 3 = 1 := by kernel_rfl
  rw [c1] at hl
  match cs, hl with
  | [u, v], _ =>
    match xs, hx with
    | [y0, y1], _ =>
      have h0 := hf 0 (by decide)
      have h1 := hf 1 (by decide)
      rw [c2] at h0 h1
      obtain ⟨a, ha, ua⟩ := open_int (show DataW.trod enc Tryz.prog w base spare held n 3 [u] = some y0 from h0)
      obtain ⟨b, hb, ub⟩ := open_int (show DataW.trod enc Tryz.prog w base spare held n 3 [v] = some y1 from h1)
      cases ha
      cases hb
      exact ⟨(a, b), rfl, ua, ub⟩
theorem open_twov {r : Reach} {b0 : Nat} {v : Value} {d : DataW H} {p : List MemPlace} (hv : Value.okWide Tryz.prog w r b0 59 v) (h : DataW.Trod enc Tryz.prog w base spare held 59 v d p) :
    ∃ a : Pt, v = .agg #[.int .i64 a.1, .int .i64 a.2] ∧ I64 a.1 ∧ I64 a.2 := by
  obtain ⟨cs, rfl, hsz⟩ := okWide_array2 Tryz.underlying59 hv
  obtain ⟨l⟩ := cs
  have c1 : Tryz.prog.cellsOf 59 = 2 := by kernel_rfl
  obtain ⟨fuel, hf⟩ := h
  rw [c1] at hsz
  match l, hsz with
  | [v0, v1], _ =>
    obtain ⟨a, ha, ua⟩ := open_two (show DataW.trod enc Tryz.prog w base spare held fuel 59 [v0, v1] = some (d, p) from hf)
    cases ha
    exact ⟨a, rfl, ua⟩
theorem open_frame {r : Reach} {b0 : Nat} {v : Value} {d : DataW H} {p : List MemPlace} (hv : Value.okWide Tryz.prog w r b0 61 v) (h : DataW.Trod enc Tryz.prog w base spare held 61 v d p) :
    ∃ f1 f2 f3 : Int, v = .agg #[.int .i64 f1, .int .i64 f2, .int .i64 f3] ∧ I64 f1 ∧ I64 f2 ∧ I64 f3 := by
  obtain ⟨cs, rfl, hsz⟩ := okWide_struct Tryz.underlying61 hv
  obtain ⟨l⟩ := cs
  have c0 : Tryz.prog.cellsOf 61 = 3 := by kernel_rfl
  have c1 : Tryz.prog.cellsOf 3 = 1 := by kernel_rfl
  obtain ⟨fuel, hf⟩ := h
  obtain ⟨xs, n, _, _, hl, hx, hg⟩ := DataW.trod_struct Tryz.underlying61 hf
  rw [c0] at hsz
  match l, hsz with
  | [v0, v1, v2], _ =>
    match xs, hx with
    | [y0, y1, y2], _ =>
      have h0 : DataW.trod enc Tryz.prog w base spare held n 3 (List.take (Tryz.prog.cellsOf 3) (List.drop 0 [v0, v1, v2])) = some y0 := hg 0 _ rfl
      have h1 : DataW.trod enc Tryz.prog w base spare held n 3 (List.take (Tryz.prog.cellsOf 3) (List.drop 1 [v0, v1, v2])) = some y1 := hg 1 _ rfl
      have h2 : DataW.trod enc Tryz.prog w base spare held n 3 (List.take (Tryz.prog.cellsOf 3) (List.drop 2 [v0, v1, v2])) = some y2 := hg 2 _ rfl
      rw [c1] at h0 h1 h2
      obtain ⟨a, ha, ua⟩ := open_int (show DataW.trod enc Tryz.prog w base spare held n 3 [v0] = some y0 from h0)
      obtain ⟨b, hb, ub⟩ := open_int (show DataW.trod enc Tryz.prog w base spare held n 3 [v1] = some y1 from h1)
      obtain ⟨c, hc, uc⟩ := open_int (show DataW.trod enc Tryz.prog w base spare held n 3 [v2] = some y2 from h2)
      cases ha
      cases hb
      cases hc
      exact ⟨a, b, c, rfl, ua, ub, uc⟩
theorem open_ips {r : Reach} {b0 : Nat} {v : Value} {d : DataW H} {p : List MemPlace} (hv : Value.okWide Tryz.prog w r b0 58 v) (h : DataW.Trod enc Tryz.prog w base spare held 58 v d p) :
    ∃ (A : Option Addr) (c : Nat) (qs : List Pt), v = .slice A qs.length c ∧ IpsIn w A qs ∧ qs.length ≤ 9223372036854775807 ∧ (∀ p ∈ qs, (I64 p.1 ∧ I64 p.2)) ∧ (qs.length = 0 ∨ ∃ es sp, d = .slice es sp ∧ es.length = qs.length) := by
  obtain ⟨A, len, cap, rfl⟩ := okWide_slice Tryz.underlying58 hv
  have c2 : Tryz.prog.cellsOf 59 = 2 := by kernel_rfl
  obtain ⟨fuel, hf⟩ := h
  rcases Deep.open_slice Tryz.underlying58 (show DataW.trod enc Tryz.prog w base spare held fuel 58 [.slice A len cap] = some (d, p) from hf) with ⟨e, _⟩ | ⟨a, len', cap', m, n, D, Pl, e, hb, hl, hm, hmm, hxe, hx⟩
  · cases e
    exact ⟨none, 0, [], rfl, Or.inl rfl, by decide, (fun p hp => by cases hp), Or.inl rfl⟩
  · cases e
    have hlm : len ≤ m := by rw [hmm]; split <;> omega
    have hpt : ∀ i, i < len → ∃ q : Pt, w.cells? base (a.add (i * 2)) 2 = some [.int .i64 q.1, .int .i64 q.2] ∧ (I64 q.1 ∧ I64 q.2) := by
      intro i hi
      obtain ⟨cs', h1, h2⟩ := hx i (by omega)
      rw [c2] at h1
      obtain ⟨q, rfl, hq⟩ := open_two h2
      exact ⟨q, h1, hq⟩
    obtain ⟨f, hf⟩ := Deep.choose_lt hpt
    have hlen : ((List.range len).map f).length = len := by simp
    have hget : ∀ i, i < len → ((List.range len).map f).getD i (0, 0) = f i := by
      intro i hi
      rw [List.getD_eq_getElem?_getD]
      simp [hi]
    refine ⟨some a, cap, (List.range len).map f, by rw [hlen], ?_, ?_, ?_, Or.inr ⟨_, _, (Prod.mk.inj hxe).1, by simp⟩⟩
    · by_cases h0 : len = 0
      · left; exact List.eq_nil_of_length_eq_zero (by rw [hlen, h0])
      · right
        have h1 := (World.cells?_some (hf 0 (by omega)).1).2.2 0 (by decide)
        have ha : a.add (0 * 2) = a := by simp [Addr.add]
        rw [ha] at h1
        have ha0 : a.add 0 = a := by simp [Addr.add]
        rw [ha0] at h1
        obtain ⟨b, o, s⟩ := a
        cases s with
        | some s =>
          exfalso
          simp only [World.cell?] at h1
          split at h1
          · simp at h1
          · cases h1
        | none =>
          refine ⟨b, o, rfl, ?_, fun i hi => ?_⟩
          · have hh : w.cell? ⟨b, o, none⟩ ≠ none := by rw [h1]; simp
            refine Nat.lt_of_not_le fun hge => hh ?_
            simp only [World.cell?]
            rw [Array.getElem?_eq_none hge]
          · rw [hlen] at hi
            have k := (World.cells?_some (hf i hi).1).2.2
            have k0 := k 0 (by decide)
            have k1 := k 1 (by decide)
            rw [Deep.add_add] at k0 k1
            have e : ∀ j, (⟨b, o, none⟩ : Addr).add j = ⟨b, o + j, none⟩ := by
              intro j
              unfold Addr.add
              split
              · rename_i h; simp [h]
              · rfl
            rw [e] at k0 k1
            rw [hget i hi]
            exact ⟨k0, by rw [Nat.add_assoc]; exact k1⟩
    · rw [hlen]
      unfold maxLen at hm
      omega
    · intro q hq
      obtain ⟨i, hi, rfl⟩ := List.mem_map.1 hq
      exact (hf i (List.mem_range.1 hi)).2
theorem ips_len {ts : List TypeId} {ds : List (DataW H)} (h : (DataW.weightsEach Tryz.prog ts ds).all (· ≤ reachBytes) = true) {j : Nat} {d : DataW H} {qs : List Pt} (ht : ts[j]? = some 58) (hd : ds[j]? = some d)
    (hs : qs.length = 0 ∨ ∃ es sp, d = .slice es sp ∧ es.length = qs.length) : qs.length ≤ 8796093022208 := by
  rcases hs with e | ⟨es, sp, rfl, e⟩
  · omega
  · have := sized_slice h ht hd Tryz.underlying58
    have hb : Tryz.prog.bytesOf 59 = 16 := by kernel_rfl
    rw [hb] at this
    simp only [reachBytes] at this
    omega
end
end Go.Proofs.YtfpofmifmapmfaaGreatDoor

namespace Go.Proofs.YtfpofmifmapmfaaGreatDoor
open Go Go.ChangeShapes Go.WideShapes Go.ChangeAt Go.RowKit
set_option linter.unusedVariables false
set_option linter.unusedSimpArgs false
set_option maxRecDepth 100000 in
theorem ringMoved_lifted (os : Os) (started : os.Started) (H : Type) (enc : TypeId × Value → H) :
    ReturnsInHanded {} Tryz.checked os 6 .any (fun w args => (Rows.ringMovedSpec.pre enc Tryz.prog Tryz.f6 [] false w args ∧ laidMetH Tryz.prog [("plumb/near.stays", Rows.laid_plumb_near_stays)] w) ∧ sizedMet enc Tryz.prog Tryz.f6 (OpenSpec.ofChange Rows.ringMovedSpec) false w args)
      (Rows.ringMovedSpec.post enc Tryz.prog Tryz.f6 false true false false) := by
  refine returnsInHanded_of_change_and (C := Tryz.checked) (X := fun w _ => laidMetH Tryz.prog [("plumb/near.stays", Rows.laid_plumb_near_stays)] w) (fun _ _ _ hh h => h.of_heap hh) row_own started (by kernel_rfl) Tryz.func6
    (ChangeSpec.witness_shaped (enc := enc) (C := Tryz.checked) (os := os) (X := fun w _ => laidMetH Tryz.prog [("plumb/near.stays", Rows.laid_plumb_near_stays)] w) false (World.doorLaid Tryz.prog 400 os) #[.slice none 0 0, .agg #[.int .i64 0, .int .i64 0], .agg #[.int .i64 0, .int .i64 0, .int .i64 0]] 8 rfl (World.shaped_of_RefB (by kernel_rfl) (by kernel_rfl)) (by kernel_rfl) (by kernel_rfl) (by kernel_rfl) (door_met os _)) ?_
  intro W base args ds gs before hval0 hW _ hsz0 _ _
  have hsz : (DataW.weightsEach Tryz.prog (Tryz.f6.params.toList ++ Rows.ringMovedSpec.plain.varTypes Tryz.prog) (ds ++ gs)).all (· ≤ reachBytes) = true := hsz0
  have hval : ∀ (j : Nat) t v, Tryz.f6.params[j]? = some t → args[j]? = some v → Value.okWide Tryz.prog W .any base t v := hval0
  have hW' := hW
  obtain ⟨p, q, hA0, hV, rfl, hfz, hnd⟩ := hW
  have hA : DataW.TrodAll enc Tryz.prog W 0 (fun _ => true) true Tryz.f6.params.toList args.toList ds p := hA0
  rw [Tryz.params6] at hA hval hsz
  obtain ⟨v0, v1, v2, d0, d1, d2, p0, p1, p2, hargs, hds, hps, h0, h1, h2⟩ := trodAll_three hA
  obtain ⟨rfl, rfl⟩ := trodVars_none hV
  subst hargs hds hps
  obtain ⟨A0, c0, q0, rfl, hp0, _, hu0, hs0⟩ := open_ips (hval 0 58 v0 rfl rfl) h0
  have hl0 := ips_len hsz (j := 0) rfl rfl hs0
  obtain ⟨q1, rfl, hu1⟩ := open_twov (hval 1 59 v1 rfl rfl) h1
  obtain ⟨f1, f2, f3, rfl, hf2⟩ := open_frame (hval 2 61 v2 rfl rfl) h2
  simp only [List.append_nil] at hW'
  refine (lMoved A0 c0 q0 q1 f1 f2 f3 W hp0 (by omega) hu0 hu1 hf2).mono fun x W' ⟨hx, hb⟩ => ?_
  subst hx
  refine ⟨_, rfl, post_true rfl rfl rfl hW' hb (fun sp hsp => ?_)⟩
  rw [Tryz.params6]
  have hlt : ∀ x ∈ p0 ++ p1 ++ p2, x.block < W.heap.size := fun x hx => hW'.lt x hx
  have hmk := trodAll_mk3
    (WideElems.Trod_stays row_laidOut (by kernel_rfl) (of_decide_eq_true (by kernel_rfl)) h0 (fun x hx => hb.same (hlt x (List.mem_append_left _ (List.mem_append_left _ hx)))) (fun x hx => hsp x (List.mem_append_left _ (List.mem_append_left _ hx))))
    (WideElems.Trod_stays row_laidOut (by kernel_rfl) (of_decide_eq_true (by kernel_rfl)) h1 (fun x hx => hb.same (hlt x (List.mem_append_left _ (List.mem_append_right _ hx)))) (fun x hx => hsp x (List.mem_append_left _ (List.mem_append_right _ hx))))
    (WideElems.Trod_stays row_laidOut (by kernel_rfl) (of_decide_eq_true (by kernel_rfl)) h2 (fun x hx => hb.same (hlt x (List.mem_append_right _ hx))) (fun x hx => hsp x (List.mem_append_right _ hx)))
  simpa only [List.append_assoc] using hmk
theorem ringMoved_said : Rows.RingMovedSaid :=
  OpenClaim.holds_of_wide 6 Tryz.f6 rfl rfl rfl rfl rfl rfl rfl ⟨rfl, rfl, rfl, rfl, rfl⟩ rfl rfl rfl rfl rfl (by kernel_rfl) Tryz.func6 (by kernel_rfl)
    (of_decide_eq_true (by kernel_rfl)) (by unfold Func.isWrapper; first | (rw [if_pos (by decide +kernel)]; kernel_rfl) | (rw [if_neg (by decide +kernel)]; exact ⟨rfl, rfl⟩))
    (fun os started H enc _ => ringMoved_lifted os started H enc)
theorem ringMoved_holds : Rows.RingMovedCardSaid :=
  Claim7.holds_tied_plain_at .later [] [.data] true (true, "f777712a3cb00256777b380c3964cedb2e32d925b7296fdfab4ba2994e78b29d") true
    ringMoved_said (fun _ h => by cases h) (by kernel_rfl) (fun _ h => by cases h) ringMoved_row_tie rfl ⟨rfl, rfl⟩ (by kernel_rfl) rfl
    (fun f fn hf hfn => by
      obtain rfl : f = 6 := Option.some.inj ((show Tryz.prog.funcNamed "plumb/plumblaw24.RingMoved" = some 6 by kernel_rfl).symm.trans hf) |>.symm
      obtain rfl : fn = Tryz.f6 := (Option.some.inj (Tryz.func6.symm.trans hfn)).symm
      exact ⟨by kernel_rfl, fun j t ht => by
        rw [Tryz.params6] at ht
        have hm : t ∈ [58, 59, 61] := by simpa using Array.mem_of_getElem? ht
        have hall : ([58, 59, 61].all fun u => !Tryz.prog.wantsStandIn u) = true := by kernel_rfl
        exact (show Tryz.prog.wantsStandIn t = false by simpa using List.all_eq_true.1 hall t hm)⟩)
    (by kernel_rfl)
end Go.Proofs.YtfpofmifmapmfaaGreatDoor
