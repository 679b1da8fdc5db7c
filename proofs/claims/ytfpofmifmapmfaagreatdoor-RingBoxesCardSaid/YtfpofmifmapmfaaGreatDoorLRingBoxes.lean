/- The law RingBoxes of package plumblaw24 answers true at every list of points, and changes nothing that it was handed: the tied card, for every input, no condition. -/
import Derived.Test.YtfpofmifmapmfaaGreatDoorRI
import Derived.Test.YtfpofmifmapmfaaGreatDoorRD
import Derived.Test.YtfpofmifmapmfaaGreatDoorRA
import Derived.Test.YtfpofmifmapmfaaGreatDoorRows
import Derived.Test.YtfpofmifmapmfaaGreatDoorCards
import Derived.Test.YtfpofmifmapmfaaGreatDoorTie
import Derived.ProofKit
import Derived.LaidMore
import Derived.OpenShut
import Derived.Stop.Joined
import Derived.Below
import Derived.ChangeSame
import Derived.SevenTiedAt
import Derived.Deep.Slices
import Derived.SizedLaws
namespace Go.Proofs.YtfpofmifmapmfaaGreatDoor
open Go.RowKit Go.Proofs.YtfpofmifmapmfaaGreatDoorW.PrintLast
set_option linter.unusedVariables false
set_option linter.unusedSimpArgs false
theorem room_u {l : List Pt} (h : ∀ q ∈ l, PtU q) : ∀ q ∈ roomL l, PtU q := by
  intro q hq
  unfold roomL at hq
  rcases List.mem_append.1 hq with h1 | h1
  · exact h q h1
  · simp at h1
    rcases h1 with rfl | rfl <;> (unfold PtU U64; omega)
theorem cRoom (A : Option Addr) (c : Nat) (l : List Pt) (hl : l.length ≤ 8796093021952) (w : World) (hp : PtsIn w A l) :
    Calls Tryz.prog 15 #[.slice A l.length c] w fun e w' => ∃ A1 c1, e = .returned (.slice A1 (l.length + 2) c1) ∧ l.length ≤ c1 ∧ PtsIn w' A1 (roomL l) ∧ Below w.heap.size w w' := by
  refine (lRoom A c l w hp hl).mono ?_
  rintro e w' ⟨v, rfl, hown, hb⟩
  have e2 := room_len l
  rw [e2] at hown
  obtain ⟨g, c1, rfl, _, _, hc⟩ := own_value hown (by omega)
  exact ⟨_, c1, rfl, by omega, own_pts hown e2, hb⟩
theorem room_take {w : World} {A : Option Addr} {l : List Pt} (h : PtsIn w A (roomL l)) : PtsIn w A l := by
  have := pts_take h l.length
  unfold roomL at this
  rwa [List.take_left'] at this
  rfl
set_option maxRecDepth 100000 in
set_option maxHeartbeats 6400000 in
theorem lBoxes (A : Option Addr) (c : Nat) (ps : List Pt) (w : World) (hp : PtsIn w A ps) (hl : ps.length ≤ 8796093021952) (hu : ∀ q ∈ ps, PtU q) :
    Calls Tryz.prog 5 #[.slice A ps.length c] w fun e w' => e = .returned (.bool true) ∧ Below w.heap.size w w' := by
  have HRo := Lib.hid (cRoom A c ps hl)
  have HBox := Lib.hid (fun A1 c1 wz (h : PtsIn wz A1 ps) => gBoxW A1 c1 ps wz h (by omega) hu)
  have HRef := Lib.hid (fun wz (h : PtsIn wz A ps) => rBox A c ps wz h hl hu)
  have HEq := Lib.hid (fun A1 A2 c1 c2 wz (h1 : PtsIn wz A1 (roomL ps)) (h2 : PtsIn wz A2 (roomL ps)) => lEq24W A1 A2 c1 c2 (roomL ps) (roomL ps) wz h1 h2 (by rw [room_len]; omega) (by rw [room_len]; omega) (room_u hu) (room_u hu))
  rw [room_len, decide_eq_true (rfl : roomL ps = roomL ps)] at HEq
  generalize lowP ps = lo at *
  generalize highP ps = hi at *
  generalize boxE ps = er at *
  have HAl := Lib.hid (fun wz => lAlive24 wz)
  have HP := Lib.hid hp
  have HL := Lib.hid hl
  clear hp hu hl
  have hmm : Bx w.heap.size w w _ _ := Bx.start w
  go_enter Tryz.func5, Tryz.ntmps5
  go_upto_region 1 with (fail)
  (try simp only [List.nil_append, List.cons_append, World.size_alloc, List.set_cons_zero, List.set_cons_succ, putsC, pB, pC, pD] at hmm)
  have HM := Lib.hid hmm
  clear hmm
  have HK := Lib.hid (HRo.out w (HP.out.keep HM.out.m.b))
  ((try dsimp only); repeat (first | go_values | go_skip | go_guarded | go_step | go_upon))
  refine HK.out.mono ?_
  rintro e w0 ⟨A1, c1, rfl, hc1, hq1, hb⟩
  have hm := (HM.out.keep hb)
  clear HK HM hb 
  (try simp only [List.nil_append, List.cons_append, World.size_alloc, List.set_cons_zero, List.set_cons_succ, putsC, pB, pC, pD] at hm)
  have HM := Lib.hid hm
  clear hm
  go_upto_region 2 with (fail)
  have hci : (ps.length : Int) ≤ (c1 : Int) := by omega
  have hli : (ps.length : Int) ≤ (ps.length : Int) + 2 := by omega
  have hl0 : (0 : Int) ≤ (ps.length : Int) := by omega
  have HQ1 := Lib.hid (hq1)
  clear hq1
  have HB1 := Lib.hid HM.out.m.b
  have HP0 := Lib.hid (HP.out.keep HB1.out)
  clear HM HP
  have HM := Lib.hid (Bx.start w0)
  have HK := Lib.hid (HBox.out A1 c1 w0 (room_take HQ1.out))
  ((try dsimp only); repeat (first | go_values | go_skip | go_guarded | go_step | go_upon))
  refine HK.out.mono ?_
  rintro e w40 ⟨rfl, hb⟩
  have hm : Bx w0.heap.size w0 (World.alloc (World.alloc w40 (.cells #[.int .u64 lo.1, .int .u64 lo.2] 38)) (.cells #[.int .u64 hi.1, .int .u64 hi.2] 38)) _ _ := (((HM.out.keep hb).alloc (.cells #[.int .u64 lo.1, .int .u64 lo.2] 38 (0, 0))).alloc (.cells #[.int .u64 hi.1, .int .u64 hi.2] 38 (0, 0)))
  clear HK HM hb 
  go_upto_region 3 with (fail)
  generalize (World.alloc (World.alloc w40 _) _) = v41 at *
  (try simp only [List.nil_append, List.cons_append, World.size_alloc, List.set_cons_zero, List.set_cons_succ, putsC, pB, pC, pD] at hm)
  have HM := Lib.hid hm
  clear hm
  have HK := Lib.hid (HRef.out v41 (HP0.out.keep HM.out.m.b))
  ((try dsimp only); repeat (first | go_values | go_skip | go_guarded | go_step | go_upon))
  refine HK.out.mono ?_
  rintro e w42 ⟨rfl, hb⟩
  have hm : Bx w0.heap.size w0 (World.alloc (World.alloc w42 (.cells #[.int .u64 lo.1, .int .u64 lo.2] 38)) (.cells #[.int .u64 hi.1, .int .u64 hi.2] 38)) _ _ := (((HM.out.keep hb).alloc (.cells #[.int .u64 lo.1, .int .u64 lo.2] 38 (0, 0))).alloc (.cells #[.int .u64 hi.1, .int .u64 hi.2] 38 (0, 0)))
  clear HK HM hb 
  go_upto_region 4 with (fail)
  generalize (World.alloc (World.alloc w42 _) _) = v43 at *
  (try simp only [List.nil_append, List.cons_append, World.size_alloc, List.set_cons_zero, List.set_cons_succ, putsC, pB, pC, pD] at hm)
  have HM := Lib.hid hm
  clear hm
  have HK := Lib.hid (HAl.out v43)
  ((try dsimp only); repeat (first | go_values | go_skip | go_guarded | go_step | go_upon))
  refine HK.out.mono ?_
  rintro e w44 ⟨rfl, hb⟩
  have hm := (HM.out.keep hb)
  clear HK HM hb 
  (try simp only [List.nil_append, List.cons_append, World.size_alloc, List.set_cons_zero, List.set_cons_succ, putsC, pB, pC, pD] at hm)
  have HM := Lib.hid hm
  clear hm
  obtain ⟨c0_0, c0_1, c0_2, c0_3⟩ := rw2 (HM.out.at 0 rfl)
  obtain ⟨c1_0, c1_1, c1_2, c1_3⟩ := rw2 (HM.out.at 1 rfl)
  obtain ⟨c2_0, c2_1, c2_2, c2_3⟩ := rw2 (HM.out.at 2 rfl)
  obtain ⟨c3_0, c3_1, c3_2, c3_3⟩ := rw2 (HM.out.at 3 rfl)
  have HK := Lib.hid (HRo.out w44 (HP0.out.keep HM.out.m.b))
  ((try dsimp only); repeat (first | go_values | go_skip | go_guarded | go_step | go_upon))
  refine HK.out.mono ?_
  rintro e w45 ⟨A2, c2, rfl, hc2, hq2, hb⟩
  have hm := (HM.out.keep hb)
  clear HK HM hb c0_0 c0_1 c0_2 c0_3 c1_0 c1_1 c1_2 c1_3 c2_0 c2_1 c2_2 c2_3 c3_0 c3_1 c3_2 c3_3
  (try simp only [List.nil_append, List.cons_append, World.size_alloc, List.set_cons_zero, List.set_cons_succ, putsC, pB, pC, pD] at hm)
  have HM := Lib.hid hm
  clear hm
  have HK := Lib.hid (HEq.out A1 A2 c1 c2 w45 (HQ1.out.keep HM.out.m.b) hq2)
  ((try dsimp only); repeat (first | go_values | go_skip | go_guarded | go_step | go_upon))
  refine HK.out.mono ?_
  rintro e w46 ⟨rfl, hb⟩
  have hm := (HM.out.keep hb)
  clear HK HM hb 
  (try simp only [List.nil_append, List.cons_append, World.size_alloc, List.set_cons_zero, List.set_cons_succ, putsC, pB, pC, pD] at hm)
  have HM := Lib.hid hm
  clear hm
  ((try dsimp only); repeat (first | go_values | go_skip | go_guarded | go_step | go_upon))
  go_ret
  exact ⟨rfl, HB1.out.trans (HM.out.m.b.mono HB1.out.size)⟩
end Go.Proofs.YtfpofmifmapmfaaGreatDoor

namespace Go.Proofs.YtfpofmifmapmfaaGreatDoor
open Go Go.ChangeShapes Go.WideShapes Go.ChangeAt Go.RowKit
set_option linter.unusedVariables false
set_option linter.unusedSimpArgs false
set_option maxRecDepth 100000
theorem row_own : ownKnob Tryz.prog.godebug = none := by kernel_rfl
theorem row_laidOut : laidOutB Tryz.prog = true := by kernel_rfl
theorem door_met (os : Os) (args : Array Value) : laidMetH Tryz.prog [("plumb/near.stays", Rows.laid_plumb_near_stays)] ((World.doorLaid Tryz.prog 400 os).forCall (fun _ _ => 0) ⟨#[], args, []⟩).memory :=
  laidMetH_of_parts3 (fuel := 8) (laidMet_of_run' 8 (by kernel_rfl) (by kernel_rfl)) (by kernel_rfl) (by kernel_rfl)
section
variable {H : Type} {enc : TypeId × Value → H} {w : World} {base : Nat} {spare : Nat → Bool} {held : Bool} {fuel : Nat}
theorem open_word {cs : List Value} {x : DataW H × List MemPlace} (h : DataW.trod enc Tryz.prog w base spare held fuel 36 cs = some x) : ∃ n, cs = [.int .u64 n] ∧ U64 n := by
  obtain ⟨n, h1, h2, h3⟩ := DataW.trod_int Tryz.underlying36 h
  refine ⟨n, h1, ?_⟩
  unfold Lit.wf at h3
  simp only [Bool.and_eq_true, decide_eq_true_eq] at h3
  exact h3
theorem open_point {cs : List Value} {x : DataW H × List MemPlace} (h : DataW.trod enc Tryz.prog w base spare held fuel 38 cs = some x) : ∃ p : Pt, cs = [.int .u64 p.1, .int .u64 p.2] ∧ PtU p := by
  obtain ⟨xs, n, _, _, hl, hx, hf⟩ := DataW.trod_struct Tryz.underlying38 h
  have c1 : Tryz.prog.cellsOf 38 = 2 := by kernel_rfl
  have c2 : Tryz.prog.cellsOf 36 = 1 := by kernel_rfl
  rw [c1] at hl
  match cs, hl with
  | [u, v], _ =>
    match xs, hx with
    | [y0, y1], _ =>
      have h0 : DataW.trod enc Tryz.prog w base spare held n 36 (List.take (Tryz.prog.cellsOf 36) (List.drop 0 [u, v])) = some y0 := hf 0 _ rfl
      have h1 : DataW.trod enc Tryz.prog w base spare held n 36 (List.take (Tryz.prog.cellsOf 36) (List.drop 1 [u, v])) = some y1 := hf 1 _ rfl
      rw [c2] at h0 h1
      obtain ⟨a, ha, ua⟩ := open_word (show DataW.trod enc Tryz.prog w base spare held n 36 [u] = some y0 from h0)
      obtain ⟨b, hb, ub⟩ := open_word (show DataW.trod enc Tryz.prog w base spare held n 36 [v] = some y1 from h1)
      cases ha
      cases hb
      exact ⟨(a, b), rfl, ua, ub⟩
theorem open_int {cs : List Value} {x : DataW H × List MemPlace} (h : DataW.trod enc Tryz.prog w base spare held fuel 3 cs = some x) : ∃ n : Int, cs = [.int .i64 n] ∧ -9223372036854775808 ≤ n ∧ n ≤ 9223372036854775807 := by
  obtain ⟨n, h1, h2, h3⟩ := DataW.trod_int Tryz.underlying3 h
  refine ⟨n, h1, ?_⟩
  unfold Lit.wf at h3
  simp only [Bool.and_eq_true, decide_eq_true_eq] at h3
  exact h3
theorem open_ptv {r : Reach} {b0 : Nat} {v : Value} {d : DataW H} {p : List MemPlace} (hv : Value.okWide Tryz.prog w r b0 38 v) (h : DataW.Trod enc Tryz.prog w base spare held 38 v d p) :
    ∃ a : Pt, v = .agg #[.int .u64 a.1, .int .u64 a.2] ∧ PtU a := by
  obtain ⟨cs, rfl, hsz⟩ := okWide_struct Tryz.underlying38 hv
  obtain ⟨l⟩ := cs
  have c1 : Tryz.prog.cellsOf 38 = 2 := by kernel_rfl
  obtain ⟨fuel, hf⟩ := h
  rw [c1] at hsz
  match l, hsz with
  | [v0, v1], _ =>
    obtain ⟨a, ha, ua⟩ := open_point (show DataW.trod enc Tryz.prog w base spare held fuel 38 [v0, v1] = some (d, p) from hf)
    cases ha
    exact ⟨a, rfl, ua⟩
theorem open_pts {r : Reach} {b0 : Nat} {v : Value} {d : DataW H} {p : List MemPlace} (hv : Value.okWide Tryz.prog w r b0 22 v) (h : DataW.Trod enc Tryz.prog w base spare held 22 v d p) :
    ∃ (A : Option Addr) (c : Nat) (qs : List Pt), v = .slice A qs.length c ∧ PtsIn w A qs ∧ qs.length ≤ 9223372036854775807 ∧ (∀ p ∈ qs, PtU p) ∧ (qs.length = 0 ∨ ∃ es sp, d = .slice es sp ∧ es.length = qs.length) := by
  obtain ⟨A, len, cap, rfl⟩ := okWide_slice Tryz.underlying22 hv
  have c2 : Tryz.prog.cellsOf 38 = 2 := by kernel_rfl
  obtain ⟨fuel, hf⟩ := h
  rcases Deep.open_slice Tryz.underlying22 (show DataW.trod enc Tryz.prog w base spare held fuel 22 [.slice A len cap] = some (d, p) from hf) with ⟨e, _⟩ | ⟨a, len', cap', m, n, D, Pl, e, hb, hl, hm, hmm, hxe, hx⟩
  · cases e
    exact ⟨none, 0, [], rfl, Or.inl rfl, by decide, (fun p hp => by cases hp), Or.inl rfl⟩
  · cases e
    have hlm : len ≤ m := by rw [hmm]; split <;> omega
    have hpt : ∀ i, i < len → ∃ q : Pt, w.cells? base (a.add (i * 2)) 2 = some [.int .u64 q.1, .int .u64 q.2] ∧ PtU q := by
      intro i hi
      obtain ⟨cs', h1, h2⟩ := hx i (by omega)
      rw [c2] at h1
      obtain ⟨q, rfl, hq⟩ := open_point h2
      exact ⟨q, h1, hq⟩
    obtain ⟨f, hf⟩ := Deep.choose_lt hpt
    have hlen : ((List.range len).map f).length = len := by simp
    have hget : ∀ i, i < len → ((List.range len).map f).getD i (0, 0) = f i := by
      intro i hi
      rw [List.getD_eq_getElem?_getD]
      simp [hi]
    refine ⟨some a, cap, (List.range len).map f, by rw [hlen], ?_, ?_, ?_, Or.inr ⟨_, _, (Prod.mk.inj hxe).1, by simp⟩⟩
    · by_cases h0 : len = 0
      · left; exact List.eq_nil_of_length_eq_zero (by rw [hlen, h0])
      · right
        have h1 := (World.cells?_some (hf 0 (by omega)).1).2.2 0 (by decide)
        have ha : a.add (0 * 2) = a := by simp [Addr.add]
        rw [ha] at h1
        have ha0 : a.add 0 = a := by simp [Addr.add]
        rw [ha0] at h1
        obtain ⟨b, o, s⟩ := a
        cases s with
        | some s =>
          exfalso
          simp only [World.cell?] at h1
          split at h1
          · simp at h1
          · cases h1
        | none =>
          refine ⟨b, o, rfl, ?_, fun i hi => ?_⟩
          · have hh : w.cell? ⟨b, o, none⟩ ≠ none := by rw [h1]; simp
            refine Nat.lt_of_not_le fun hge => hh ?_
            simp only [World.cell?]
            rw [Array.getElem?_eq_none hge]
          · rw [hlen] at hi
            have k := (World.cells?_some (hf i hi).1).2.2
            have k0 := k 0 (by decide)
            have k1 := k 1 (by decide)
            rw [Deep.add_add] at k0 k1
            have e : ∀ j, (⟨b, o, none⟩ : Addr).add j = ⟨b, o + j, none⟩ := by
              intro j
              unfold Addr.add
              split
              · rename_i h; simp [h]
              · rfl
            rw [e] at k0 k1
            rw [hget i hi]
            exact ⟨k0, by rw [Nat.add_assoc]; exact k1⟩
    · rw [hlen]
      unfold maxLen at hm
      omega
    · intro q hq
      obtain ⟨i, hi, rfl⟩ := List.mem_map.1 hq
      exact (hf i (List.mem_range.1 hi)).2
theorem open_boolv {w : World} {r : Reach} {b0 : Nat} {v : Value} (hv : Value.okWide Tryz.prog w r b0 4 v) : ∃ y : Bool, v = .bool y := by
  have ht := Tryz.underlying4
  simp only [Value.okWide, ht] at hv
  cases v <;> simp [Cell.okWide, Cell.ok, ht] at hv ⊢
theorem pts_len {ts : List TypeId} {ds : List (DataW H)} (h : (DataW.weightsEach Tryz.prog ts ds).all (· ≤ reachBytes) = true) {j : Nat} {d : DataW H} {qs : List Pt} (ht : ts[j]? = some 22) (hd : ds[j]? = some d)
    (hs : qs.length = 0 ∨ ∃ es sp, d = .slice es sp ∧ es.length = qs.length) : qs.length ≤ 8796093021952 := by
  rcases hs with e | ⟨es, sp, rfl, e⟩
  · omega
  · have := sized_slice h ht hd Tryz.underlying22
    have hb : Tryz.prog.bytesOf 38 = 16 := by kernel_rfl
    rw [hb] at this
    simp only [reachBytes] at this
    omega
end
theorem post_true {H : Type} {enc : TypeId × Value → H} {f : Func} {s : ChangeSpec} {apart fresh handsOn : Bool} {W W' : World} {args : Array Value} {ds : List (DataW H)} {before : List MemPlace}
    (hv : s.vars = []) (hs : s.fn H ds = { results := [.lit (.bool true)], args := ds }) (hr : f.resultTypes = #[4])
    (hW : DataW.Whole enc Tryz.prog f.params.toList s.vars apart W args.toList ds [] before) (hb : Below W.heap.size W W')
    (hst : ∀ sp : Nat → Bool, (∀ p ∈ before, sp p.block = true) → DataW.TrodAll enc Tryz.prog W' 0 sp true f.params.toList args.toList ds before) :
    s.post enc Tryz.prog f apart fresh handsOn false W args (.bool true) W' := by
  have below : ∀ p ∈ before, p.block < W.heap.size := fun p hp => hW.lt p hp
  have kept := hb.frame (· ∈ before)
  have fn0 : s.fn H (ds ++ []) = { results := [.lit (.bool true)], args := ds } := by rw [List.append_nil]; exact hs
  have res : ∀ (b : Nat) (sp : Nat → Bool) (hd : Bool), DataW.TrodAll enc Tryz.prog W' b sp hd f.resultTypes.toList ((Value.bool true).resultList f.resultTypes.size) (s.fn H (ds ++ [])).results [] := by
    intro b sp hd
    rw [fn0, hr]
    exact trodAll_mk1 (shut_bool Tryz.underlying4 _)
  have arg : ∀ sp : Nat → Bool, (∀ p ∈ before, sp p.block = true) → DataW.TrodAll enc Tryz.prog W' 0 sp true f.params.toList args.toList (s.fn H (ds ++ [])).args before := by
    intro sp h
    rw [fn0]
    exact hst sp h
  have vars : ∀ sp : Nat → Bool, DataW.TrodVars enc Tryz.prog W' sp s.vars (s.fn H (ds ++ [])).vars [] := by
    intro sp
    rw [fn0, hv]
    trivial
  refine ⟨ds, [], before, [], before, [], hW, res _ _ _, arg _ (fun p hp => by simpa using below p hp), vars _, World.keptBut_mono (fun p hp => ⟨hp, Or.inr (Or.inl hp)⟩) kept, fun h => by cases h⟩
end Go.Proofs.YtfpofmifmapmfaaGreatDoor

namespace Go.Proofs.YtfpofmifmapmfaaGreatDoor
open Go Go.ChangeShapes Go.WideShapes Go.ChangeAt Go.RowKit
set_option linter.unusedVariables false
set_option linter.unusedSimpArgs false
set_option maxRecDepth 100000 in
theorem ringBoxes_lifted (os : Os) (started : os.Started) (H : Type) (enc : TypeId × Value → H) :
    ReturnsInHanded {} Tryz.checked os 5 .any (fun w args => (Rows.ringBoxesSpec.pre enc Tryz.prog Tryz.f5 [] false w args ∧ laidMetH Tryz.prog [("plumb/near.stays", Rows.laid_plumb_near_stays)] w) ∧ sizedMet enc Tryz.prog Tryz.f5 (OpenSpec.ofChange Rows.ringBoxesSpec) false w args)
      (Rows.ringBoxesSpec.post enc Tryz.prog Tryz.f5 false true false false) := by
  refine returnsInHanded_of_change_and (C := Tryz.checked) (X := fun w _ => laidMetH Tryz.prog [("plumb/near.stays", Rows.laid_plumb_near_stays)] w) (fun _ _ _ hh h => h.of_heap hh) row_own started (by kernel_rfl) Tryz.func5
    (ChangeSpec.witness_shaped (enc := enc) (C := Tryz.checked) (os := os) (X := fun w _ => laidMetH Tryz.prog [("plumb/near.stays", Rows.laid_plumb_near_stays)] w) false (World.doorLaid Tryz.prog 400 os) #[.slice none 0 0] 8 rfl (World.shaped_of_RefB (by kernel_rfl) (by kernel_rfl)) (by kernel_rfl) (by kernel_rfl) (by kernel_rfl) (door_met os _)) ?_
  intro W base args ds gs before hval0 hW _ hsz0 _ _
  have hsz : (DataW.weightsEach Tryz.prog (Tryz.f5.params.toList ++ Rows.ringBoxesSpec.plain.varTypes Tryz.prog) (ds ++ gs)).all (· ≤ reachBytes) = true := hsz0
  have hval : ∀ (j : Nat) t v, Tryz.f5.params[j]? = some t → args[j]? = some v → Value.okWide Tryz.prog W .any base t v := hval0
  have hW' := hW
  obtain ⟨p, q, hA0, hV, rfl, hfz, hnd⟩ := hW
  have hA : DataW.TrodAll enc Tryz.prog W 0 (fun _ => true) true Tryz.f5.params.toList args.toList ds p := hA0
  rw [Tryz.params5] at hA hval hsz
  obtain ⟨v0, d0, hargs, hds, h0⟩ := trodAll_one hA
  obtain ⟨rfl, rfl⟩ := trodVars_none hV
  subst hargs hds
  obtain ⟨A0, c0, q0, rfl, hp0, _, hu0, hs0⟩ := open_pts (hval 0 22 v0 rfl rfl) h0
  have hl0 := pts_len hsz (j := 0) rfl rfl hs0
  simp only [List.append_nil] at hW'
  refine (lBoxes A0 c0 q0 W hp0 hl0 hu0).mono fun x W' ⟨hx, hb⟩ => ?_
  subst hx
  refine ⟨_, rfl, post_true rfl rfl rfl hW' hb (fun sp hsp => ?_)⟩
  rw [Tryz.params5]
  have hlt : ∀ x ∈ p, x.block < W.heap.size := fun x hx => hW'.lt x hx
  exact trodAll_mk1
    (WideElems.Trod_stays row_laidOut (by kernel_rfl) (of_decide_eq_true (by kernel_rfl)) h0 (fun x hx => hb.same (hlt x hx)) (fun x hx => hsp x hx))
theorem ringBoxes_said : Rows.RingBoxesSaid :=
  OpenClaim.holds_of_wide 5 Tryz.f5 rfl rfl rfl rfl rfl rfl rfl ⟨rfl, rfl, rfl, rfl, rfl⟩ rfl rfl rfl rfl rfl (by kernel_rfl) Tryz.func5 (by kernel_rfl)
    (of_decide_eq_true (by kernel_rfl)) (by unfold Func.isWrapper; first | (rw [if_pos (by decide +kernel)]; kernel_rfl) | (rw [if_neg (by decide +kernel)]; exact ⟨rfl, rfl⟩))
    (fun os started H enc _ => ringBoxes_lifted os started H enc)
theorem ringBoxes_holds : Rows.RingBoxesCardSaid :=
  Claim7.holds_tied_plain_at .later [] [.data] true (true, "f777712a3cb00256777b380c3964cedb2e32d925b7296fdfab4ba2994e78b29d") true
    ringBoxes_said (fun _ h => by cases h) (by kernel_rfl) (fun _ h => by cases h) ringBoxes_row_tie rfl ⟨rfl, rfl⟩ (by kernel_rfl) rfl
    (fun f fn hf hfn => by
      obtain rfl : f = 5 := Option.some.inj ((show Tryz.prog.funcNamed "plumb/plumblaw24.RingBoxes" = some 5 by kernel_rfl).symm.trans hf) |>.symm
      obtain rfl : fn = Tryz.f5 := (Option.some.inj (Tryz.func5.symm.trans hfn)).symm
      exact ⟨by kernel_rfl, fun j t ht => by
        rw [Tryz.params5] at ht
        have hm : t ∈ [22] := by simpa using Array.mem_of_getElem? ht
        have hall : ([22].all fun u => !Tryz.prog.wantsStandIn u) = true := by kernel_rfl
        exact (show Tryz.prog.wantsStandIn t = false by simpa using List.all_eq_true.1 hall t hm)⟩)
    (by kernel_rfl)
end Go.Proofs.YtfpofmifmapmfaaGreatDoor
