/- Package ring: Side. -/
import Derived.Test.YtfpofmifmapmfaaGreatDoorRB
import Derived.Test.YtfpofmifmapmfaaGreatDoorKD
import Derived.Test.YtfpofmifmapmfaaGreatDoorNF
namespace Go.Proofs.YtfpofmifmapmfaaGreatDoor
open Go.RowKit Go.Proofs.YtfpofmifmapmfaaGreatDoorW.PrintLast
set_option linter.unusedVariables false
set_option linter.unusedSimpArgs false
attribute [local go_sem] Oper.semAt_some
theorem rInt0 (q : Rat) (h : q = 0) (w : World) : Calls Tryz.prog 35 #[.int .i64 0] w fun e w' => ∃ A B, e = .returned (qv A B q) ∧ RatFresh w.heap.size w' A B q ∧ Below w.heap.size w w' := by
  have := rIntQ 0 w (by omega) (by omega)
  rwa [show ((0 : Int) : Rat) = q by rw [h]; rfl] at this
set_option maxRecDepth 100000 in
theorem load_rat {w : World} {g : Nat} {x y z : Value} (h : w.heap[g]? = some (.cells #[x, y, z] 26 (0, 0))) : (loadVar 26 ⟨g, 0, none⟩).run Tryz.prog w = .ok (.agg #[x, y, z]) w := run_loadVar_row w g _ _ _ _ _ h rfl rfl rfl
def zRat : Obj := .cells #[.bool false, .slice none 0 0, .slice none 0 0] 26 (0, 0)
def LA (s n k : Nat) (mo : Bool) (sl : Value) (A1 B1 A2 B2 A3 B3 : Option Addr) (qa qx qy : Rat) : List (Nat × Obj) := [(n, .cells #[.pointer (some ⟨s, 0, none⟩)] 104 (0, 0)), (n + 1, .cells #[.bool mo] 4 (0, 0)), (n + 1 + 1, zRat), (n + 1 + 1 + 1, zRat), (n + 1 + 1 + 1 + 1, zRat),
  (k, qo A1 B1 qa), (k + 1, qo A2 B2 qx), (k + 1 + 1, qo A3 B3 qy), (k + 1 + 1 + 1, .cells #[sl] 22 (0, 0))]
set_option maxRecDepth 100000 in
set_option maxHeartbeats 6400000 in
theorem gArea (s : Nat) (A : Option Addr) (c : Nat) (ps : List Pt) (mo : Bool) (w : World) (hse : SumOk w s) (hp : PtsIn w A ps) (k0 : 0 < ps.length) (hl : ps.length ≤ 512) (hF : ∀ q ∈ ps, FinP q) :
    Calls Tryz.prog 59 #[.pointer (some ⟨s, 0, none⟩), .slice A ps.length c, .bool mo] w fun e w' => ∃ A1 B1 A2 B2 A3 B3, e = .returned (.tuple #[qv A1 B1 (sumE crs (edgesR ps)), qv A2 B2 (if mo then sumE mox (edgesR ps) else 0), qv A3 B3 (if mo then sumE moy (edgesR ps) else 0)]) ∧
      Bx w.heap.size w w' [] [(A1, B1, sumE crs (edgesR ps)), (A2, B2, if mo then sumE mox (edgesR ps) else 0), (A3, B3, if mo then sumE moy (edgesR ps) else 0)] := by
  have HP := Lib.hid hp
  have HL := Lib.hid (And.intro hl hF)
  have hmm : Bx w.heap.size w (((((w.alloc (.cells #[.pointer (some ⟨s, 0, none⟩)] 104)).alloc (.cells #[.bool mo] 4)).alloc (.cells #[.bool false, .slice none 0 0, .slice none 0 0] 26)).alloc (.cells #[.bool false, .slice none 0 0, .slice none 0 0] 26)).alloc (.cells #[.bool false, .slice none 0 0, .slice none 0 0] 26)) _ _ :=
    (((((Bx.start w).alloc (.cells #[.pointer (some ⟨s, 0, none⟩)] 104 (0, 0))).alloc (.cells #[.bool mo] 4 (0, 0))).alloc (.cells #[.bool false, .slice none 0 0, .slice none 0 0] 26 (0, 0))).alloc (.cells #[.bool false, .slice none 0 0, .slice none 0 0] 26 (0, 0))).alloc (.cells #[.bool false, .slice none 0 0, .slice none 0 0] 26 (0, 0))
  simp only [List.nil_append, List.cons_append, World.size_alloc] at hmm
  have HS := Lib.hid hse
  clear hp hl hF hse
  refine (callsIn_wide (n := 10)).1 (callsIn_of_wp_marks Tryz.func59 rfl trivial ?_)
  simp only [Tryz.ntmps59, List.size_toArray, List.length_cons, List.length_nil, Nat.reduceAdd, Nat.reduceSub, Array.replicate_succ, Array.replicate_zero, List.push_toArray, List.append_toArray, List.nil_append, List.cons_append]
  refine wpIn_wide.2 ?_
  go_upto_region 1 with (fail)
  generalize World.alloc (World.alloc (World.alloc (World.alloc (World.alloc w _) _) _) _) _ = v at *
  have HM := Lib.hid hmm
  clear hmm
  obtain ⟨zr, hzr⟩ : ∃ q : Rat, q = 0 := ⟨0, rfl⟩
  have HZ := Lib.hid hzr
  have HI : Hid (∀ wz, Calls Tryz.prog 35 #[.int .i64 0] wz fun e w' => ∃ A B, e = .returned (qv A B zr) ∧ RatFresh wz.heap.size w' A B zr ∧ Below wz.heap.size wz w') := Lib.hid (fun wz => rInt0 zr hzr wz)
  unfold qv at HI
  ((try dsimp only); repeat (first | go_values | go_skip | go_guarded | go_step | go_upon))
  refine (HI.out _).mono ?_
  rintro e w1 ⟨A1, B1, rfl, hf1, hb1⟩
  have h1 := HM.out.call hf1 hb1
  ((try dsimp only); repeat (first | go_values | go_skip | go_guarded | go_step | go_upon))
  refine (HI.out _).mono ?_
  rintro e w2 ⟨A2, B2, rfl, hf2, hb2⟩
  have h2 := h1.call hf2 hb2
  ((try dsimp only); repeat (first | go_values | go_skip | go_guarded | go_step | go_upon))
  refine (HI.out _).mono ?_
  rintro e w3 ⟨A3, B3, rfl, hf3, hb3⟩
  have h3 := h2.call hf3 hb3
  clear hzr h1 h2 hf1 hf2 hf3 hb1 hb2 hb3 HM HI
  go_upto_region 2 with (fail)
  obtain ⟨b, o, rfl, hb, hpa⟩ := HP.out.open k0
  have h4 := (((h3.alloc (qo A1 B1 zr)).alloc (qo A2 B2 zr)).alloc (qo A3 B3 zr)).alloc (.cells #[.slice (some ⟨b, o, none⟩) ps.length c] 22 (0, 0))
  simp only [List.nil_append, List.cons_append, World.size_alloc] at h4
  have HB := Lib.hid (And.intro hb hpa)
  clear h3 HP hb hpa
  ((try dsimp only); repeat (first | go_values | go_skip | go_guarded | go_step | go_upon))
  refine (gEdges (some ⟨b, o, none⟩) ps.length c _).mono ?_
  rintro e w8 ⟨rfl, rfl⟩
  simp only [World.size_alloc]
  ((try dsimp only); repeat (first | go_values | go_skip | go_guarded | go_step | go_upon))
  replace h4 : Bx w.heap.size w (World.alloc (World.alloc (World.alloc (World.alloc w3 (.cells #[.bool (decide (zr.num < 0)), .slice A1 (qn zr).length (qn zr).length, .slice B1 (qd zr).length (qd zr).length] 26)) (.cells #[.bool (decide (zr.num < 0)), .slice A2 (qn zr).length (qn zr).length, .slice B2 (qd zr).length (qd zr).length] 26)) (.cells #[.bool (decide (zr.num < 0)), .slice A3 (qn zr).length (qn zr).length, .slice B3 (qd zr).length (qd zr).length] 26)) (.cells #[.slice (some ⟨b, o, none⟩) ps.length c] 22))
    (LA s w.heap.size w3.heap.size mo (.slice (some ⟨b, o, none⟩) ps.length c) A1 B1 A2 B2 A3 B3 zr zr zr) [(A1, B1, zr), (A2, B2, zr), (A3, B3, zr)] := h4
  generalize World.alloc (World.alloc (World.alloc (World.alloc w3 _) _) _) _ = W0 at *
  have H4 := Lib.hid h4
  clear h4
  generalize Value.agg #[.bool (decide (zr.num < 0)), .slice A1 (qn zr).length (qn zr).length, .slice B1 (qd zr).length (qd zr).length] = z19 at *
  generalize Value.agg #[.bool (decide (zr.num < 0)), .slice A2 (qn zr).length (qn zr).length, .slice B2 (qd zr).length (qd zr).length] = z20 at *
  generalize Value.agg #[.bool (decide (zr.num < 0)), .slice A3 (qn zr).length (qn zr).length, .slice B3 (qd zr).length (qd zr).length] = z21 at *
  have h9 := H4.out
  obtain ⟨hb, hpa⟩ := HB.out
  obtain ⟨hl, hF⟩ := HL.out
  have hpa0 : PtsAt W0 b o ps := fun i hi => ⟨(h9.m.b.cell (p := ⟨b, o + i * 2, none⟩) hb).trans (hpa i hi).1, (h9.m.b.cell (p := ⟨b, o + i * 2 + 1, none⟩) hb).trans (hpa i hi).2⟩
  have hz7 := h9.m.z
  have hn7 : w.heap.size ≤ w3.heap.size := h9.g 5 _ _ rfl
  have hlt8 : w3.heap.size + 1 + 1 + 1 < W0.heap.size := h9.lt 8 rfl
  have hss := heap_lt HS.out
  refine (wpIn_wide (n := 10)).1 ?_
  refine wpIn_rangeFunc_ownH (F := Fence.wide) (n := 10) rfl (by decide) (gf := 140) (lb := #[.pointer (some ⟨w3.heap.size + 1 + 1 + 1, 0, none⟩)]) rfl trivial (enters_of Tryz.func140 (by kernel_rfl) rfl)
    (gStops 9 w.heap.size (w3.heap.size + 1 + 1 + 1) b o c ps (by omega) k0 hF W0 hb hz7 hpa0 hlt8 (rw1 (h9.at 8 rfl)).1) (fun h k => KpB.trans h k) (KpB.put hz7 hlt8) (Below.refl _ _) (fun _ => rfl)
    (fun (pre : List FE) W => ∃ A1 B1 A2 B2 A3 B3, Bx w.heap.size w W (LA s w.heap.size w3.heap.size mo (.slice (some ⟨b, o, none⟩) ps.length c) A1 B1 A2 B2 A3 B3 (sumE crs (vals pre)) (if mo then sumE mox (vals pre) else 0) (if mo then sumE moy (vals pre) else 0)) [(A1, B1, sumE crs (vals pre)), (A2, B2, if mo then sumE mox (vals pre) else 0), (A3, B3, if mo then sumE moy (vals pre) else 0)])
    (fun _ _ _ => False)
    (fun pre X Y row hs hg hr => by
      obtain ⟨A1, B1, A2, B2, A3, B3, h⟩ := hs
      exact ⟨A1, B1, A2, B2, A3, B3, h.kept hg (fun r e => ⟨Nat.le_trans hz7 (hr r e).1, (hr r e).2⟩) rfl⟩)
    (fun d pre X Y row hs hg hr => hs)
    ⟨A1, B1, A2, B2, A3, B3, by rw [show sumE crs (vals []) = zr from HZ.out.symm, show (if mo then sumE mox (vals []) else 0) = zr by rw [HZ.out]; split <;> rfl, show (if mo then sumE moy (vals []) else 0) = zr by rw [HZ.out]; split <;> rfl]; exact h9⟩
    (fun (x : FE) a' W => ∃ g1 g2, (w3.heap.size + 1 + 1 + 1 < g1 ∧ w3.heap.size + 1 + 1 + 1 < g2) ∧ W.heap[g1]? = some (.cells #[.int .u64 x.1.1.1, .int .u64 x.1.1.2] 38 (0, 0)) ∧ W.heap[g2]? = some (.cells #[.int .u64 x.1.2.1, .int .u64 x.1.2.2] 38 (0, 0)) ∧ a' = { tmps := #[.pointer (some ⟨s, 0, none⟩), .slice (some ⟨b, o, none⟩) ps.length c, .bool mo, .pointer (some ⟨w.heap.size, 0, none⟩), undef, .pointer (some ⟨w.heap.size + 1, 0, none⟩), .pointer (some ⟨w.heap.size + 1 + 1, 0, none⟩), .pointer (some ⟨w.heap.size + 1 + 1 + 1, 0, none⟩), .pointer (some ⟨w.heap.size + 1 + 1 + 1 + 1, 0, none⟩), .pointer (some ⟨w3.heap.size, 0, none⟩), .pointer (some ⟨w3.heap.size + 1, 0, none⟩), .pointer (some ⟨w3.heap.size + 1 + 1, 0, none⟩), .pointer (some ⟨g1, 0, none⟩), .pointer (some ⟨g2, 0, none⟩), undef, undef, undef, undef, undef, z19, z20, z21, .slice (some ⟨b, o, none⟩) ps.length c, .func (.func 140) #[] #[.pointer (some ⟨w3.heap.size + 1 + 1 + 1, 0, none⟩)], .agg #[.int .u64 x.1.1.1, .int .u64 x.1.1.2], .agg #[.int .u64 x.1.2.1, .int .u64 x.1.2.2], undef, undef, undef, undef, undef, undef, undef, undef, undef, undef, undef, undef, undef, undef, undef, undef, undef, undef, undef, undef, undef, undef, undef, undef, undef, undef, undef, undef, undef, undef, undef, undef, undef, undef, undef, undef, undef, undef, undef, undef, undef, undef, undef, undef, undef, undef, undef, undef, undef, undef, undef, undef, undef, undef], defers := [] })
    (fun x a' _ X Y row hs hg hr => by
      obtain ⟨g1, g2, h1, h2, h3, h4⟩ := hs
      exact ⟨g1, g2, h1, (hg.block _ (heap_lt h2) (ne_row h2 rfl (fun r e => (hr r e).2))).trans h2, (hg.block _ (heap_lt h3) (ne_row h3 rfl (fun r e => (hr r e).2))).trans h3, h4⟩)
    ?assign ?body ?done ?stop
  case assign =>
    rintro l pre x W K ⟨A1, B1, A2, B2, A3, B3, hB⟩ hK
    have s1 := hB.lt 8 rfl
    gi_wp2
    refine hK _ _ (((KeepsOthers.alloc _ _).trans (KeepsOthers.alloc _ _)).from _) ⟨((Below.refl _ W).alloc hB.m.z _).alloc (by simp; have := hB.m.z; omega) _, ?_⟩ ⟨A1, B1, A2, B2, A3, B3, ?_⟩ ⟨W.heap.size, W.heap.size + 1, ⟨s1, by omega⟩, alloc_old (alloc_new _ _), alloc_at _ (by simp), rfl⟩
    · exact (Below.heap_alloc _ _ _ (by simp; omega)).trans (Below.heap_alloc _ _ _ s1)
    · exact hB.keep (((Below.refl _ W).alloc (Nat.le_refl _) _).alloc (by simp) _)
  case body =>
    rintro l pre x a' W hl' ⟨r, hr⟩ ⟨A1, B1, A2, B2, A3, B3, hB⟩ ⟨g1, g2, hg, h1, h2, rfl⟩ hlt
    have hsz0 := hB.m.z
    have hs8 : w3.heap.size + 1 + 1 + 1 < W.heap.size := hB.lt 8 rfl
    have hsW : SumOk W s := (hB.m.b.block _ hss).trans HS.out
    have hmx : Tryz.prog.follows .mixedOrders = true := by kernel_rfl
    ((try dsimp only); repeat (first | go_values | gi_guarded | gi_step | gi_upon))
    refine wpIn_mono (Q := Exit.then (fun a w' => ∃ b0 b1 b2 b3 E0 F0 E1 F1 E2 F2 E3 F3, a = { tmps := #[.pointer (some ⟨s, 0, none⟩), .slice (some ⟨b, o, none⟩) ps.length c, .bool mo, .pointer (some ⟨w.heap.size, 0, none⟩), undef, .pointer (some ⟨w.heap.size + 1, 0, none⟩), .pointer (some ⟨w.heap.size + 1 + 1, 0, none⟩), .pointer (some ⟨w.heap.size + 1 + 1 + 1, 0, none⟩), .pointer (some ⟨w.heap.size + 1 + 1 + 1 + 1, 0, none⟩), .pointer (some ⟨w3.heap.size, 0, none⟩), .pointer (some ⟨w3.heap.size + 1, 0, none⟩), .pointer (some ⟨w3.heap.size + 1 + 1, 0, none⟩), .pointer (some ⟨g1, 0, none⟩), .pointer (some ⟨g2, 0, none⟩), .pointer (some ⟨b0, 0, none⟩), .pointer (some ⟨b1, 0, none⟩), .pointer (some ⟨b2, 0, none⟩), .pointer (some ⟨b3, 0, none⟩), undef, z19, z20, z21, .slice (some ⟨b, o, none⟩) ps.length c, .func (.func 140) #[] #[.pointer (some ⟨w3.heap.size + 1 + 1 + 1, 0, none⟩)], .agg #[.int .u64 x.1.1.1, .int .u64 x.1.1.2], .agg #[.int .u64 x.1.2.1, .int .u64 x.1.2.2], .pointer (some ⟨s, 0, none⟩), .pointer (some ⟨g1, 0, none⟩), .int .u64 x.1.1.1, qv E0 F0 (qK x.1 0), .pointer (some ⟨s, 0, none⟩), .pointer (some ⟨g1, 1, none⟩), .int .u64 x.1.1.2, qv E1 F1 (qK x.1 1), .pointer (some ⟨s, 0, none⟩), .pointer (some ⟨g2, 0, none⟩), .int .u64 x.1.2.1, qv E2 F2 (qK x.1 2), .pointer (some ⟨s, 0, none⟩), .pointer (some ⟨g2, 1, none⟩), .int .u64 x.1.2.2, qv E3 F3 (qK x.1 3), undef, undef, undef, undef, undef, undef, undef, undef, undef, undef, undef, undef, undef, undef, undef, undef, undef, undef, undef, undef, undef, undef, undef, undef, undef, undef, undef, undef, undef, undef, undef, undef, undef, undef, undef, undef, undef, undef], defers := [] } ∧ Bx W.heap.size W w' [(b0, qo E0 F0 (qK x.1 0)), (b1, qo E1 F1 (qK x.1 1)), (b2, qo E2 F2 (qK x.1 2)), (b3, qo E3 F3 (qK x.1 3))] [(E0, F0, qK x.1 0), (E1, F1, qK x.1 1), (E2, F2, qK x.1 2), (E3, F3, qK x.1 3)]) (fun _ _ _ => False)) ?r5 ?rest
    case r5 =>
      as_aux_lemma =>
      refine free_run (V5 s g1 g2 W.heap.size x.1) (J5 x.1) hmx (by kernel_rfl) (fun ⟨_, _, h⟩ => h) (J5.start _ _) ?step ?fin (by decide)
      case step =>
        rintro li aq wq i hs hF5 hJ5 hi
        obtain ⟨hi1, hi2, -⟩ := ready_mem hi
        have hs24 : li.size = 24 := hs
        have hi24 : i < 24 := hi1
        have hsz : aq.tmps.size = 80 := hF5.size
        have hBq : Below W.heap.size W wq := ((Below.refl _ W).drew).trans hF5.below
        have hsq : SumOk wq s := hsW.keep hBq
        have e3 : aq.eval (.tmp 3) = .pointer (some ⟨w.heap.size, 0, none⟩) := hF5.keep 3 (by kernel_rfl)
        have e12 : aq.eval (.tmp 12) = .pointer (some ⟨g1, 0, none⟩) := hF5.keep 12 (by kernel_rfl)
        have e13 : aq.eval (.tmp 13) = .pointer (some ⟨g2, 0, none⟩) := hF5.keep 13 (by kernel_rfl)
        obtain ⟨c1, c2⟩ := pts_cells (p := x.1.1) ((hBq.block _ (heap_lt h1)).trans h1)
        obtain ⟨c3, c4⟩ := pts_cells (p := x.1.2) ((hBq.block _ (heap_lt h2)).trans h2)
        have c5 := (rw1 ((hB.keep hBq).at 0 rfl)).1
        have hpv : ∀ k, k < 4 → li.getD (16 + k) false = true → PV 0 (aq.tmps.getD (14 + k) undef) wq := by
          intro k hk hl
          have key : PV W.heap.size (aq.tmps.getD (14 + k) undef) wq := by
            match k, hk with
            | 0, _ => exact hF5.val 16 14 rfl rfl hl
            | 1, _ => exact hF5.val 17 15 rfl rfl hl
            | 2, _ => exact hF5.val 18 16 rfl rfl hl
            | 3, _ => exact hF5.val 19 17 rfl rfl hl
          obtain ⟨g, e, f, r⟩ := key
          exact ⟨g, e, Nat.zero_le _, r⟩
        clear hs hi1 hBq hB h9 hpa hpa0 hF
        match i, hi24 with
      --R5
      | 0, _ =>
        refine wpOp_step rfl (fun K hK => ?_)
        refine value_ (v := .pointer (some ⟨s, 0, none⟩)) (w1 := wq) rfl rfl ?_ (hK _ _ ⟨hF5.step (Below.refl _ _) (Nat.le_refl _) (fun _ _ h => h) rfl rfl (show 26 < 80 by decide) (dist_of (by kernel_rfl)) (show 0 < li.size by omega) rfl, hJ5.step hs24 (by decide) hi2 (by decide) (by rw [hsz]; decide) (by omega) (fun _ _ h => h)⟩)
        clear hK; generalize aq.eval = ev at *; go_simp; (try rfl)
      | 1, _ =>
        refine wpOp_step rfl (fun K hK => ?_)
        refine value_ (v := .pointer (some ⟨g1, 0, none⟩)) (w1 := wq) rfl rfl ?_ (hK _ _ ⟨hF5.step (Below.refl _ _) (Nat.le_refl _) (fun _ _ h => h) rfl rfl (show 27 < 80 by decide) (dist_of (by kernel_rfl)) (show 1 < li.size by omega) rfl, hJ5.step hs24 (by decide) hi2 (by decide) (by rw [hsz]; decide) (by omega) (fun _ _ h => h)⟩)
        clear hK; generalize aq.eval = ev at *; go_simp; (try rfl)
      | 2, _ =>
        have ea : aq.eval (.tmp 27) = .pointer (some ⟨g1, 0, none⟩) := hF5.val 1 27 rfl rfl (ready_dep hi rfl 1 (by kernel_rfl))
        refine wpOp_step rfl (fun K hK => ?_)
        refine value_ (v := .int .u64 x.1.1.1) (w1 := wq) rfl rfl ?_ (hK _ _ ⟨hF5.step (Below.refl _ _) (Nat.le_refl _) (fun _ _ h => h) rfl rfl (show 28 < 80 by decide) (dist_of (by kernel_rfl)) (show 2 < li.size by omega) rfl, hJ5.step hs24 (by decide) hi2 (by decide) (by rw [hsz]; decide) (by omega) (fun _ _ h => h)⟩)
        clear hK; generalize aq.eval = ev at *; go_simp; (try rfl)
      | 3, _ =>
        have ea : aq.eval (.tmp 26) = .pointer (some ⟨s, 0, none⟩) := hF5.val 0 26 rfl rfl (ready_dep hi rfl 0 (by kernel_rfl))
        have eb : aq.eval (.tmp 28) = .int .u64 x.1.1.1 := hF5.val 2 28 rfl rfl (ready_dep hi rfl 2 (by kernel_rfl))
        refine wpOp_step rfl (fun K hK => ?_)
        refine go_ Tryz.func64 #[.pointer (some ⟨s, 0, none⟩), .int .u64 x.1.1.1] ?_ (hargs := by simp [ea, eb])
        refine (gNum s x.1.1.1 wq hsq x.2.1.1).mono ?_
        rintro e wn ⟨E, F, rfl, hf, hb⟩
        exact ⟨_, rfl, hK _ _ ⟨hF5.step (hb.mono hF5.big) hb.size (V5.keep hb) rfl rfl (show 29 < 80 by decide) (dist_of (by kernel_rfl)) (show 3 < li.size by omega) ⟨E, F, rfl, hf.wide hF5.big⟩, hJ5.step hs24 (by decide) hi2 (by decide) (by rw [hsz]; decide) (by omega) (fun g o h => (hb.block g (heap_lt h)).trans h)⟩⟩
      | 4, _ =>
        refine wpOp_step rfl (fun K hK => ?_)
        refine value_ (v := .pointer (some ⟨s, 0, none⟩)) (w1 := wq) rfl rfl ?_ (hK _ _ ⟨hF5.step (Below.refl _ _) (Nat.le_refl _) (fun _ _ h => h) rfl rfl (show 30 < 80 by decide) (dist_of (by kernel_rfl)) (show 4 < li.size by omega) rfl, hJ5.step hs24 (by decide) hi2 (by decide) (by rw [hsz]; decide) (by omega) (fun _ _ h => h)⟩)
        clear hK; generalize aq.eval = ev at *; go_simp; (try rfl)
      | 5, _ =>
        refine wpOp_step rfl (fun K hK => ?_)
        refine value_ (v := .pointer (some ⟨g1, 1, none⟩)) (w1 := wq) rfl rfl ?_ (hK _ _ ⟨hF5.step (Below.refl _ _) (Nat.le_refl _) (fun _ _ h => h) rfl rfl (show 31 < 80 by decide) (dist_of (by kernel_rfl)) (show 5 < li.size by omega) rfl, hJ5.step hs24 (by decide) hi2 (by decide) (by rw [hsz]; decide) (by omega) (fun _ _ h => h)⟩)
        clear hK; generalize aq.eval = ev at *; go_simp; (try rfl)
      | 6, _ =>
        have ea : aq.eval (.tmp 31) = .pointer (some ⟨g1, 1, none⟩) := hF5.val 5 31 rfl rfl (ready_dep hi rfl 5 (by kernel_rfl))
        refine wpOp_step rfl (fun K hK => ?_)
        refine value_ (v := .int .u64 x.1.1.2) (w1 := wq) rfl rfl ?_ (hK _ _ ⟨hF5.step (Below.refl _ _) (Nat.le_refl _) (fun _ _ h => h) rfl rfl (show 32 < 80 by decide) (dist_of (by kernel_rfl)) (show 6 < li.size by omega) rfl, hJ5.step hs24 (by decide) hi2 (by decide) (by rw [hsz]; decide) (by omega) (fun _ _ h => h)⟩)
        clear hK; generalize aq.eval = ev at *; go_simp; (try rfl)
      | 7, _ =>
        have ea : aq.eval (.tmp 30) = .pointer (some ⟨s, 0, none⟩) := hF5.val 4 30 rfl rfl (ready_dep hi rfl 4 (by kernel_rfl))
        have eb : aq.eval (.tmp 32) = .int .u64 x.1.1.2 := hF5.val 6 32 rfl rfl (ready_dep hi rfl 6 (by kernel_rfl))
        refine wpOp_step rfl (fun K hK => ?_)
        refine go_ Tryz.func64 #[.pointer (some ⟨s, 0, none⟩), .int .u64 x.1.1.2] ?_ (hargs := by simp [ea, eb])
        refine (gNum s x.1.1.2 wq hsq x.2.1.2).mono ?_
        rintro e wn ⟨E, F, rfl, hf, hb⟩
        exact ⟨_, rfl, hK _ _ ⟨hF5.step (hb.mono hF5.big) hb.size (V5.keep hb) rfl rfl (show 33 < 80 by decide) (dist_of (by kernel_rfl)) (show 7 < li.size by omega) ⟨E, F, rfl, hf.wide hF5.big⟩, hJ5.step hs24 (by decide) hi2 (by decide) (by rw [hsz]; decide) (by omega) (fun g o h => (hb.block g (heap_lt h)).trans h)⟩⟩
      | 8, _ =>
        refine wpOp_step rfl (fun K hK => ?_)
        refine value_ (v := .pointer (some ⟨s, 0, none⟩)) (w1 := wq) rfl rfl ?_ (hK _ _ ⟨hF5.step (Below.refl _ _) (Nat.le_refl _) (fun _ _ h => h) rfl rfl (show 34 < 80 by decide) (dist_of (by kernel_rfl)) (show 8 < li.size by omega) rfl, hJ5.step hs24 (by decide) hi2 (by decide) (by rw [hsz]; decide) (by omega) (fun _ _ h => h)⟩)
        clear hK; generalize aq.eval = ev at *; go_simp; (try rfl)
      | 9, _ =>
        refine wpOp_step rfl (fun K hK => ?_)
        refine value_ (v := .pointer (some ⟨g2, 0, none⟩)) (w1 := wq) rfl rfl ?_ (hK _ _ ⟨hF5.step (Below.refl _ _) (Nat.le_refl _) (fun _ _ h => h) rfl rfl (show 35 < 80 by decide) (dist_of (by kernel_rfl)) (show 9 < li.size by omega) rfl, hJ5.step hs24 (by decide) hi2 (by decide) (by rw [hsz]; decide) (by omega) (fun _ _ h => h)⟩)
        clear hK; generalize aq.eval = ev at *; go_simp; (try rfl)
      | 10, _ =>
        have ea : aq.eval (.tmp 35) = .pointer (some ⟨g2, 0, none⟩) := hF5.val 9 35 rfl rfl (ready_dep hi rfl 9 (by kernel_rfl))
        refine wpOp_step rfl (fun K hK => ?_)
        refine value_ (v := .int .u64 x.1.2.1) (w1 := wq) rfl rfl ?_ (hK _ _ ⟨hF5.step (Below.refl _ _) (Nat.le_refl _) (fun _ _ h => h) rfl rfl (show 36 < 80 by decide) (dist_of (by kernel_rfl)) (show 10 < li.size by omega) rfl, hJ5.step hs24 (by decide) hi2 (by decide) (by rw [hsz]; decide) (by omega) (fun _ _ h => h)⟩)
        clear hK; generalize aq.eval = ev at *; go_simp; (try rfl)
      | 11, _ =>
        have ea : aq.eval (.tmp 34) = .pointer (some ⟨s, 0, none⟩) := hF5.val 8 34 rfl rfl (ready_dep hi rfl 8 (by kernel_rfl))
        have eb : aq.eval (.tmp 36) = .int .u64 x.1.2.1 := hF5.val 10 36 rfl rfl (ready_dep hi rfl 10 (by kernel_rfl))
        refine wpOp_step rfl (fun K hK => ?_)
        refine go_ Tryz.func64 #[.pointer (some ⟨s, 0, none⟩), .int .u64 x.1.2.1] ?_ (hargs := by simp [ea, eb])
        refine (gNum s x.1.2.1 wq hsq x.2.2.1).mono ?_
        rintro e wn ⟨E, F, rfl, hf, hb⟩
        exact ⟨_, rfl, hK _ _ ⟨hF5.step (hb.mono hF5.big) hb.size (V5.keep hb) rfl rfl (show 37 < 80 by decide) (dist_of (by kernel_rfl)) (show 11 < li.size by omega) ⟨E, F, rfl, hf.wide hF5.big⟩, hJ5.step hs24 (by decide) hi2 (by decide) (by rw [hsz]; decide) (by omega) (fun g o h => (hb.block g (heap_lt h)).trans h)⟩⟩
      | 12, _ =>
        refine wpOp_step rfl (fun K hK => ?_)
        refine value_ (v := .pointer (some ⟨s, 0, none⟩)) (w1 := wq) rfl rfl ?_ (hK _ _ ⟨hF5.step (Below.refl _ _) (Nat.le_refl _) (fun _ _ h => h) rfl rfl (show 38 < 80 by decide) (dist_of (by kernel_rfl)) (show 12 < li.size by omega) rfl, hJ5.step hs24 (by decide) hi2 (by decide) (by rw [hsz]; decide) (by omega) (fun _ _ h => h)⟩)
        clear hK; generalize aq.eval = ev at *; go_simp; (try rfl)
      | 13, _ =>
        refine wpOp_step rfl (fun K hK => ?_)
        refine value_ (v := .pointer (some ⟨g2, 1, none⟩)) (w1 := wq) rfl rfl ?_ (hK _ _ ⟨hF5.step (Below.refl _ _) (Nat.le_refl _) (fun _ _ h => h) rfl rfl (show 39 < 80 by decide) (dist_of (by kernel_rfl)) (show 13 < li.size by omega) rfl, hJ5.step hs24 (by decide) hi2 (by decide) (by rw [hsz]; decide) (by omega) (fun _ _ h => h)⟩)
        clear hK; generalize aq.eval = ev at *; go_simp; (try rfl)
      | 14, _ =>
        have ea : aq.eval (.tmp 39) = .pointer (some ⟨g2, 1, none⟩) := hF5.val 13 39 rfl rfl (ready_dep hi rfl 13 (by kernel_rfl))
        refine wpOp_step rfl (fun K hK => ?_)
        refine value_ (v := .int .u64 x.1.2.2) (w1 := wq) rfl rfl ?_ (hK _ _ ⟨hF5.step (Below.refl _ _) (Nat.le_refl _) (fun _ _ h => h) rfl rfl (show 40 < 80 by decide) (dist_of (by kernel_rfl)) (show 14 < li.size by omega) rfl, hJ5.step hs24 (by decide) hi2 (by decide) (by rw [hsz]; decide) (by omega) (fun _ _ h => h)⟩)
        clear hK; generalize aq.eval = ev at *; go_simp; (try rfl)
      | 15, _ =>
        have ea : aq.eval (.tmp 38) = .pointer (some ⟨s, 0, none⟩) := hF5.val 12 38 rfl rfl (ready_dep hi rfl 12 (by kernel_rfl))
        have eb : aq.eval (.tmp 40) = .int .u64 x.1.2.2 := hF5.val 14 40 rfl rfl (ready_dep hi rfl 14 (by kernel_rfl))
        refine wpOp_step rfl (fun K hK => ?_)
        refine go_ Tryz.func64 #[.pointer (some ⟨s, 0, none⟩), .int .u64 x.1.2.2] ?_ (hargs := by simp [ea, eb])
        refine (gNum s x.1.2.2 wq hsq x.2.2.2).mono ?_
        rintro e wn ⟨E, F, rfl, hf, hb⟩
        exact ⟨_, rfl, hK _ _ ⟨hF5.step (hb.mono hF5.big) hb.size (V5.keep hb) rfl rfl (show 41 < 80 by decide) (dist_of (by kernel_rfl)) (show 15 < li.size by omega) ⟨E, F, rfl, hf.wide hF5.big⟩, hJ5.step hs24 (by decide) hi2 (by decide) (by rw [hsz]; decide) (by omega) (fun g o h => (hb.block g (heap_lt h)).trans h)⟩⟩
      | 16, _ =>
        refine wpOp_step rfl (fun K hK => ?_)
        refine al_ (.cells #[.bool false, .slice none 0 0, .slice none 0 0] 26) (hK _ _ ⟨hF5.step ((Below.refl _ _).alloc hF5.big _) (by simp) (V5.keep ((Below.refl _ _).alloc (Nat.le_refl _) _)) rfl rfl (show 14 < 80 by decide) (dist_of (by kernel_rfl)) (show 16 < li.size by omega) ⟨wq.heap.size, rfl, hF5.big, _, _, _, alloc_new _ _⟩, hJ5.alloc (k0 := 0) hs24 (by decide) hi2 (by rw [hsz]; decide) _ hpv⟩)
      | 17, _ =>
        refine wpOp_step rfl (fun K hK => ?_)
        refine al_ (.cells #[.bool false, .slice none 0 0, .slice none 0 0] 26) (hK _ _ ⟨hF5.step ((Below.refl _ _).alloc hF5.big _) (by simp) (V5.keep ((Below.refl _ _).alloc (Nat.le_refl _) _)) rfl rfl (show 15 < 80 by decide) (dist_of (by kernel_rfl)) (show 17 < li.size by omega) ⟨wq.heap.size, rfl, hF5.big, _, _, _, alloc_new _ _⟩, hJ5.alloc (k0 := 1) hs24 (by decide) hi2 (by rw [hsz]; decide) _ hpv⟩)
      | 18, _ =>
        refine wpOp_step rfl (fun K hK => ?_)
        refine al_ (.cells #[.bool false, .slice none 0 0, .slice none 0 0] 26) (hK _ _ ⟨hF5.step ((Below.refl _ _).alloc hF5.big _) (by simp) (V5.keep ((Below.refl _ _).alloc (Nat.le_refl _) _)) rfl rfl (show 16 < 80 by decide) (dist_of (by kernel_rfl)) (show 18 < li.size by omega) ⟨wq.heap.size, rfl, hF5.big, _, _, _, alloc_new _ _⟩, hJ5.alloc (k0 := 2) hs24 (by decide) hi2 (by rw [hsz]; decide) _ hpv⟩)
      | 19, _ =>
        refine wpOp_step rfl (fun K hK => ?_)
        refine al_ (.cells #[.bool false, .slice none 0 0, .slice none 0 0] 26) (hK _ _ ⟨hF5.step ((Below.refl _ _).alloc hF5.big _) (by simp) (V5.keep ((Below.refl _ _).alloc (Nat.le_refl _) _)) rfl rfl (show 17 < 80 by decide) (dist_of (by kernel_rfl)) (show 19 < li.size by omega) ⟨wq.heap.size, rfl, hF5.big, _, _, _, alloc_new _ _⟩, hJ5.alloc (k0 := 3) hs24 (by decide) hi2 (by rw [hsz]; decide) _ hpv⟩)
      | 20, _ =>
        have la := ready_dep hi rfl 16 (by kernel_rfl)
        have lc := ready_dep hi rfl 3 (by kernel_rfl)
        obtain ⟨g, eg, hBg, y0, y1, y2, r⟩ := hF5.val 16 14 rfl rfl la
        obtain ⟨E, F, ev, hf⟩ := hF5.val 3 29 rfl rfl lc
        obtain ⟨c0, c1, c2, f0, f1, f2⟩ := rw3 r
        have ea : aq.eval (.tmp 14) = .pointer (some ⟨g, 0, none⟩) := eg
        have eb : aq.eval (.tmp 29) = .agg #[.bool (decide ((qK x.1 0).num < 0)), .slice E (qn (qK x.1 0)).length (qn (qK x.1 0)).length, .slice F (qd (qK x.1 0)).length (qd (qK x.1 0)).length] := ev
        refine wpOp_step rfl (fun K hK => ?_)
        refine skip_ (w1 := setR g (.bool (decide ((qK x.1 0).num < 0))) (.slice E (qn (qK x.1 0)).length (qn (qK x.1 0)).length) (.slice F (qd (qK x.1 0)).length (qd (qK x.1 0)).length) wq) rfl rfl ?_ (hK _ _ ⟨hF5.skip (setR_below hBg (Below.refl _ _)) (Nat.le_of_eq (setR_size _ _ _ _ _).symm) (V5.set ⟨y0, y1, y2, r⟩) rfl rfl undef, hJ5.store (k0 := 0) hs24 (by decide) la lc eg ⟨y0, y1, y2, r⟩ ev undef⟩)
        clear hK ev eg la lc
        unfold setR
        generalize aq.eval = ev at *
        go_simp
        (try rfl)
      | 21, _ =>
        have la := ready_dep hi rfl 17 (by kernel_rfl)
        have lc := ready_dep hi rfl 7 (by kernel_rfl)
        obtain ⟨g, eg, hBg, y0, y1, y2, r⟩ := hF5.val 17 15 rfl rfl la
        obtain ⟨E, F, ev, hf⟩ := hF5.val 7 33 rfl rfl lc
        obtain ⟨c0, c1, c2, f0, f1, f2⟩ := rw3 r
        have ea : aq.eval (.tmp 15) = .pointer (some ⟨g, 0, none⟩) := eg
        have eb : aq.eval (.tmp 33) = .agg #[.bool (decide ((qK x.1 1).num < 0)), .slice E (qn (qK x.1 1)).length (qn (qK x.1 1)).length, .slice F (qd (qK x.1 1)).length (qd (qK x.1 1)).length] := ev
        refine wpOp_step rfl (fun K hK => ?_)
        refine skip_ (w1 := setR g (.bool (decide ((qK x.1 1).num < 0))) (.slice E (qn (qK x.1 1)).length (qn (qK x.1 1)).length) (.slice F (qd (qK x.1 1)).length (qd (qK x.1 1)).length) wq) rfl rfl ?_ (hK _ _ ⟨hF5.skip (setR_below hBg (Below.refl _ _)) (Nat.le_of_eq (setR_size _ _ _ _ _).symm) (V5.set ⟨y0, y1, y2, r⟩) rfl rfl undef, hJ5.store (k0 := 1) hs24 (by decide) la lc eg ⟨y0, y1, y2, r⟩ ev undef⟩)
        clear hK ev eg la lc
        unfold setR
        generalize aq.eval = ev at *
        go_simp
        (try rfl)
      | 22, _ =>
        have la := ready_dep hi rfl 18 (by kernel_rfl)
        have lc := ready_dep hi rfl 11 (by kernel_rfl)
        obtain ⟨g, eg, hBg, y0, y1, y2, r⟩ := hF5.val 18 16 rfl rfl la
        obtain ⟨E, F, ev, hf⟩ := hF5.val 11 37 rfl rfl lc
        obtain ⟨c0, c1, c2, f0, f1, f2⟩ := rw3 r
        have ea : aq.eval (.tmp 16) = .pointer (some ⟨g, 0, none⟩) := eg
        have eb : aq.eval (.tmp 37) = .agg #[.bool (decide ((qK x.1 2).num < 0)), .slice E (qn (qK x.1 2)).length (qn (qK x.1 2)).length, .slice F (qd (qK x.1 2)).length (qd (qK x.1 2)).length] := ev
        refine wpOp_step rfl (fun K hK => ?_)
        refine skip_ (w1 := setR g (.bool (decide ((qK x.1 2).num < 0))) (.slice E (qn (qK x.1 2)).length (qn (qK x.1 2)).length) (.slice F (qd (qK x.1 2)).length (qd (qK x.1 2)).length) wq) rfl rfl ?_ (hK _ _ ⟨hF5.skip (setR_below hBg (Below.refl _ _)) (Nat.le_of_eq (setR_size _ _ _ _ _).symm) (V5.set ⟨y0, y1, y2, r⟩) rfl rfl undef, hJ5.store (k0 := 2) hs24 (by decide) la lc eg ⟨y0, y1, y2, r⟩ ev undef⟩)
        clear hK ev eg la lc
        unfold setR
        generalize aq.eval = ev at *
        go_simp
        (try rfl)
      | 23, _ =>
        have la := ready_dep hi rfl 19 (by kernel_rfl)
        have lc := ready_dep hi rfl 15 (by kernel_rfl)
        obtain ⟨g, eg, hBg, y0, y1, y2, r⟩ := hF5.val 19 17 rfl rfl la
        obtain ⟨E, F, ev, hf⟩ := hF5.val 15 41 rfl rfl lc
        obtain ⟨c0, c1, c2, f0, f1, f2⟩ := rw3 r
        have ea : aq.eval (.tmp 17) = .pointer (some ⟨g, 0, none⟩) := eg
        have eb : aq.eval (.tmp 41) = .agg #[.bool (decide ((qK x.1 3).num < 0)), .slice E (qn (qK x.1 3)).length (qn (qK x.1 3)).length, .slice F (qd (qK x.1 3)).length (qd (qK x.1 3)).length] := ev
        refine wpOp_step rfl (fun K hK => ?_)
        refine skip_ (w1 := setR g (.bool (decide ((qK x.1 3).num < 0))) (.slice E (qn (qK x.1 3)).length (qn (qK x.1 3)).length) (.slice F (qd (qK x.1 3)).length (qd (qK x.1 3)).length) wq) rfl rfl ?_ (hK _ _ ⟨hF5.skip (setR_below hBg (Below.refl _ _)) (Nat.le_of_eq (setR_size _ _ _ _ _).symm) (V5.set ⟨y0, y1, y2, r⟩) rfl rfl undef, hJ5.store (k0 := 3) hs24 (by decide) la lc eg ⟨y0, y1, y2, r⟩ ev undef⟩)
        clear hK ev eg la lc
        unfold setR
        generalize aq.eval = ev at *
        go_simp
        (try rfl)
      | n + 24, h => exact absurd h (by omega)
      --R5END
      case fin =>
        rintro li aq wq hs hF5 hJ5 hr
        have hall := fun i hi => all_listedB hs hr (by kernel_rfl) i hi
        have hs24 : li.size = 24 := hs
        have l := fun i (h : i < 24) => hall i h
        obtain ⟨_, b0, E0, F0, p0, v0, r0⟩ := hJ5.st 0 (by decide) (l 20 (by decide))
        obtain ⟨_, b1, E1, F1, p1, v1, r1⟩ := hJ5.st 1 (by decide) (l 21 (by decide))
        obtain ⟨_, b2, E2, F2, p2, v2, r2⟩ := hJ5.st 2 (by decide) (l 22 (by decide))
        obtain ⟨_, b3, E3, F3, p3, v3, r3⟩ := hJ5.st 3 (by decide) (l 23 (by decide))
        obtain ⟨E0', F0', ev0, f0⟩ := hF5.val 3 29 rfl rfl (l 3 (by decide))
        obtain ⟨rfl, rfl⟩ := qv_inj (v0.symm.trans ev0)
        obtain ⟨c0, ec0, hB0, _⟩ := hF5.val 16 14 rfl rfl (l 16 (by decide))
        obtain rfl : b0 = c0 := by have q := p0.symm.trans ec0; injection q with q; injection q with q; injection q
        obtain ⟨E1', F1', ev1, f1⟩ := hF5.val 7 33 rfl rfl (l 7 (by decide))
        obtain ⟨rfl, rfl⟩ := qv_inj (v1.symm.trans ev1)
        obtain ⟨c1, ec1, hB1, _⟩ := hF5.val 17 15 rfl rfl (l 17 (by decide))
        obtain rfl : b1 = c1 := by have q := p1.symm.trans ec1; injection q with q; injection q with q; injection q
        obtain ⟨E2', F2', ev2, f2⟩ := hF5.val 11 37 rfl rfl (l 11 (by decide))
        obtain ⟨rfl, rfl⟩ := qv_inj (v2.symm.trans ev2)
        obtain ⟨c2, ec2, hB2, _⟩ := hF5.val 18 16 rfl rfl (l 18 (by decide))
        obtain rfl : b2 = c2 := by have q := p2.symm.trans ec2; injection q with q; injection q with q; injection q
        obtain ⟨E3', F3', ev3, f3⟩ := hF5.val 15 41 rfl rfl (l 15 (by decide))
        obtain ⟨rfl, rfl⟩ := qv_inj (v3.symm.trans ev3)
        obtain ⟨c3, ec3, hB3, _⟩ := hF5.val 19 17 rfl rfl (l 19 (by decide))
        obtain rfl : b3 = c3 := by have q := p3.symm.trans ec3; injection q with q; injection q with q; injection q
        have n01 : b0 ≠ b1 := fun q => hJ5.ap 0 1 (by decide) (by decide) (by decide) (l 16 (by decide)) (l 17 (by decide)) (by rw [p0, p1, q])
        have n02 : b0 ≠ b2 := fun q => hJ5.ap 0 2 (by decide) (by decide) (by decide) (l 16 (by decide)) (l 18 (by decide)) (by rw [p0, p2, q])
        have n03 : b0 ≠ b3 := fun q => hJ5.ap 0 3 (by decide) (by decide) (by decide) (l 16 (by decide)) (l 19 (by decide)) (by rw [p0, p3, q])
        have n12 : b1 ≠ b2 := fun q => hJ5.ap 1 2 (by decide) (by decide) (by decide) (l 17 (by decide)) (l 18 (by decide)) (by rw [p1, p2, q])
        have n13 : b1 ≠ b3 := fun q => hJ5.ap 1 3 (by decide) (by decide) (by decide) (l 17 (by decide)) (l 19 (by decide)) (by rw [p1, p3, q])
        have n23 : b2 ≠ b3 := fun q => hJ5.ap 2 3 (by decide) (by decide) (by decide) (l 18 (by decide)) (l 19 (by decide)) (by rw [p2, p3, q])
        have s26 : aq.tmps.getD 26 undef = .pointer (some ⟨s, 0, none⟩) := hF5.val 0 26 rfl rfl (l 0 (by decide))
        have s27 : aq.tmps.getD 27 undef = .pointer (some ⟨g1, 0, none⟩) := hF5.val 1 27 rfl rfl (l 1 (by decide))
        have s28 : aq.tmps.getD 28 undef = .int .u64 x.1.1.1 := hF5.val 2 28 rfl rfl (l 2 (by decide))
        have s30 : aq.tmps.getD 30 undef = .pointer (some ⟨s, 0, none⟩) := hF5.val 4 30 rfl rfl (l 4 (by decide))
        have s31 : aq.tmps.getD 31 undef = .pointer (some ⟨g1, 1, none⟩) := hF5.val 5 31 rfl rfl (l 5 (by decide))
        have s32 : aq.tmps.getD 32 undef = .int .u64 x.1.1.2 := hF5.val 6 32 rfl rfl (l 6 (by decide))
        have s34 : aq.tmps.getD 34 undef = .pointer (some ⟨s, 0, none⟩) := hF5.val 8 34 rfl rfl (l 8 (by decide))
        have s35 : aq.tmps.getD 35 undef = .pointer (some ⟨g2, 0, none⟩) := hF5.val 9 35 rfl rfl (l 9 (by decide))
        have s36 : aq.tmps.getD 36 undef = .int .u64 x.1.2.1 := hF5.val 10 36 rfl rfl (l 10 (by decide))
        have s38 : aq.tmps.getD 38 undef = .pointer (some ⟨s, 0, none⟩) := hF5.val 12 38 rfl rfl (l 12 (by decide))
        have s39 : aq.tmps.getD 39 undef = .pointer (some ⟨g2, 1, none⟩) := hF5.val 13 39 rfl rfl (l 13 (by decide))
        have s40 : aq.tmps.getD 40 undef = .int .u64 x.1.2.2 := hF5.val 14 40 rfl rfl (l 14 (by decide))
        have hBq : Below W.heap.size W wq := ((Below.refl _ W).drew).trans hF5.below
        dsimp only [Exit.then]
        refine ⟨b0, b1, b2, b3, E0, F0, E1, F1, E2, F2, E3, F3, act_of (tmps_of _ hF5.size ⟨hF5.keep 0 (by kernel_rfl), hF5.keep 1 (by kernel_rfl), hF5.keep 2 (by kernel_rfl), hF5.keep 3 (by kernel_rfl), hF5.keep 4 (by kernel_rfl), hF5.keep 5 (by kernel_rfl), hF5.keep 6 (by kernel_rfl), hF5.keep 7 (by kernel_rfl), hF5.keep 8 (by kernel_rfl), hF5.keep 9 (by kernel_rfl), hF5.keep 10 (by kernel_rfl), hF5.keep 11 (by kernel_rfl), hF5.keep 12 (by kernel_rfl), hF5.keep 13 (by kernel_rfl), p0, p1, p2, p3, hF5.keep 18 (by kernel_rfl), hF5.keep 19 (by kernel_rfl), hF5.keep 20 (by kernel_rfl), hF5.keep 21 (by kernel_rfl), hF5.keep 22 (by kernel_rfl), hF5.keep 23 (by kernel_rfl), hF5.keep 24 (by kernel_rfl), hF5.keep 25 (by kernel_rfl), s26, s27, s28, v0, s30, s31, s32, v1, s34, s35, s36, v2, s38, s39, s40, v3, hF5.keep 42 (by kernel_rfl), hF5.keep 43 (by kernel_rfl), hF5.keep 44 (by kernel_rfl), hF5.keep 45 (by kernel_rfl), hF5.keep 46 (by kernel_rfl), hF5.keep 47 (by kernel_rfl), hF5.keep 48 (by kernel_rfl), hF5.keep 49 (by kernel_rfl), hF5.keep 50 (by kernel_rfl), hF5.keep 51 (by kernel_rfl), hF5.keep 52 (by kernel_rfl), hF5.keep 53 (by kernel_rfl), hF5.keep 54 (by kernel_rfl), hF5.keep 55 (by kernel_rfl), hF5.keep 56 (by kernel_rfl), hF5.keep 57 (by kernel_rfl), hF5.keep 58 (by kernel_rfl), hF5.keep 59 (by kernel_rfl), hF5.keep 60 (by kernel_rfl), hF5.keep 61 (by kernel_rfl), hF5.keep 62 (by kernel_rfl), hF5.keep 63 (by kernel_rfl), hF5.keep 64 (by kernel_rfl), hF5.keep 65 (by kernel_rfl), hF5.keep 66 (by kernel_rfl), hF5.keep 67 (by kernel_rfl), hF5.keep 68 (by kernel_rfl), hF5.keep 69 (by kernel_rfl), hF5.keep 70 (by kernel_rfl), hF5.keep 71 (by kernel_rfl), hF5.keep 72 (by kernel_rfl), hF5.keep 73 (by kernel_rfl), hF5.keep 74 (by kernel_rfl), hF5.keep 75 (by kernel_rfl), hF5.keep 76 (by kernel_rfl), hF5.keep 77 (by kernel_rfl), hF5.keep 78 (by kernel_rfl), hF5.keep 79 (by kernel_rfl), True.intro⟩) hF5.defers, ⟨⟨hBq, hF5.big, ?_, ?_⟩, ?_, ?_⟩⟩
        · intro i g o h
          match i, h with
          | 0, h => cases h; exact r0
          | 1, h => cases h; exact r1
          | 2, h => cases h; exact r2
          | 3, h => cases h; exact r3
        · intro i A B q h
          match i, h with
          | 0, h => cases h; exact f0
          | 1, h => cases h; exact f1
          | 2, h => cases h; exact f2
          | 3, h => cases h; exact f3
        · intro i g o h
          match i, h with
          | 0, h => cases h; exact hB0
          | 1, h => cases h; exact hB1
          | 2, h => cases h; exact hB2
          | 3, h => cases h; exact hB3
        · exact apart4 n01 n02 n03 n12 n13 n23
    case rest =>
      rintro e a wr h
      cases e <;> simp only [Exit.then] at h
      obtain ⟨b0, b1, b2, b3, E0, F0, E1, F1, E2, F2, E3, F3, rfl, hX⟩ := h
      have hm := hB.join hX
      have HKO := Lib.hid (below_keeps hX.m.b)
      have hz0 : vals (pre ++ [x]) = vals pre ++ [x.1] := vals_snoc pre x
      have hle : ∀ e ∈ vals pre, FinE e := vals_fin pre
      have hln : (vals pre).length < 1024 := by rw [vals_len]; omega
      have s4 := area_szE hle hln
      obtain ⟨s5, s6⟩ := mox_szE hle hln
      have s5' : Sz 6310 (if mo then sumE mox (vals pre) else 0) := by split; exact s5; exact Sz.zero _
      have s6' : Sz 6310 (if mo then sumE moy (vals pre) else 0) := by split; exact s6; exact Sz.zero _
      have HSZ : Hid (∀ k, Sz 1075 (qK x.1 k)) := Lib.hid (qK_sz x.2)
      have t0 : Sz 2150 (qK x.1 0 * qK x.1 3) := ((HSZ.out 0).mul (HSZ.out 3)).mono (by omega)
      have t1 : Sz 2150 (qK x.1 2 * qK x.1 1) := ((HSZ.out 2).mul (HSZ.out 1)).mono (by omega)
      have HS6 := Lib.hid (And.intro t0 t1)
      have HE : Hid (∀ A1 B1 A2 B2 A3 B3 wz, Bx w.heap.size w wz (LA s w.heap.size w3.heap.size mo (.slice (some ⟨b, o, none⟩) ps.length c) A1 B1 A2 B2 A3 B3 (sumE crs (vals pre) + (qK x.1 0 * qK x.1 3 - qK x.1 2 * qK x.1 1)) (if mo then (if mo then sumE mox (vals pre) else 0) + (qK x.1 0 + qK x.1 2) * (qK x.1 0 * qK x.1 3 - qK x.1 2 * qK x.1 1) else (if mo then sumE mox (vals pre) else 0)) (if mo then (if mo then sumE moy (vals pre) else 0) + (qK x.1 1 + qK x.1 3) * (qK x.1 0 * qK x.1 3 - qK x.1 2 * qK x.1 1) else (if mo then sumE moy (vals pre) else 0)))
          [(A1, B1, sumE crs (vals pre) + (qK x.1 0 * qK x.1 3 - qK x.1 2 * qK x.1 1)), (A2, B2, if mo then (if mo then sumE mox (vals pre) else 0) + (qK x.1 0 + qK x.1 2) * (qK x.1 0 * qK x.1 3 - qK x.1 2 * qK x.1 1) else (if mo then sumE mox (vals pre) else 0)), (A3, B3, if mo then (if mo then sumE moy (vals pre) else 0) + (qK x.1 1 + qK x.1 3) * (qK x.1 0 * qK x.1 3 - qK x.1 2 * qK x.1 1) else (if mo then sumE moy (vals pre) else 0))] →
        Bx w.heap.size w wz (LA s w.heap.size w3.heap.size mo (.slice (some ⟨b, o, none⟩) ps.length c) A1 B1 A2 B2 A3 B3 (sumE crs (vals (pre ++ [x]))) (if mo then sumE mox (vals (pre ++ [x])) else 0) (if mo then sumE moy (vals (pre ++ [x])) else 0)) [(A1, B1, sumE crs (vals (pre ++ [x]))), (A2, B2, if mo then sumE mox (vals (pre ++ [x])) else 0), (A3, B3, if mo then sumE moy (vals (pre ++ [x])) else 0)]) := Lib.hid (fun A1 B1 A2 B2 A3 B3 wz h => by
        rw [hz0, sumE_snoc, sumE_snoc, sumE_snoc]
        cases mo <;> exact h)
      generalize hqa : sumE crs (vals pre) = qa at *
      generalize hqx : (if mo then sumE mox (vals pre) else 0) = qx at *
      generalize hqy : (if mo then sumE moy (vals pre) else 0) = qy at *
      clear hqa hqx hqy hz0 hle s5 s6
      have s7 : Sz 4301 (qK x.1 0 * qK x.1 3 - qK x.1 2 * qK x.1 1) := (t0.sub t1).mono (by omega)
      have HS7 := Lib.hid (And.intro s4 s7)
      have s8 : Sz 2151 (qK x.1 0 + qK x.1 2) := ((HSZ.out 0).add (HSZ.out 2)).mono (by omega)
      have s9 : Sz 2151 (qK x.1 1 + qK x.1 3) := ((HSZ.out 1).add (HSZ.out 3)).mono (by omega)
      have t2 : Sz 6452 ((qK x.1 0 + qK x.1 2) * (qK x.1 0 * qK x.1 3 - qK x.1 2 * qK x.1 1)) := (s8.mul s7).mono (by omega)
      have t3 : Sz 6452 ((qK x.1 1 + qK x.1 3) * (qK x.1 0 * qK x.1 3 - qK x.1 2 * qK x.1 1)) := (s9.mul s7).mono (by omega)
      have HS9 := Lib.hid (And.intro s8 (And.intro s5' t2))
      have HS10 := Lib.hid (And.intro s9 (And.intro s6' t3))
      simp only [LA, List.nil_append, List.cons_append] at hm
      have HM := Lib.hid hm
      clear hm hX s4 s5' s6' s7 s8 s9 t0 t1 t2 t3 hr h1 h2 h9 hpa0 hpa hF hlt
      ((try dsimp only); repeat (first | go_values | gi_guarded | gi_step | gi_upon))
      --RB
      refine startR (n := 12) (S := fun w' => w'.heap[w.heap.size]? = wr.heap[w.heap.size]? ∧ w'.heap[b0]? = wr.heap[b0]? ∧ w'.heap[b1]? = wr.heap[b1]? ∧ w'.heap[b2]? = wr.heap[b2]? ∧ w'.heap[b3]? = wr.heap[b3]?) (ds := [11]) (bt 12 0) (by kernel_rfl) (by kernel_rfl) (by rintro ⟨_, _, h⟩; exact h) rfl rfl ((And.intro rfl (And.intro rfl (And.intro rfl (And.intro rfl rfl))))) (fun hHeld => ?_)
      refine ld_ 0 42 ?_ hHeld ?_ ?_; rotate_left
      · rintro w' hs
        obtain ⟨q0, q1⟩ := rw1 ((hs.1).trans (HM.out.at 0 rfl))
        clear hs
        go_simp; with_reducible rfl
      refine ld_ 1 43 ?_ hHeld ?_ ?_; rotate_left
      · rintro w' hs
        obtain ⟨q0, q1⟩ := rw1 ((hs.1).trans (HM.out.at 0 rfl))
        clear hs
        go_simp; with_reducible rfl
      refine ld_ 2 44 ?_ hHeld ?_ ?_; rotate_left
      · rintro w' hs
        obtain ⟨q0, q1, q2, q3, q4, q5⟩ := rw3 ((hs.2.1).trans (HM.out.at 9 rfl))
        clear hs
        go_simp; with_reducible rfl
      refine ld_ 3 45 ?_ hHeld ?_ ?_; rotate_left
      · rintro w' hs
        obtain ⟨q0, q1, q2, q3, q4, q5⟩ := rw3 ((hs.2.2.2.2).trans (HM.out.at 12 rfl))
        clear hs
        go_simp; with_reducible rfl
      refine ld_ 5 47 ?_ hHeld ?_ ?_; rotate_left
      · rintro w' hs
        obtain ⟨q0, q1⟩ := rw1 ((hs.1).trans (HM.out.at 0 rfl))
        clear hs
        go_simp; with_reducible rfl
      refine ld_ 6 48 ?_ hHeld ?_ ?_; rotate_left
      · rintro w' hs
        obtain ⟨q0, q1, q2, q3, q4, q5⟩ := rw3 ((hs.2.2.2.1).trans (HM.out.at 11 rfl))
        clear hs
        go_simp; with_reducible rfl
      refine ld_ 7 49 ?_ hHeld ?_ ?_; rotate_left
      · rintro w' hs
        obtain ⟨q0, q1, q2, q3, q4, q5⟩ := rw3 ((hs.2.2.1).trans (HM.out.at 10 rfl))
        clear hs
        go_simp; with_reducible rfl
      refine join_ (σ := Option Addr × Option Addr × Option Addr × Option Addr × Option Addr × Option Addr × Nat) 1 (bt 12 2047) (fun s => [(46, (qv (s.1) (s.2.1) ((qK x.1 0) * (qK x.1 3)))), (50, (qv (s.2.2.1) (s.2.2.2.1) ((qK x.1 2) * (qK x.1 1)))), (51, (qv (s.2.2.2.2.1) (s.2.2.2.2.2.1) (((qK x.1 0) * (qK x.1 3)) - ((qK x.1 2) * (qK x.1 1))))), (18, .pointer (some ⟨(s.2.2.2.2.2.2), 0, none⟩))]) (fun s w' => Bx wr.heap.size wr w' [((s.2.2.2.2.2.2), zR)] [((s.1), (s.2.1), ((qK x.1 0) * (qK x.1 3))), ((s.2.2.1), (s.2.2.2.1), ((qK x.1 2) * (qK x.1 1))), ((s.2.2.2.2.1), (s.2.2.2.2.2.1), (((qK x.1 0) * (qK x.1 3)) - ((qK x.1 2) * (qK x.1 1))))]) ?_ ?_
      rotate_left
      · intro J0
        refine join_ (σ := Option Addr × Option Addr × Option Addr × Option Addr × Option Addr × Option Addr × Nat) 2 (bt 12 1023) (fun s => [(46, (qv (s.1) (s.2.1) ((qK x.1 0) * (qK x.1 3)))), (50, (qv (s.2.2.1) (s.2.2.2.1) ((qK x.1 2) * (qK x.1 1)))), (51, (qv (s.2.2.2.2.1) (s.2.2.2.2.2.1) (((qK x.1 0) * (qK x.1 3)) - ((qK x.1 2) * (qK x.1 1)))))]) (fun s w' => Bx wr.heap.size wr w' [] [((s.1), (s.2.1), ((qK x.1 0) * (qK x.1 3))), ((s.2.2.1), (s.2.2.2.1), ((qK x.1 2) * (qK x.1 1))), ((s.2.2.2.2.1), (s.2.2.2.2.2.1), (((qK x.1 0) * (qK x.1 3)) - ((qK x.1 2) * (qK x.1 1))))]) ?_ ?_
        · rintro ⟨P20_4, Q20_4, P20_8, Q20_8, P20_9, Q20_9, g20_10⟩ wj hF
          try dsimp only at hF ⊢
          refine nx ?_
          refine o1 10 18 (bt 12 2047) ?_
          · intro K hK
            refine al_ (.cells #[.bool false, .slice none 0 0, .slice none 0 0] 26) ?_
            have hN := hF.alloc zR
            refine hK.out _ _ (by exact (And.intro (hN.m.b.block _ (HM.out.lt 0 rfl)) (And.intro (hN.m.b.block _ (HM.out.lt 9 rfl)) (And.intro (hN.m.b.block _ (HM.out.lt 10 rfl)) (And.intro (hN.m.b.block _ (HM.out.lt 11 rfl)) (hN.m.b.block _ (HM.out.lt 12 rfl))))))) (fun hHeld => ?_)
            exact nj (J0 (P20_4, Q20_4, P20_8, Q20_8, P20_9, Q20_9, wj.heap.size) _ hN)
        intro J1
        refine join_ (σ := Option Addr × Option Addr × Option Addr × Option Addr × Option Addr × Option Addr × Nat) 2 (bt 12 1535) (fun s => [(46, (qv (s.1) (s.2.1) ((qK x.1 0) * (qK x.1 3)))), (50, (qv (s.2.2.1) (s.2.2.2.1) ((qK x.1 2) * (qK x.1 1)))), (18, .pointer (some ⟨(s.2.2.2.2.2.2), 0, none⟩))]) (fun s w' => Bx wr.heap.size wr w' [((s.2.2.2.2.2.2), zR)] [((s.1), (s.2.1), ((qK x.1 0) * (qK x.1 3))), ((s.2.2.1), (s.2.2.2.1), ((qK x.1 2) * (qK x.1 1)))]) ?_ ?_
        · rintro ⟨P20_4, Q20_4, P20_8, Q20_8, P20_9, Q20_9, g20_10⟩ wj hF
          try dsimp only at hF ⊢
          refine nx ?_
          refine o1 9 51 (bt 12 2047) ?_
          · intro K hK
            refine go_ Tryz.func123 #[.pointer (some ⟨s, 0, none⟩), .agg #[.bool (decide (((qK x.1 0) * (qK x.1 3)).num < 0)), .slice P20_4 (qn ((qK x.1 0) * (qK x.1 3))).length (qn ((qK x.1 0) * (qK x.1 3))).length, .slice Q20_4 (qd ((qK x.1 0) * (qK x.1 3))).length (qd ((qK x.1 0) * (qK x.1 3))).length], .agg #[.bool (decide (((qK x.1 2) * (qK x.1 1)).num < 0)), .slice P20_8 (qn ((qK x.1 2) * (qK x.1 1))).length (qn ((qK x.1 2) * (qK x.1 1))).length, .slice Q20_8 (qd ((qK x.1 2) * (qK x.1 1))).length (qd ((qK x.1 2) * (qK x.1 1))).length]] ?_
            refine (gSub s _ _ _ _ 0 wj.heap.size 2150 2150 ((qK x.1 0) * (qK x.1 3)) ((qK x.1 2) * (qK x.1 1)) wj (HS.out.keep (HM.out.keep hF.m.b).m.b) (hF.ins 0 rfl) (hF.ins 1 rfl) (Nat.le_refl _) HS6.out.1 HS6.out.2 (by omega)).mono ?_
            rintro e w' ⟨P20_9, Q20_9, rfl, hf, hb⟩
            refine ⟨_, rfl, ?_⟩
            have hN := hF.call hf hb
            refine hK.out _ _ (by exact (And.intro (hN.m.b.block _ (HM.out.lt 0 rfl)) (And.intro (hN.m.b.block _ (HM.out.lt 9 rfl)) (And.intro (hN.m.b.block _ (HM.out.lt 10 rfl)) (And.intro (hN.m.b.block _ (HM.out.lt 11 rfl)) (hN.m.b.block _ (HM.out.lt 12 rfl))))))) (fun hHeld => ?_)
            exact nj (J0 (P20_4, Q20_4, P20_8, Q20_8, P20_9, Q20_9, g20_10) _ hN)
        intro J2
        refine join_ (σ := Option Addr × Option Addr × Option Addr × Option Addr × Option Addr × Option Addr × Nat) 3 (bt 12 511) (fun s => [(46, (qv (s.1) (s.2.1) ((qK x.1 0) * (qK x.1 3)))), (50, (qv (s.2.2.1) (s.2.2.2.1) ((qK x.1 2) * (qK x.1 1))))]) (fun s w' => Bx wr.heap.size wr w' [] [((s.1), (s.2.1), ((qK x.1 0) * (qK x.1 3))), ((s.2.2.1), (s.2.2.2.1), ((qK x.1 2) * (qK x.1 1)))]) ?_ ?_
        · rintro ⟨P20_4, Q20_4, P20_8, Q20_8, P20_9, Q20_9, g20_10⟩ wj hF
          try dsimp only at hF ⊢
          refine nx ?_
          refine o2 9 51 10 18 (bt 12 1023) (bt 12 1535) ?_ ?_
          · intro K hK
            refine go_ Tryz.func123 #[.pointer (some ⟨s, 0, none⟩), .agg #[.bool (decide (((qK x.1 0) * (qK x.1 3)).num < 0)), .slice P20_4 (qn ((qK x.1 0) * (qK x.1 3))).length (qn ((qK x.1 0) * (qK x.1 3))).length, .slice Q20_4 (qd ((qK x.1 0) * (qK x.1 3))).length (qd ((qK x.1 0) * (qK x.1 3))).length], .agg #[.bool (decide (((qK x.1 2) * (qK x.1 1)).num < 0)), .slice P20_8 (qn ((qK x.1 2) * (qK x.1 1))).length (qn ((qK x.1 2) * (qK x.1 1))).length, .slice Q20_8 (qd ((qK x.1 2) * (qK x.1 1))).length (qd ((qK x.1 2) * (qK x.1 1))).length]] ?_
            refine (gSub s _ _ _ _ 0 wj.heap.size 2150 2150 ((qK x.1 0) * (qK x.1 3)) ((qK x.1 2) * (qK x.1 1)) wj (HS.out.keep (HM.out.keep hF.m.b).m.b) (hF.ins 0 rfl) (hF.ins 1 rfl) (Nat.le_refl _) HS6.out.1 HS6.out.2 (by omega)).mono ?_
            rintro e w' ⟨P20_9, Q20_9, rfl, hf, hb⟩
            refine ⟨_, rfl, ?_⟩
            have hN := hF.call hf hb
            refine hK.out _ _ (by exact (And.intro (hN.m.b.block _ (HM.out.lt 0 rfl)) (And.intro (hN.m.b.block _ (HM.out.lt 9 rfl)) (And.intro (hN.m.b.block _ (HM.out.lt 10 rfl)) (And.intro (hN.m.b.block _ (HM.out.lt 11 rfl)) (hN.m.b.block _ (HM.out.lt 12 rfl))))))) (fun hHeld => ?_)
            exact nj (J1 (P20_4, Q20_4, P20_8, Q20_8, P20_9, Q20_9, g20_10) _ hN)
          · intro K hK
            refine al_ (.cells #[.bool false, .slice none 0 0, .slice none 0 0] 26) ?_
            have hN := hF.alloc zR
            refine hK.out _ _ (by exact (And.intro (hN.m.b.block _ (HM.out.lt 0 rfl)) (And.intro (hN.m.b.block _ (HM.out.lt 9 rfl)) (And.intro (hN.m.b.block _ (HM.out.lt 10 rfl)) (And.intro (hN.m.b.block _ (HM.out.lt 11 rfl)) (hN.m.b.block _ (HM.out.lt 12 rfl))))))) (fun hHeld => ?_)
            exact nj (J2 (P20_4, Q20_4, P20_8, Q20_8, P20_9, Q20_9, wj.heap.size) _ hN)
        intro J3
        refine join_ (σ := Option Addr × Option Addr × Option Addr × Option Addr × Option Addr × Option Addr × Nat) 3 (bt 12 1279) (fun s => [(46, (qv (s.1) (s.2.1) ((qK x.1 0) * (qK x.1 3)))), (18, .pointer (some ⟨(s.2.2.2.2.2.2), 0, none⟩))]) (fun s w' => Bx wr.heap.size wr w' [((s.2.2.2.2.2.2), zR)] [((s.1), (s.2.1), ((qK x.1 0) * (qK x.1 3)))]) ?_ ?_
        · rintro ⟨P20_4, Q20_4, P20_8, Q20_8, P20_9, Q20_9, g20_10⟩ wj hF
          try dsimp only at hF ⊢
          refine nx ?_
          refine o1 8 50 (bt 12 1535) ?_
          · intro K hK
            refine go_ Tryz.func62 #[.pointer (some ⟨s, 0, none⟩), .agg #[.bool (decide ((qK x.1 2).num < 0)), .slice E2 (qn (qK x.1 2)).length (qn (qK x.1 2)).length, .slice F2 (qd (qK x.1 2)).length (qd (qK x.1 2)).length], .agg #[.bool (decide ((qK x.1 1).num < 0)), .slice E1 (qn (qK x.1 1)).length (qn (qK x.1 1)).length, .slice F1 (qd (qK x.1 1)).length (qd (qK x.1 1)).length]] ?_
            refine (gMul s E2 F2 E1 F1 0 wj.heap.size 1075 1075 (qK x.1 2) (qK x.1 1) wj (HS.out.keep (HM.out.keep hF.m.b).m.b) ((HM.out.keep hF.m.b).ins 5 rfl) ((HM.out.keep hF.m.b).ins 4 rfl) (Nat.le_refl _) (HSZ.out 2) (HSZ.out 1) (by omega)).mono ?_
            rintro e w' ⟨P20_8, Q20_8, rfl, hf, hb⟩
            refine ⟨_, rfl, ?_⟩
            have hN := hF.call hf hb
            refine hK.out _ _ (by exact (And.intro (hN.m.b.block _ (HM.out.lt 0 rfl)) (And.intro (hN.m.b.block _ (HM.out.lt 9 rfl)) (And.intro (hN.m.b.block _ (HM.out.lt 10 rfl)) (And.intro (hN.m.b.block _ (HM.out.lt 11 rfl)) (hN.m.b.block _ (HM.out.lt 12 rfl))))))) (fun hHeld => ?_)
            exact nj (J2 (P20_4, Q20_4, P20_8, Q20_8, P20_9, Q20_9, g20_10) _ hN)
        intro J4
        refine join_ (σ := Option Addr × Option Addr × Option Addr × Option Addr × Option Addr × Option Addr × Nat) 4 (bt 12 255) (fun s => [(46, (qv (s.1) (s.2.1) ((qK x.1 0) * (qK x.1 3))))]) (fun s w' => Bx wr.heap.size wr w' [] [((s.1), (s.2.1), ((qK x.1 0) * (qK x.1 3)))]) ?_ ?_
        · rintro ⟨P20_4, Q20_4, P20_8, Q20_8, P20_9, Q20_9, g20_10⟩ wj hF
          try dsimp only at hF ⊢
          refine nx ?_
          refine o2 8 50 10 18 (bt 12 511) (bt 12 1279) ?_ ?_
          · intro K hK
            refine go_ Tryz.func62 #[.pointer (some ⟨s, 0, none⟩), .agg #[.bool (decide ((qK x.1 2).num < 0)), .slice E2 (qn (qK x.1 2)).length (qn (qK x.1 2)).length, .slice F2 (qd (qK x.1 2)).length (qd (qK x.1 2)).length], .agg #[.bool (decide ((qK x.1 1).num < 0)), .slice E1 (qn (qK x.1 1)).length (qn (qK x.1 1)).length, .slice F1 (qd (qK x.1 1)).length (qd (qK x.1 1)).length]] ?_
            refine (gMul s E2 F2 E1 F1 0 wj.heap.size 1075 1075 (qK x.1 2) (qK x.1 1) wj (HS.out.keep (HM.out.keep hF.m.b).m.b) ((HM.out.keep hF.m.b).ins 5 rfl) ((HM.out.keep hF.m.b).ins 4 rfl) (Nat.le_refl _) (HSZ.out 2) (HSZ.out 1) (by omega)).mono ?_
            rintro e w' ⟨P20_8, Q20_8, rfl, hf, hb⟩
            refine ⟨_, rfl, ?_⟩
            have hN := hF.call hf hb
            refine hK.out _ _ (by exact (And.intro (hN.m.b.block _ (HM.out.lt 0 rfl)) (And.intro (hN.m.b.block _ (HM.out.lt 9 rfl)) (And.intro (hN.m.b.block _ (HM.out.lt 10 rfl)) (And.intro (hN.m.b.block _ (HM.out.lt 11 rfl)) (hN.m.b.block _ (HM.out.lt 12 rfl))))))) (fun hHeld => ?_)
            exact nj (J3 (P20_4, Q20_4, P20_8, Q20_8, P20_9, Q20_9, g20_10) _ hN)
          · intro K hK
            refine al_ (.cells #[.bool false, .slice none 0 0, .slice none 0 0] 26) ?_
            have hN := hF.alloc zR
            refine hK.out _ _ (by exact (And.intro (hN.m.b.block _ (HM.out.lt 0 rfl)) (And.intro (hN.m.b.block _ (HM.out.lt 9 rfl)) (And.intro (hN.m.b.block _ (HM.out.lt 10 rfl)) (And.intro (hN.m.b.block _ (HM.out.lt 11 rfl)) (hN.m.b.block _ (HM.out.lt 12 rfl))))))) (fun hHeld => ?_)
            exact nj (J4 (P20_4, Q20_4, P20_8, Q20_8, P20_9, Q20_9, wj.heap.size) _ hN)
        intro J5
        refine join_ (σ := Option Addr × Option Addr × Option Addr × Option Addr × Option Addr × Option Addr × Nat) 4 (bt 12 1263) (fun s => [(18, .pointer (some ⟨(s.2.2.2.2.2.2), 0, none⟩))]) (fun s w' => Bx wr.heap.size wr w' [((s.2.2.2.2.2.2), zR)] []) ?_ ?_
        · rintro ⟨P20_4, Q20_4, P20_8, Q20_8, P20_9, Q20_9, g20_10⟩ wj hF
          try dsimp only at hF ⊢
          refine nx ?_
          refine o1 4 46 (bt 12 1279) ?_
          · intro K hK
            refine go_ Tryz.func62 #[.pointer (some ⟨s, 0, none⟩), .agg #[.bool (decide ((qK x.1 0).num < 0)), .slice E0 (qn (qK x.1 0)).length (qn (qK x.1 0)).length, .slice F0 (qd (qK x.1 0)).length (qd (qK x.1 0)).length], .agg #[.bool (decide ((qK x.1 3).num < 0)), .slice E3 (qn (qK x.1 3)).length (qn (qK x.1 3)).length, .slice F3 (qd (qK x.1 3)).length (qd (qK x.1 3)).length]] ?_
            refine (gMul s E0 F0 E3 F3 0 wj.heap.size 1075 1075 (qK x.1 0) (qK x.1 3) wj (HS.out.keep (HM.out.keep hF.m.b).m.b) ((HM.out.keep hF.m.b).ins 3 rfl) ((HM.out.keep hF.m.b).ins 6 rfl) (Nat.le_refl _) (HSZ.out 0) (HSZ.out 3) (by omega)).mono ?_
            rintro e w' ⟨P20_4, Q20_4, rfl, hf, hb⟩
            refine ⟨_, rfl, ?_⟩
            have hN := hF.call hf hb
            refine hK.out _ _ (by exact (And.intro (hN.m.b.block _ (HM.out.lt 0 rfl)) (And.intro (hN.m.b.block _ (HM.out.lt 9 rfl)) (And.intro (hN.m.b.block _ (HM.out.lt 10 rfl)) (And.intro (hN.m.b.block _ (HM.out.lt 11 rfl)) (hN.m.b.block _ (HM.out.lt 12 rfl))))))) (fun hHeld => ?_)
            exact nj (J4 (P20_4, Q20_4, P20_8, Q20_8, P20_9, Q20_9, g20_10) _ hN)
        intro J6
        refine join_ (σ := Option Addr × Option Addr × Option Addr × Option Addr × Option Addr × Option Addr × Nat) 5 (bt 12 239) (fun s => []) (fun s w' => Bx wr.heap.size wr w' [] []) ?_ ?_
        · rintro ⟨P20_4, Q20_4, P20_8, Q20_8, P20_9, Q20_9, g20_10⟩ wj hF
          try dsimp only at hF ⊢
          refine nx ?_
          refine o2 4 46 10 18 (bt 12 255) (bt 12 1263) ?_ ?_
          · intro K hK
            refine go_ Tryz.func62 #[.pointer (some ⟨s, 0, none⟩), .agg #[.bool (decide ((qK x.1 0).num < 0)), .slice E0 (qn (qK x.1 0)).length (qn (qK x.1 0)).length, .slice F0 (qd (qK x.1 0)).length (qd (qK x.1 0)).length], .agg #[.bool (decide ((qK x.1 3).num < 0)), .slice E3 (qn (qK x.1 3)).length (qn (qK x.1 3)).length, .slice F3 (qd (qK x.1 3)).length (qd (qK x.1 3)).length]] ?_
            refine (gMul s E0 F0 E3 F3 0 wj.heap.size 1075 1075 (qK x.1 0) (qK x.1 3) wj (HS.out.keep (HM.out.keep hF.m.b).m.b) ((HM.out.keep hF.m.b).ins 3 rfl) ((HM.out.keep hF.m.b).ins 6 rfl) (Nat.le_refl _) (HSZ.out 0) (HSZ.out 3) (by omega)).mono ?_
            rintro e w' ⟨P20_4, Q20_4, rfl, hf, hb⟩
            refine ⟨_, rfl, ?_⟩
            have hN := hF.call hf hb
            refine hK.out _ _ (by exact (And.intro (hN.m.b.block _ (HM.out.lt 0 rfl)) (And.intro (hN.m.b.block _ (HM.out.lt 9 rfl)) (And.intro (hN.m.b.block _ (HM.out.lt 10 rfl)) (And.intro (hN.m.b.block _ (HM.out.lt 11 rfl)) (hN.m.b.block _ (HM.out.lt 12 rfl))))))) (fun hHeld => ?_)
            exact nj (J5 (P20_4, Q20_4, P20_8, Q20_8, P20_9, Q20_9, g20_10) _ hN)
          · intro K hK
            refine al_ (.cells #[.bool false, .slice none 0 0, .slice none 0 0] 26) ?_
            have hN := hF.alloc zR
            refine hK.out _ _ (by exact (And.intro (hN.m.b.block _ (HM.out.lt 0 rfl)) (And.intro (hN.m.b.block _ (HM.out.lt 9 rfl)) (And.intro (hN.m.b.block _ (HM.out.lt 10 rfl)) (And.intro (hN.m.b.block _ (HM.out.lt 11 rfl)) (hN.m.b.block _ (HM.out.lt 12 rfl))))))) (fun hHeld => ?_)
            exact nj (J6 (P20_4, Q20_4, P20_8, Q20_8, P20_9, Q20_9, wj.heap.size) _ hN)
        intro J7
        exact nj (J7 (none, none, none, none, none, none, 0) _ ((Bx.start _).drew))
      rintro ⟨P20_4, Q20_4, P20_8, Q20_8, P20_9, Q20_9, g20_10⟩ wj hF
      try dsimp only at hF ⊢
      refine nx ?_
      replace HKO := Lib.hid (HKO.out.trans (below_keeps hF.m.b))
      have hG := HM.out.join hF
      (try simp only [List.nil_append, List.cons_append, World.size_alloc, List.set_cons_zero, List.set_cons_succ, putsC, pB, pC, pD] at hG)
      have hHeld := And.intro True.intro (And.intro (hF.m.b.block _ (HM.out.lt 0 rfl)) (And.intro (hF.m.b.block _ (HM.out.lt 9 rfl)) (And.intro (hF.m.b.block _ (HM.out.lt 10 rfl)) (And.intro (hF.m.b.block _ (HM.out.lt 11 rfl)) (hF.m.b.block _ (HM.out.lt 12 rfl))))))
      clear HM hF
      refine last_ (i := 11) (N := none) (bt 12 4095) rfl rfl (by kernel_rfl) (by decide) (fun K hK => ?_)
      obtain ⟨y0, y1, y2, y3, y4, y5⟩ := rw3 (hG.at 13 rfl)
      refine skip_ (w1 := puts (g20_10) [(0, .bool (decide ((((qK x.1 0) * (qK x.1 3)) - ((qK x.1 2) * (qK x.1 1))).num < 0))), (1, .slice P20_9 (qn (((qK x.1 0) * (qK x.1 3)) - ((qK x.1 2) * (qK x.1 1)))).length (qn (((qK x.1 0) * (qK x.1 3)) - ((qK x.1 2) * (qK x.1 1)))).length), (2, .slice Q20_9 (qd (((qK x.1 0) * (qK x.1 3)) - ((qK x.1 2) * (qK x.1 1)))).length (qd (((qK x.1 0) * (qK x.1 3)) - ((qK x.1 2) * (qK x.1 1)))).length)] wj) (by rfl) rfl ?_ ?_
      · go_simp
        rfl
      refine hK.out _ _ ?_
      clear hK K y0 y1 y2 y3 y4 y5
      replace HKO := Lib.hid (HKO.out.trans (puts_keeps (g20_10) [(0, .bool (decide ((((qK x.1 0) * (qK x.1 3)) - ((qK x.1 2) * (qK x.1 1))).num < 0))), (1, .slice P20_9 (qn (((qK x.1 0) * (qK x.1 3)) - ((qK x.1 2) * (qK x.1 1)))).length (qn (((qK x.1 0) * (qK x.1 3)) - ((qK x.1 2) * (qK x.1 1)))).length), (2, .slice Q20_9 (qd (((qK x.1 0) * (qK x.1 3)) - ((qK x.1 2) * (qK x.1 1)))).length (qd (((qK x.1 0) * (qK x.1 3)) - ((qK x.1 2) * (qK x.1 1)))).length)] _))
      replace hG := hG.puts 13 rfl (by decide) [(0, .bool (decide ((((qK x.1 0) * (qK x.1 3)) - ((qK x.1 2) * (qK x.1 1))).num < 0))), (1, .slice P20_9 (qn (((qK x.1 0) * (qK x.1 3)) - ((qK x.1 2) * (qK x.1 1)))).length (qn (((qK x.1 0) * (qK x.1 3)) - ((qK x.1 2) * (qK x.1 1)))).length), (2, .slice Q20_9 (qd (((qK x.1 0) * (qK x.1 3)) - ((qK x.1 2) * (qK x.1 1)))).length (qd (((qK x.1 0) * (qK x.1 3)) - ((qK x.1 2) * (qK x.1 1)))).length)]
      (try simp only [List.nil_append, List.cons_append, World.size_alloc, List.set_cons_zero, List.set_cons_succ, putsC, pB, pC, pD] at hG)
      generalize puts (g20_10) _ wj = wk21 at *
      refine done_ (by kernel_rfl) ?_
      (try simp only [List.nil_append, List.cons_append, World.size_alloc, List.set_cons_zero, List.set_cons_succ, putsC, pB, pC, pD] at hG)
      have HM := Lib.hid hG
      clear hG hHeld
      generalize hcr : qK x.1 0 * qK x.1 3 - qK x.1 2 * qK x.1 1 = cr at *
      (repeat (first | (refine plainR (by kernel_rfl) (by rintro ⟨_, _, h⟩; exact h) ?_) | gi_step))
      obtain ⟨c0_0, c0_1⟩ := rw1 (HM.out.at 0 rfl)
      obtain ⟨c5_0, c5_1, c5_2, c5_3, c5_4, c5_5⟩ := rw3 (HM.out.at 5 rfl)
      obtain ⟨c13_0, c13_1, c13_2, c13_3, c13_4, c13_5⟩ := rw3 (HM.out.at 13 rfl)
      have HK := Lib.hid (gAdd s _ _ _ _ 0 wk21.heap.size 4210 4301 qa cr wk21 (HS.out.keep HM.out.m.b) (HM.out.ins 0 rfl) (HM.out.ins 9 rfl) (Nat.le_refl _) HS7.out.1 HS7.out.2 (by omega))
      unfold qv at HK
      ((try dsimp only); repeat (first | go_values | go_skip | go_guarded | go_step | go_upon))
      refine HK.out.mono ?_
      rintro e w22 ⟨P22, Q22, rfl, hf, hb⟩
      replace HKO := Lib.hid (HKO.out.trans (below_keeps hb))
      have hm := (HM.out.call hf hb)
      clear HK HM hf hb c0_0 c0_1 c5_0 c5_1 c5_2 c5_3 c5_4 c5_5 c13_0 c13_1 c13_2 c13_3 c13_4 c13_5
      (try simp only [List.nil_append, List.cons_append, World.size_alloc, List.set_cons_zero, List.set_cons_succ, putsC, pB, pC, pD] at hm)
      have HM := Lib.hid hm
      clear hm
      obtain ⟨c5_0, c5_1, c5_2, c5_3, c5_4, c5_5⟩ := rw3 (HM.out.at 5 rfl)
      replace HKO : Hid (KeepsOthers W (World.setCell (World.setCell (World.setCell w22 ⟨w3.heap.size, 0, none⟩ (.bool (decide ((qa + cr).num < 0)))) ⟨w3.heap.size, 1, none⟩ (.slice P22 (qn (qa + cr)).length (qn (qa + cr)).length)) ⟨w3.heap.size, 2, none⟩ (.slice Q22 (qd (qa + cr)).length (qd (qa + cr)).length))) := Lib.hid (HKO.out.trans (((KeepsOthers.setCell _ _ _).trans (KeepsOthers.setCell _ _ _)).trans (KeepsOthers.setCell _ _ _)))
      have hm : Bx w.heap.size w (World.setCell (World.setCell (World.setCell w22 ⟨w3.heap.size, 0, none⟩ (.bool (decide ((qa + cr).num < 0)))) ⟨w3.heap.size, 1, none⟩ (.slice P22 (qn (qa + cr)).length (qn (qa + cr)).length)) ⟨w3.heap.size, 2, none⟩ (.slice Q22 (qd (qa + cr)).length (qd (qa + cr)).length)) _ _ := (HM.out.puts 5 rfl (by decide) [(0, .bool (decide ((qa + cr).num < 0))), (1, .slice P22 (qn (qa + cr)).length (qn (qa + cr)).length), (2, .slice Q22 (qd (qa + cr)).length (qd (qa + cr)).length)])
      ((try dsimp only); repeat (first | go_values | go_skip | go_guarded | go_step | go_upon))
      generalize World.setCell (World.setCell (World.setCell w22 _ _) _ _) _ _ = v7 at *
      (try simp only [List.nil_append, List.cons_append, World.size_alloc, List.set_cons_zero, List.set_cons_succ, putsC, pB, pC, pD] at hm)
      have HM := Lib.hid hm
      clear hm
      (repeat (first | (refine plainR (by kernel_rfl) (by rintro ⟨_, _, h⟩; exact h) ?_) | gi_step))
      obtain ⟨m0, m1⟩ := rw1 (HM.out.at 1 rfl)
      ((try dsimp only); repeat (first | go_values | go_skip | go_guarded | go_step | go_upon))
      clear m0 m1
      cases mo with
      | false =>
        ((try dsimp only); repeat (first | go_values | gi_guarded | gi_step | gi_upon))
        exact ⟨HKO.out.from _, kpb_via hB HM.out HKO.out.size rfl rfl, P22, Q22, A2, B2, A3, B3, HE.out _ _ _ _ _ _ _ (HM.out.sel (fun i => i) (fun i y e => pre_get ⟨[_, _, _, _, _], rfl⟩ e) (fun i j _ _ h => h) (mem3 10 1 2 rfl rfl rfl))⟩
      | true =>
        ((try dsimp only); repeat (first | go_values | gi_guarded | gi_step | gi_upon))
        refine startR (n := 11) (S := fun w' => w'.heap[w.heap.size]? = v7.heap[w.heap.size]? ∧ w'.heap[w3.heap.size + 1]? = v7.heap[w3.heap.size + 1]? ∧ w'.heap[b0]? = v7.heap[b0]? ∧ w'.heap[b2]? = v7.heap[b2]? ∧ w'.heap[g20_10]? = v7.heap[g20_10]?) (ds := [10]) (bt 11 0) (by kernel_rfl) (by kernel_rfl) (by rintro ⟨_, _, h⟩; exact h) rfl rfl ((And.intro rfl (And.intro rfl (And.intro rfl (And.intro rfl rfl))))) (fun hHeld => ?_)
        refine ld_ 0 57 ?_ hHeld ?_ ?_; rotate_left
        · rintro w' hs
          obtain ⟨q0, q1⟩ := rw1 ((hs.1).trans (HM.out.at 0 rfl))
          clear hs
          go_simp; with_reducible rfl
        refine ld_ 1 58 ?_ hHeld ?_ ?_; rotate_left
        · rintro w' hs
          obtain ⟨q0, q1, q2, q3, q4, q5⟩ := rw3 ((hs.2.1).trans (HM.out.at 6 rfl))
          clear hs
          go_simp; with_reducible rfl
        refine ld_ 2 59 ?_ hHeld ?_ ?_; rotate_left
        · rintro w' hs
          obtain ⟨q0, q1⟩ := rw1 ((hs.1).trans (HM.out.at 0 rfl))
          clear hs
          go_simp; with_reducible rfl
        refine ld_ 3 60 ?_ hHeld ?_ ?_; rotate_left
        · rintro w' hs
          obtain ⟨q0, q1⟩ := rw1 ((hs.1).trans (HM.out.at 0 rfl))
          clear hs
          go_simp; with_reducible rfl
        refine ld_ 4 61 ?_ hHeld ?_ ?_; rotate_left
        · rintro w' hs
          obtain ⟨q0, q1, q2, q3, q4, q5⟩ := rw3 ((hs.2.2.1).trans (HM.out.at 9 rfl))
          clear hs
          go_simp; with_reducible rfl
        refine ld_ 5 62 ?_ hHeld ?_ ?_; rotate_left
        · rintro w' hs
          obtain ⟨q0, q1, q2, q3, q4, q5⟩ := rw3 ((hs.2.2.2.1).trans (HM.out.at 11 rfl))
          clear hs
          go_simp; with_reducible rfl
        refine ld_ 7 64 ?_ hHeld ?_ ?_; rotate_left
        · rintro w' hs
          obtain ⟨q0, q1, q2, q3, q4, q5⟩ := rw3 ((hs.2.2.2.2).trans (HM.out.at 13 rfl))
          clear hs
          go_simp; with_reducible rfl
        refine join_ (σ := Option Addr × Option Addr × Option Addr × Option Addr × Option Addr × Option Addr) 1 (bt 11 1023) (fun s => [(63, (qv (s.1) (s.2.1) ((qK x.1 0) + (qK x.1 2)))), (65, (qv (s.2.2.1) (s.2.2.2.1) (((qK x.1 0) + (qK x.1 2)) * cr))), (66, (qv (s.2.2.2.2.1) (s.2.2.2.2.2) (qx + (((qK x.1 0) + (qK x.1 2)) * cr))))]) (fun s w' => Bx v7.heap.size v7 w' [] [((s.1), (s.2.1), ((qK x.1 0) + (qK x.1 2))), ((s.2.2.1), (s.2.2.2.1), (((qK x.1 0) + (qK x.1 2)) * cr)), ((s.2.2.2.2.1), (s.2.2.2.2.2), (qx + (((qK x.1 0) + (qK x.1 2)) * cr)))]) ?_ ?_
        rotate_left
        · intro J0
          refine join_ (σ := Option Addr × Option Addr × Option Addr × Option Addr × Option Addr × Option Addr) 2 (bt 11 511) (fun s => [(63, (qv (s.1) (s.2.1) ((qK x.1 0) + (qK x.1 2)))), (65, (qv (s.2.2.1) (s.2.2.2.1) (((qK x.1 0) + (qK x.1 2)) * cr)))]) (fun s w' => Bx v7.heap.size v7 w' [] [((s.1), (s.2.1), ((qK x.1 0) + (qK x.1 2))), ((s.2.2.1), (s.2.2.2.1), (((qK x.1 0) + (qK x.1 2)) * cr))]) ?_ ?_
          · rintro ⟨P23_6, Q23_6, P23_8, Q23_8, P23_9, Q23_9⟩ wj hF
            try dsimp only at hF ⊢
            refine nx ?_
            refine o1 9 66 (bt 11 1023) ?_
            · intro K hK
              refine go_ Tryz.func63 #[.pointer (some ⟨s, 0, none⟩), .agg #[.bool (decide (qx.num < 0)), .slice A2 (qn qx).length (qn qx).length, .slice B2 (qd qx).length (qd qx).length], .agg #[.bool (decide ((((qK x.1 0) + (qK x.1 2)) * cr).num < 0)), .slice P23_8 (qn (((qK x.1 0) + (qK x.1 2)) * cr)).length (qn (((qK x.1 0) + (qK x.1 2)) * cr)).length, .slice Q23_8 (qd (((qK x.1 0) + (qK x.1 2)) * cr)).length (qd (((qK x.1 0) + (qK x.1 2)) * cr)).length]] ?_
              refine (gAdd s _ _ _ _ 0 wj.heap.size 6310 6452 qx (((qK x.1 0) + (qK x.1 2)) * cr) wj (HS.out.keep (HM.out.keep hF.m.b).m.b) ((HM.out.keep hF.m.b).ins 1 rfl) (hF.ins 1 rfl) (Nat.le_refl _) HS9.out.2.1 HS9.out.2.2 (by omega)).mono ?_
              rintro e w' ⟨P23_9, Q23_9, rfl, hf, hb⟩
              refine ⟨_, rfl, ?_⟩
              have hN := hF.call hf hb
              refine hK.out _ _ (by exact (And.intro (hN.m.b.block _ (HM.out.lt 0 rfl)) (And.intro (hN.m.b.block _ (HM.out.lt 6 rfl)) (And.intro (hN.m.b.block _ (HM.out.lt 9 rfl)) (And.intro (hN.m.b.block _ (HM.out.lt 11 rfl)) (hN.m.b.block _ (HM.out.lt 13 rfl))))))) (fun hHeld => ?_)
              exact nj (J0 (P23_6, Q23_6, P23_8, Q23_8, P23_9, Q23_9) _ hN)
          intro J1
          refine join_ (σ := Option Addr × Option Addr × Option Addr × Option Addr × Option Addr × Option Addr) 3 (bt 11 255) (fun s => [(63, (qv (s.1) (s.2.1) ((qK x.1 0) + (qK x.1 2))))]) (fun s w' => Bx v7.heap.size v7 w' [] [((s.1), (s.2.1), ((qK x.1 0) + (qK x.1 2)))]) ?_ ?_
          · rintro ⟨P23_6, Q23_6, P23_8, Q23_8, P23_9, Q23_9⟩ wj hF
            try dsimp only at hF ⊢
            refine nx ?_
            refine o1 8 65 (bt 11 511) ?_
            · intro K hK
              refine go_ Tryz.func62 #[.pointer (some ⟨s, 0, none⟩), .agg #[.bool (decide (((qK x.1 0) + (qK x.1 2)).num < 0)), .slice P23_6 (qn ((qK x.1 0) + (qK x.1 2))).length (qn ((qK x.1 0) + (qK x.1 2))).length, .slice Q23_6 (qd ((qK x.1 0) + (qK x.1 2))).length (qd ((qK x.1 0) + (qK x.1 2))).length], .agg #[.bool (decide (cr.num < 0)), .slice P20_9 (qn cr).length (qn cr).length, .slice Q20_9 (qd cr).length (qd cr).length]] ?_
              refine (gMul s _ _ _ _ 0 wj.heap.size 2151 4301 ((qK x.1 0) + (qK x.1 2)) cr wj (HS.out.keep (HM.out.keep hF.m.b).m.b) (hF.ins 0 rfl) ((HM.out.keep hF.m.b).ins 9 rfl) (Nat.le_refl _) HS9.out.1 HS7.out.2 (by omega)).mono ?_
              rintro e w' ⟨P23_8, Q23_8, rfl, hf, hb⟩
              refine ⟨_, rfl, ?_⟩
              have hN := hF.call hf hb
              refine hK.out _ _ (by exact (And.intro (hN.m.b.block _ (HM.out.lt 0 rfl)) (And.intro (hN.m.b.block _ (HM.out.lt 6 rfl)) (And.intro (hN.m.b.block _ (HM.out.lt 9 rfl)) (And.intro (hN.m.b.block _ (HM.out.lt 11 rfl)) (hN.m.b.block _ (HM.out.lt 13 rfl))))))) (fun hHeld => ?_)
              exact nj (J1 (P23_6, Q23_6, P23_8, Q23_8, P23_9, Q23_9) _ hN)
          intro J2
          refine join_ (σ := Option Addr × Option Addr × Option Addr × Option Addr × Option Addr × Option Addr) 4 (bt 11 191) (fun s => []) (fun s w' => Bx v7.heap.size v7 w' [] []) ?_ ?_
          · rintro ⟨P23_6, Q23_6, P23_8, Q23_8, P23_9, Q23_9⟩ wj hF
            try dsimp only at hF ⊢
            refine nx ?_
            refine o1 6 63 (bt 11 255) ?_
            · intro K hK
              refine go_ Tryz.func63 #[.pointer (some ⟨s, 0, none⟩), .agg #[.bool (decide ((qK x.1 0).num < 0)), .slice E0 (qn (qK x.1 0)).length (qn (qK x.1 0)).length, .slice F0 (qd (qK x.1 0)).length (qd (qK x.1 0)).length], .agg #[.bool (decide ((qK x.1 2).num < 0)), .slice E2 (qn (qK x.1 2)).length (qn (qK x.1 2)).length, .slice F2 (qd (qK x.1 2)).length (qd (qK x.1 2)).length]] ?_
              refine (gAdd s _ _ _ _ 0 wj.heap.size 1075 1075 (qK x.1 0) (qK x.1 2) wj (HS.out.keep (HM.out.keep hF.m.b).m.b) ((HM.out.keep hF.m.b).ins 3 rfl) ((HM.out.keep hF.m.b).ins 5 rfl) (Nat.le_refl _) (HSZ.out 0) (HSZ.out 2) (by omega)).mono ?_
              rintro e w' ⟨P23_6, Q23_6, rfl, hf, hb⟩
              refine ⟨_, rfl, ?_⟩
              have hN := hF.call hf hb
              refine hK.out _ _ (by exact (And.intro (hN.m.b.block _ (HM.out.lt 0 rfl)) (And.intro (hN.m.b.block _ (HM.out.lt 6 rfl)) (And.intro (hN.m.b.block _ (HM.out.lt 9 rfl)) (And.intro (hN.m.b.block _ (HM.out.lt 11 rfl)) (hN.m.b.block _ (HM.out.lt 13 rfl))))))) (fun hHeld => ?_)
              exact nj (J2 (P23_6, Q23_6, P23_8, Q23_8, P23_9, Q23_9) _ hN)
          intro J3
          exact nj (J3 (none, none, none, none, none, none) _ ((Bx.start _).drew))
        rintro ⟨P23_6, Q23_6, P23_8, Q23_8, P23_9, Q23_9⟩ wj hF
        try dsimp only at hF ⊢
        refine nx ?_
        replace HKO := Lib.hid (HKO.out.trans (below_keeps hF.m.b))
        have hG := HM.out.join hF
        (try simp only [List.nil_append, List.cons_append, World.size_alloc, List.set_cons_zero, List.set_cons_succ, putsC, pB, pC, pD] at hG)
        have hHeld := And.intro True.intro (And.intro (hF.m.b.block _ (HM.out.lt 0 rfl)) (And.intro (hF.m.b.block _ (HM.out.lt 6 rfl)) (And.intro (hF.m.b.block _ (HM.out.lt 9 rfl)) (And.intro (hF.m.b.block _ (HM.out.lt 11 rfl)) (hF.m.b.block _ (HM.out.lt 13 rfl))))))
        clear HM hF
        refine last_ (i := 10) (N := none) (bt 11 2047) rfl rfl (by kernel_rfl) (by decide) (fun K hK => ?_)
        obtain ⟨y0, y1, y2, y3, y4, y5⟩ := rw3 (hG.at 6 rfl)
        refine skip_ (w1 := puts (w3.heap.size + 1) [(0, .bool (decide ((qx + (((qK x.1 0) + (qK x.1 2)) * cr)).num < 0))), (1, .slice P23_9 (qn (qx + (((qK x.1 0) + (qK x.1 2)) * cr))).length (qn (qx + (((qK x.1 0) + (qK x.1 2)) * cr))).length), (2, .slice Q23_9 (qd (qx + (((qK x.1 0) + (qK x.1 2)) * cr))).length (qd (qx + (((qK x.1 0) + (qK x.1 2)) * cr))).length)] wj) (by rfl) rfl ?_ ?_
        · go_simp
          rfl
        refine hK.out _ _ ?_
        clear hK K y0 y1 y2 y3 y4 y5
        replace HKO := Lib.hid (HKO.out.trans (puts_keeps (w3.heap.size + 1) [(0, .bool (decide ((qx + (((qK x.1 0) + (qK x.1 2)) * cr)).num < 0))), (1, .slice P23_9 (qn (qx + (((qK x.1 0) + (qK x.1 2)) * cr))).length (qn (qx + (((qK x.1 0) + (qK x.1 2)) * cr))).length), (2, .slice Q23_9 (qd (qx + (((qK x.1 0) + (qK x.1 2)) * cr))).length (qd (qx + (((qK x.1 0) + (qK x.1 2)) * cr))).length)] _))
        replace hG := hG.puts 6 rfl (by decide) [(0, .bool (decide ((qx + (((qK x.1 0) + (qK x.1 2)) * cr)).num < 0))), (1, .slice P23_9 (qn (qx + (((qK x.1 0) + (qK x.1 2)) * cr))).length (qn (qx + (((qK x.1 0) + (qK x.1 2)) * cr))).length), (2, .slice Q23_9 (qd (qx + (((qK x.1 0) + (qK x.1 2)) * cr))).length (qd (qx + (((qK x.1 0) + (qK x.1 2)) * cr))).length)]
        (try simp only [List.nil_append, List.cons_append, World.size_alloc, List.set_cons_zero, List.set_cons_succ, putsC, pB, pC, pD] at hG)
        generalize puts (w3.heap.size + 1) _ wj = wk24 at *
        refine done_ (by kernel_rfl) ?_
        (try simp only [List.nil_append, List.cons_append, World.size_alloc, List.set_cons_zero, List.set_cons_succ, putsC, pB, pC, pD] at hG)
        have HM := Lib.hid hG
        clear hG hHeld
        ((try dsimp only); repeat (first | go_values | gi_guarded | gi_step | gi_upon))
        refine startR (n := 11) (S := fun w' => w'.heap[w.heap.size]? = wk24.heap[w.heap.size]? ∧ w'.heap[w3.heap.size + 1 + 1]? = wk24.heap[w3.heap.size + 1 + 1]? ∧ w'.heap[b1]? = wk24.heap[b1]? ∧ w'.heap[b3]? = wk24.heap[b3]? ∧ w'.heap[g20_10]? = wk24.heap[g20_10]?) (ds := [10]) (bt 11 0) (by kernel_rfl) (by kernel_rfl) (by rintro ⟨_, _, h⟩; exact h) rfl rfl ((And.intro rfl (And.intro rfl (And.intro rfl (And.intro rfl rfl))))) (fun hHeld => ?_)
        refine ld_ 0 67 ?_ hHeld ?_ ?_; rotate_left
        · rintro w' hs
          obtain ⟨q0, q1⟩ := rw1 ((hs.1).trans (HM.out.at 0 rfl))
          clear hs
          go_simp; with_reducible rfl
        refine ld_ 1 68 ?_ hHeld ?_ ?_; rotate_left
        · rintro w' hs
          obtain ⟨q0, q1, q2, q3, q4, q5⟩ := rw3 ((hs.2.1).trans (HM.out.at 7 rfl))
          clear hs
          go_simp; with_reducible rfl
        refine ld_ 2 69 ?_ hHeld ?_ ?_; rotate_left
        · rintro w' hs
          obtain ⟨q0, q1⟩ := rw1 ((hs.1).trans (HM.out.at 0 rfl))
          clear hs
          go_simp; with_reducible rfl
        refine ld_ 3 70 ?_ hHeld ?_ ?_; rotate_left
        · rintro w' hs
          obtain ⟨q0, q1⟩ := rw1 ((hs.1).trans (HM.out.at 0 rfl))
          clear hs
          go_simp; with_reducible rfl
        refine ld_ 4 71 ?_ hHeld ?_ ?_; rotate_left
        · rintro w' hs
          obtain ⟨q0, q1, q2, q3, q4, q5⟩ := rw3 ((hs.2.2.1).trans (HM.out.at 10 rfl))
          clear hs
          go_simp; with_reducible rfl
        refine ld_ 5 72 ?_ hHeld ?_ ?_; rotate_left
        · rintro w' hs
          obtain ⟨q0, q1, q2, q3, q4, q5⟩ := rw3 ((hs.2.2.2.1).trans (HM.out.at 12 rfl))
          clear hs
          go_simp; with_reducible rfl
        refine ld_ 7 74 ?_ hHeld ?_ ?_; rotate_left
        · rintro w' hs
          obtain ⟨q0, q1, q2, q3, q4, q5⟩ := rw3 ((hs.2.2.2.2).trans (HM.out.at 13 rfl))
          clear hs
          go_simp; with_reducible rfl
        refine join_ (σ := Option Addr × Option Addr × Option Addr × Option Addr × Option Addr × Option Addr) 1 (bt 11 1023) (fun s => [(73, (qv (s.1) (s.2.1) ((qK x.1 1) + (qK x.1 3)))), (75, (qv (s.2.2.1) (s.2.2.2.1) (((qK x.1 1) + (qK x.1 3)) * cr))), (76, (qv (s.2.2.2.2.1) (s.2.2.2.2.2) (qy + (((qK x.1 1) + (qK x.1 3)) * cr))))]) (fun s w' => Bx wk24.heap.size wk24 w' [] [((s.1), (s.2.1), ((qK x.1 1) + (qK x.1 3))), ((s.2.2.1), (s.2.2.2.1), (((qK x.1 1) + (qK x.1 3)) * cr)), ((s.2.2.2.2.1), (s.2.2.2.2.2), (qy + (((qK x.1 1) + (qK x.1 3)) * cr)))]) ?_ ?_
        rotate_left
        · intro J0
          refine join_ (σ := Option Addr × Option Addr × Option Addr × Option Addr × Option Addr × Option Addr) 2 (bt 11 511) (fun s => [(73, (qv (s.1) (s.2.1) ((qK x.1 1) + (qK x.1 3)))), (75, (qv (s.2.2.1) (s.2.2.2.1) (((qK x.1 1) + (qK x.1 3)) * cr)))]) (fun s w' => Bx wk24.heap.size wk24 w' [] [((s.1), (s.2.1), ((qK x.1 1) + (qK x.1 3))), ((s.2.2.1), (s.2.2.2.1), (((qK x.1 1) + (qK x.1 3)) * cr))]) ?_ ?_
          · rintro ⟨P25_6, Q25_6, P25_8, Q25_8, P25_9, Q25_9⟩ wj hF
            try dsimp only at hF ⊢
            refine nx ?_
            refine o1 9 76 (bt 11 1023) ?_
            · intro K hK
              refine go_ Tryz.func63 #[.pointer (some ⟨s, 0, none⟩), .agg #[.bool (decide (qy.num < 0)), .slice A3 (qn qy).length (qn qy).length, .slice B3 (qd qy).length (qd qy).length], .agg #[.bool (decide ((((qK x.1 1) + (qK x.1 3)) * cr).num < 0)), .slice P25_8 (qn (((qK x.1 1) + (qK x.1 3)) * cr)).length (qn (((qK x.1 1) + (qK x.1 3)) * cr)).length, .slice Q25_8 (qd (((qK x.1 1) + (qK x.1 3)) * cr)).length (qd (((qK x.1 1) + (qK x.1 3)) * cr)).length]] ?_
              refine (gAdd s _ _ _ _ 0 wj.heap.size 6310 6452 qy (((qK x.1 1) + (qK x.1 3)) * cr) wj (HS.out.keep (HM.out.keep hF.m.b).m.b) ((HM.out.keep hF.m.b).ins 2 rfl) (hF.ins 1 rfl) (Nat.le_refl _) HS10.out.2.1 HS10.out.2.2 (by omega)).mono ?_
              rintro e w' ⟨P25_9, Q25_9, rfl, hf, hb⟩
              refine ⟨_, rfl, ?_⟩
              have hN := hF.call hf hb
              refine hK.out _ _ (by exact (And.intro (hN.m.b.block _ (HM.out.lt 0 rfl)) (And.intro (hN.m.b.block _ (HM.out.lt 7 rfl)) (And.intro (hN.m.b.block _ (HM.out.lt 10 rfl)) (And.intro (hN.m.b.block _ (HM.out.lt 12 rfl)) (hN.m.b.block _ (HM.out.lt 13 rfl))))))) (fun hHeld => ?_)
              exact nj (J0 (P25_6, Q25_6, P25_8, Q25_8, P25_9, Q25_9) _ hN)
          intro J1
          refine join_ (σ := Option Addr × Option Addr × Option Addr × Option Addr × Option Addr × Option Addr) 3 (bt 11 255) (fun s => [(73, (qv (s.1) (s.2.1) ((qK x.1 1) + (qK x.1 3))))]) (fun s w' => Bx wk24.heap.size wk24 w' [] [((s.1), (s.2.1), ((qK x.1 1) + (qK x.1 3)))]) ?_ ?_
          · rintro ⟨P25_6, Q25_6, P25_8, Q25_8, P25_9, Q25_9⟩ wj hF
            try dsimp only at hF ⊢
            refine nx ?_
            refine o1 8 75 (bt 11 511) ?_
            · intro K hK
              refine go_ Tryz.func62 #[.pointer (some ⟨s, 0, none⟩), .agg #[.bool (decide (((qK x.1 1) + (qK x.1 3)).num < 0)), .slice P25_6 (qn ((qK x.1 1) + (qK x.1 3))).length (qn ((qK x.1 1) + (qK x.1 3))).length, .slice Q25_6 (qd ((qK x.1 1) + (qK x.1 3))).length (qd ((qK x.1 1) + (qK x.1 3))).length], .agg #[.bool (decide (cr.num < 0)), .slice P20_9 (qn cr).length (qn cr).length, .slice Q20_9 (qd cr).length (qd cr).length]] ?_
              refine (gMul s _ _ _ _ 0 wj.heap.size 2151 4301 ((qK x.1 1) + (qK x.1 3)) cr wj (HS.out.keep (HM.out.keep hF.m.b).m.b) (hF.ins 0 rfl) ((HM.out.keep hF.m.b).ins 9 rfl) (Nat.le_refl _) HS10.out.1 HS7.out.2 (by omega)).mono ?_
              rintro e w' ⟨P25_8, Q25_8, rfl, hf, hb⟩
              refine ⟨_, rfl, ?_⟩
              have hN := hF.call hf hb
              refine hK.out _ _ (by exact (And.intro (hN.m.b.block _ (HM.out.lt 0 rfl)) (And.intro (hN.m.b.block _ (HM.out.lt 7 rfl)) (And.intro (hN.m.b.block _ (HM.out.lt 10 rfl)) (And.intro (hN.m.b.block _ (HM.out.lt 12 rfl)) (hN.m.b.block _ (HM.out.lt 13 rfl))))))) (fun hHeld => ?_)
              exact nj (J1 (P25_6, Q25_6, P25_8, Q25_8, P25_9, Q25_9) _ hN)
          intro J2
          refine join_ (σ := Option Addr × Option Addr × Option Addr × Option Addr × Option Addr × Option Addr) 4 (bt 11 191) (fun s => []) (fun s w' => Bx wk24.heap.size wk24 w' [] []) ?_ ?_
          · rintro ⟨P25_6, Q25_6, P25_8, Q25_8, P25_9, Q25_9⟩ wj hF
            try dsimp only at hF ⊢
            refine nx ?_
            refine o1 6 73 (bt 11 255) ?_
            · intro K hK
              refine go_ Tryz.func63 #[.pointer (some ⟨s, 0, none⟩), .agg #[.bool (decide ((qK x.1 1).num < 0)), .slice E1 (qn (qK x.1 1)).length (qn (qK x.1 1)).length, .slice F1 (qd (qK x.1 1)).length (qd (qK x.1 1)).length], .agg #[.bool (decide ((qK x.1 3).num < 0)), .slice E3 (qn (qK x.1 3)).length (qn (qK x.1 3)).length, .slice F3 (qd (qK x.1 3)).length (qd (qK x.1 3)).length]] ?_
              refine (gAdd s _ _ _ _ 0 wj.heap.size 1075 1075 (qK x.1 1) (qK x.1 3) wj (HS.out.keep (HM.out.keep hF.m.b).m.b) ((HM.out.keep hF.m.b).ins 4 rfl) ((HM.out.keep hF.m.b).ins 6 rfl) (Nat.le_refl _) (HSZ.out 1) (HSZ.out 3) (by omega)).mono ?_
              rintro e w' ⟨P25_6, Q25_6, rfl, hf, hb⟩
              refine ⟨_, rfl, ?_⟩
              have hN := hF.call hf hb
              refine hK.out _ _ (by exact (And.intro (hN.m.b.block _ (HM.out.lt 0 rfl)) (And.intro (hN.m.b.block _ (HM.out.lt 7 rfl)) (And.intro (hN.m.b.block _ (HM.out.lt 10 rfl)) (And.intro (hN.m.b.block _ (HM.out.lt 12 rfl)) (hN.m.b.block _ (HM.out.lt 13 rfl))))))) (fun hHeld => ?_)
              exact nj (J2 (P25_6, Q25_6, P25_8, Q25_8, P25_9, Q25_9) _ hN)
          intro J3
          exact nj (J3 (none, none, none, none, none, none) _ ((Bx.start _).drew))
        rintro ⟨P25_6, Q25_6, P25_8, Q25_8, P25_9, Q25_9⟩ wj hF
        try dsimp only at hF ⊢
        refine nx ?_
        replace HKO := Lib.hid (HKO.out.trans (below_keeps hF.m.b))
        have hG := HM.out.join hF
        (try simp only [List.nil_append, List.cons_append, World.size_alloc, List.set_cons_zero, List.set_cons_succ, putsC, pB, pC, pD] at hG)
        have hHeld := And.intro True.intro (And.intro (hF.m.b.block _ (HM.out.lt 0 rfl)) (And.intro (hF.m.b.block _ (HM.out.lt 7 rfl)) (And.intro (hF.m.b.block _ (HM.out.lt 10 rfl)) (And.intro (hF.m.b.block _ (HM.out.lt 12 rfl)) (hF.m.b.block _ (HM.out.lt 13 rfl))))))
        clear HM hF
        refine last_ (i := 10) (N := none) (bt 11 2047) rfl rfl (by kernel_rfl) (by decide) (fun K hK => ?_)
        obtain ⟨y0, y1, y2, y3, y4, y5⟩ := rw3 (hG.at 7 rfl)
        refine skip_ (w1 := puts (w3.heap.size + 1 + 1) [(0, .bool (decide ((qy + (((qK x.1 1) + (qK x.1 3)) * cr)).num < 0))), (1, .slice P25_9 (qn (qy + (((qK x.1 1) + (qK x.1 3)) * cr))).length (qn (qy + (((qK x.1 1) + (qK x.1 3)) * cr))).length), (2, .slice Q25_9 (qd (qy + (((qK x.1 1) + (qK x.1 3)) * cr))).length (qd (qy + (((qK x.1 1) + (qK x.1 3)) * cr))).length)] wj) (by rfl) rfl ?_ ?_
        · go_simp
          rfl
        refine hK.out _ _ ?_
        clear hK K y0 y1 y2 y3 y4 y5
        replace HKO := Lib.hid (HKO.out.trans (puts_keeps (w3.heap.size + 1 + 1) [(0, .bool (decide ((qy + (((qK x.1 1) + (qK x.1 3)) * cr)).num < 0))), (1, .slice P25_9 (qn (qy + (((qK x.1 1) + (qK x.1 3)) * cr))).length (qn (qy + (((qK x.1 1) + (qK x.1 3)) * cr))).length), (2, .slice Q25_9 (qd (qy + (((qK x.1 1) + (qK x.1 3)) * cr))).length (qd (qy + (((qK x.1 1) + (qK x.1 3)) * cr))).length)] _))
        replace hG := hG.puts 7 rfl (by decide) [(0, .bool (decide ((qy + (((qK x.1 1) + (qK x.1 3)) * cr)).num < 0))), (1, .slice P25_9 (qn (qy + (((qK x.1 1) + (qK x.1 3)) * cr))).length (qn (qy + (((qK x.1 1) + (qK x.1 3)) * cr))).length), (2, .slice Q25_9 (qd (qy + (((qK x.1 1) + (qK x.1 3)) * cr))).length (qd (qy + (((qK x.1 1) + (qK x.1 3)) * cr))).length)]
        (try simp only [List.nil_append, List.cons_append, World.size_alloc, List.set_cons_zero, List.set_cons_succ, putsC, pB, pC, pD] at hG)
        generalize puts (w3.heap.size + 1 + 1) _ wj = wk26 at *
        refine done_ (by kernel_rfl) ?_
        (try simp only [List.nil_append, List.cons_append, World.size_alloc, List.set_cons_zero, List.set_cons_succ, putsC, pB, pC, pD] at hG)
        have HM := Lib.hid hG
        clear hG hHeld
        ((try dsimp only); repeat (first | go_values | gi_guarded | gi_step | gi_upon))
        exact ⟨HKO.out.from _, kpb_via hB HM.out HKO.out.size rfl rfl, P22, Q22, P23_9, Q23_9, P25_9, Q25_9, HE.out _ _ _ _ _ _ _ (HM.out.sel (fun i => i) (fun i y e => pre_get ⟨[_, _, _, _, _], rfl⟩ e) (fun i j _ _ h => h) (mem3 10 13 16 rfl rfl rfl))⟩
      --RBEND
  case done =>
    rintro D xs W hD hS ⟨A1, B1, A2, B2, A3, B3, hB⟩ hK
    rw [hS] at hB
    generalize hqa : sumE crs (edgesR ps) = qa at *
    generalize hqx : (if mo then sumE mox (edgesR ps) else 0) = qx at *
    generalize hqy : (if mo then sumE moy (edgesR ps) else 0) = qy at *
    have HQ := Lib.hid (And.intro hqa (And.intro hqx hqy))
    simp only [LA] at hB
    have HM := Lib.hid hB
    have HKO := Lib.hid (KeepsOthers.refl W)
    clear h9 hpa0 hpa hF hS hB hqa hqx hqy
    ((try dsimp only); repeat (first | go_values | go_skip | go_guarded | go_step | go_upon))
    refine quiet ?_
    --RD
    refine start_ (n := 6) (S := fun w' => w'.heap[w3.heap.size]? = W.heap[w3.heap.size]? ∧ w'.heap[w3.heap.size + 1]? = W.heap[w3.heap.size + 1]? ∧ w'.heap[w3.heap.size + 1 + 1]? = W.heap[w3.heap.size + 1 + 1]?) (ds := [5]) (bt 6 0) (by kernel_rfl) rfl rfl ((And.intro rfl (And.intro rfl rfl))) (fun hHeld => ?_)
    refine ld_ 0 77 ?_ hHeld ?_ ?_; rotate_left
    · rintro w' hs
      obtain ⟨q0, q1, q2, q3, q4, q5⟩ := rw3 ((hs.1).trans (HM.out.at 5 rfl))
      clear hs
      go_simp; with_reducible rfl
    refine ld_ 1 78 ?_ hHeld ?_ ?_; rotate_left
    · rintro w' hs
      obtain ⟨q0, q1, q2, q3, q4, q5⟩ := rw3 ((hs.2.1).trans (HM.out.at 6 rfl))
      clear hs
      go_simp; with_reducible rfl
    refine ld_ 2 79 ?_ hHeld ?_ ?_; rotate_left
    · rintro w' hs
      obtain ⟨q0, q1, q2, q3, q4, q5⟩ := rw3 ((hs.2.2).trans (HM.out.at 7 rfl))
      clear hs
      go_simp; with_reducible rfl
    replace HKO := Lib.hid (HKO.out.trans (KeepsOthers.drew _))
    have hG := HM.out.drew
    replace hHeld := And.intro True.intro hHeld
    clear HM
    generalize hwg : W.drew = wj at *
    clear hwg
    refine one_ (i := 3) (N := none) (bt 6 15) rfl rfl (by kernel_rfl) (by decide) (fun K hK => ?_)
    obtain ⟨y0, y1, y2, y3, y4, y5⟩ := rw3 (hG.at 2 rfl)
    refine skip_ (w1 := puts (w.heap.size + 1 + 1) [(0, .bool (decide (qa.num < 0))), (1, .slice A1 (qn qa).length (qn qa).length), (2, .slice B1 (qd qa).length (qd qa).length)] wj) (by rfl) rfl ?_ ?_
    · go_simp
      rfl
    replace hHeld := And.intro True.intro (And.intro ((puts_other (hG.ne 5 2 rfl rfl (by decide)) [(0, .bool (decide (qa.num < 0))), (1, .slice A1 (qn qa).length (qn qa).length), (2, .slice B1 (qd qa).length (qd qa).length)] wj).trans hHeld.2.1) (And.intro ((puts_other (hG.ne 6 2 rfl rfl (by decide)) [(0, .bool (decide (qa.num < 0))), (1, .slice A1 (qn qa).length (qn qa).length), (2, .slice B1 (qd qa).length (qd qa).length)] wj).trans hHeld.2.2.1) ((puts_other (hG.ne 7 2 rfl rfl (by decide)) [(0, .bool (decide (qa.num < 0))), (1, .slice A1 (qn qa).length (qn qa).length), (2, .slice B1 (qd qa).length (qd qa).length)] wj).trans hHeld.2.2.2)))
    refine hK.out _ _ (by exact hHeld.2) (fun _ => ?_)
    clear hK K y0 y1 y2 y3 y4 y5
    replace HKO := Lib.hid (HKO.out.trans (puts_keeps (w.heap.size + 1 + 1) [(0, .bool (decide (qa.num < 0))), (1, .slice A1 (qn qa).length (qn qa).length), (2, .slice B1 (qd qa).length (qd qa).length)] _))
    replace hG := hG.puts 2 rfl (by decide) [(0, .bool (decide (qa.num < 0))), (1, .slice A1 (qn qa).length (qn qa).length), (2, .slice B1 (qd qa).length (qd qa).length)]
    (try simp only [List.nil_append, List.cons_append, World.size_alloc, List.set_cons_zero, List.set_cons_succ, putsC, pB, pC, pD] at hG)
    generalize puts (w.heap.size + 1 + 1) _ wj = wk40 at *
    refine one_ (i := 4) (N := none) (bt 6 31) rfl rfl (by kernel_rfl) (by decide) (fun K hK => ?_)
    obtain ⟨y0, y1, y2, y3, y4, y5⟩ := rw3 (hG.at 3 rfl)
    refine skip_ (w1 := puts (w.heap.size + 1 + 1 + 1) [(0, .bool (decide (qx.num < 0))), (1, .slice A2 (qn qx).length (qn qx).length), (2, .slice B2 (qd qx).length (qd qx).length)] wk40) (by rfl) rfl ?_ ?_
    · go_simp
      rfl
    replace hHeld := And.intro True.intro (And.intro ((puts_other (hG.ne 5 3 rfl rfl (by decide)) [(0, .bool (decide (qx.num < 0))), (1, .slice A2 (qn qx).length (qn qx).length), (2, .slice B2 (qd qx).length (qd qx).length)] wk40).trans hHeld.2.1) (And.intro ((puts_other (hG.ne 6 3 rfl rfl (by decide)) [(0, .bool (decide (qx.num < 0))), (1, .slice A2 (qn qx).length (qn qx).length), (2, .slice B2 (qd qx).length (qd qx).length)] wk40).trans hHeld.2.2.1) ((puts_other (hG.ne 7 3 rfl rfl (by decide)) [(0, .bool (decide (qx.num < 0))), (1, .slice A2 (qn qx).length (qn qx).length), (2, .slice B2 (qd qx).length (qd qx).length)] wk40).trans hHeld.2.2.2)))
    refine hK.out _ _ (by exact hHeld.2) (fun _ => ?_)
    clear hK K y0 y1 y2 y3 y4 y5
    replace HKO := Lib.hid (HKO.out.trans (puts_keeps (w.heap.size + 1 + 1 + 1) [(0, .bool (decide (qx.num < 0))), (1, .slice A2 (qn qx).length (qn qx).length), (2, .slice B2 (qd qx).length (qd qx).length)] _))
    replace hG := hG.puts 3 rfl (by decide) [(0, .bool (decide (qx.num < 0))), (1, .slice A2 (qn qx).length (qn qx).length), (2, .slice B2 (qd qx).length (qd qx).length)]
    (try simp only [List.nil_append, List.cons_append, World.size_alloc, List.set_cons_zero, List.set_cons_succ, putsC, pB, pC, pD] at hG)
    generalize puts (w.heap.size + 1 + 1 + 1) _ wk40 = wk41 at *
    refine last_ (i := 5) (N := none) (bt 6 63) rfl rfl (by kernel_rfl) (by decide) (fun K hK => ?_)
    obtain ⟨y0, y1, y2, y3, y4, y5⟩ := rw3 (hG.at 4 rfl)
    refine skip_ (w1 := puts (w.heap.size + 1 + 1 + 1 + 1) [(0, .bool (decide (qy.num < 0))), (1, .slice A3 (qn qy).length (qn qy).length), (2, .slice B3 (qd qy).length (qd qy).length)] wk41) (by rfl) rfl ?_ ?_
    · go_simp
      rfl
    refine hK.out _ _ ?_
    clear hK K y0 y1 y2 y3 y4 y5
    replace HKO := Lib.hid (HKO.out.trans (puts_keeps (w.heap.size + 1 + 1 + 1 + 1) [(0, .bool (decide (qy.num < 0))), (1, .slice A3 (qn qy).length (qn qy).length), (2, .slice B3 (qd qy).length (qd qy).length)] _))
    replace hG := hG.puts 4 rfl (by decide) [(0, .bool (decide (qy.num < 0))), (1, .slice A3 (qn qy).length (qn qy).length), (2, .slice B3 (qd qy).length (qd qy).length)]
    (try simp only [List.nil_append, List.cons_append, World.size_alloc, List.set_cons_zero, List.set_cons_succ, putsC, pB, pC, pD] at hG)
    generalize puts (w.heap.size + 1 + 1 + 1 + 1) _ wk41 = wk42 at *
    refine done_ (by kernel_rfl) ?_
    (try simp only [List.nil_append, List.cons_append, World.size_alloc, List.set_cons_zero, List.set_cons_succ, putsC, pB, pC, pD] at hG)
    have HM := Lib.hid hG
    clear hG hHeld
    --RDEND
    ((try dsimp only); repeat (first | go_values | go_skip | go_guarded | go_step | go_upon))
    have hK' := HKO.out.same D _ hK rfl
    have hN2 := HM.out.kept (grownBy_putObj' _ D (.deferred none)) (fun r e => by cases e; exact ⟨Nat.le_trans hz7 hD, _, hK', rfl⟩) rfl
    obtain ⟨hqa, hqx, hqy⟩ := HQ.out
    subst hqa hqx hqy
    refine ⟨by simp, .inl ⟨_, _, rfl, run_takeDeferred hK', ?_⟩⟩
    exact ⟨_, results_cells3 rfl ⟨w.heap.size + 1 + 1, 0, none⟩ ⟨w.heap.size + 1 + 1 + 1, 0, none⟩ ⟨w.heap.size + 1 + 1 + 1 + 1, 0, none⟩ _ _ _ rfl rfl rfl (load_rat (hN2.at 2 rfl)) (load_rat (hN2.at 3 rfl)) (load_rat (hN2.at 4 rfl)), A1, B1, A2, B2, A3, B3, rfl, hN2.sel (fun i => i) (fun i y e => by simp at e) (fun i j _ _ h => h) (fun _ h => h)⟩
  case stop =>
    rintro D d pre W hD hSp h hK
    exact h.elim
end Go.Proofs.YtfpofmifmapmfaaGreatDoor

namespace Go.Proofs.YtfpofmifmapmfaaGreatDoor
open Go.RowKit Go.Proofs.YtfpofmifmapmfaaGreatDoorW.PrintLast
set_option linter.unusedVariables false
set_option linter.unusedSimpArgs false
theorem edges_fin {r : List Pt} (h : ∀ p ∈ r, FinP p) : ∀ e ∈ edgesR r, FinE e := by
  intro e he
  obtain ⟨j, hj, rfl⟩ := List.mem_map.1 he
  have := List.mem_range.1 hj
  exact edge_fin h (by omega)
def A2P (ps : List Pt) (w w' : World) (e : Ending) : Prop :=
  (chkE ps [] ≠ 0 → e = .returned (.tuple #[.agg #[.bool false, .slice none 0 0, .slice none 0 0], .int .i64 (chkE ps [])])) ∧
  (chkE ps [] = 0 → ∃ A B, e = .returned (.tuple #[qv A B (sumE crs (edgesR ps)), .int .i64 0]) ∧ RatFresh w.heap.size w' A B (sumE crs (edgesR ps)))
theorem no_more : ∀ q ∈ ([] : List Pt), PtU q := fun q h => by cases h
set_option maxRecDepth 100000 in
set_option maxHeartbeats 3200000 in
theorem gArea2 (A : Option Addr) (c : Nat) (ps : List Pt) (w : World) (hp : PtsIn w A ps) (hl : ps.length ≤ 1000000) (hu : ∀ q ∈ ps, PtU q) :
    Calls Tryz.prog 16 #[.slice A ps.length c] w fun e w' => A2P ps w w' e ∧ Below w.heap.size w w' := by
  have hmm := (Bx.start w).alloc (.cells #[.bool false, .slice none 0 0, .slice none 0 0] 26 (0, 0))
  simp only [List.nil_append] at hmm
  have HC := Lib.hid (gCheck A none c 0 ps [] _ (hp.keep hmm.m.b) (Or.inl rfl) hl (by simp) hu no_more)
  have HK := Lib.hid (fun h => chk_ok hu no_more h)
  have HP := Lib.hid hp
  have HM := Lib.hid hmm
  have HA : Hid (∀ e w', A2P ps w w' e = ((chkE ps [] ≠ 0 → e = .returned (.tuple #[.agg #[.bool false, .slice none 0 0, .slice none 0 0], .int .i64 (chkE ps [])])) ∧
    (chkE ps [] = 0 → ∃ A B, e = .returned (.tuple #[qv A B (sumE crs (edgesR ps)), .int .i64 0]) ∧ RatFresh w.heap.size w' A B (sumE crs (edgesR ps))))) := Lib.hid (fun _ _ => rfl)
  rw [show ([] : List Pt).length = 0 from rfl] at HC
  clear hp hl hu hmm
  generalize chkE ps [] = E at *
  go_enter Tryz.func16, Tryz.ntmps16
  ((try dsimp only); repeat (first | go_values | go_skip | go_guarded | go_step | go_upon))
  generalize World.alloc w _ = v at *
  refine HC.out.mono ?_
  rintro e w1 ⟨rfl, hb1⟩
  have h1 := HM.out.keep hb1
  have HM1 := Lib.hid h1
  clear HC HM hb1 h1
  by_cases hE : E = 0
  · subst hE
    obtain ⟨k0, k1, k2, _, _⟩ := HK.out rfl
    have h2 := HM1.out.alloc (.cells #[.int .i64 0] 106 (0, 0))
    simp only [List.nil_append, List.cons_append] at h2
    have HAR := Lib.hid (gArea w1.heap.size A c ps false _ (h2.at 1 rfl) (HP.out.keep h2.m.b) k0 k1 k2)
    have H2 := Lib.hid h2
    clear h2 k0 k1 k2
    rw [if_neg (by decide), if_neg (by decide)] at HAR
    generalize sumE crs (edgesR ps) = qa at *
    obtain ⟨zr, hzr⟩ : ∃ q : Rat, q = 0 := ⟨0, rfl⟩
    rw [← hzr] at HAR
    clear hzr
    unfold qv at HAR
    generalize ps.length = m at *
    ((try dsimp only); repeat (first | go_values | go_skip | go_guarded | go_step | go_upon))
    generalize World.alloc w1 _ = w2 at *
    refine HAR.out.mono ?_
    rintro e w3 ⟨A1, B1, A2, B2, A3, B3, rfl, hx⟩
    have h3 := (((H2.out.join hx).alloc (qo A1 B1 qa)).alloc (qo A2 B2 zr)).alloc (qo A3 B3 zr)
    simp only [List.nil_append, List.cons_append, World.size_alloc] at h3
    have hs3 := (H2.out.join hx).lt 1 rfl
    have hs30 := (H2.out.join hx).lt 0 rfl
    unfold qo at h3
    obtain ⟨c0, c1⟩ := rw1 (h3.at 1 rfl)
    obtain ⟨d0, d1, d2, _, _, _⟩ := rw3 (h3.at 2 rfl)
    obtain ⟨e0, e1, e2, f0, f1, f2⟩ := rw3 (h3.at 0 rfl)
    have HM4 := Lib.hid h3
    clear h3 hx H2 HAR HM1
    ((try dsimp only); repeat (first | go_values | go_skip | go_guarded | go_step | go_upon))
    have hN := HM4.out.puts 0 rfl (by decide) [(0, .bool (decide (qa.num < 0))), (1, .slice A1 (qn qa).length (qn qa).length), (2, .slice B1 (qd qa).length (qd qa).length)]
    simp only [putsC, puts, pB, pC, pD, List.set_cons_zero, List.set_cons_succ] at hN
    refine bodyPost_ret (results_row_tmp rfl _ _ w.heap.size _ _ _ _ rfl (hN.at 0 rfl) rfl rfl rfl) rfl ⟨?_, hN.m.b⟩
    rw [HA.out]
    exact ⟨fun h => absurd rfl h, fun _ => ⟨A1, B1, rfl, hN.fresh 0 rfl⟩⟩
  · obtain ⟨e0, e1, e2, f0, f1, f2⟩ := rw3 (HM1.out.at 0 rfl)
    ((try dsimp only); repeat (first | go_values | go_skip | go_guarded | go_step | go_upon))
    have hN := HM1.out.puts 0 rfl (by decide) [(0, .bool false), (1, .slice none 0 0), (2, .slice none 0 0)]
    simp only [putsC, puts, pB, pC, pD, List.set_cons_zero, List.set_cons_succ] at hN
    refine bodyPost_ret (results_row_tmp rfl _ _ w.heap.size _ _ _ _ rfl (hN.at 0 rfl) rfl rfl rfl) rfl ⟨?_, hN.m.b⟩
    rw [HA.out]
    exact ⟨fun _ => rfl, fun h => absurd h hE⟩
def turnV (ps : List Pt) : Int × Int := if chkE ps [] ≠ 0 then (0, chkE ps []) else (qsgn (sumE crs (edgesR ps)), 0)
set_option maxRecDepth 100000 in
set_option maxHeartbeats 3200000 in
theorem gTurn (A : Option Addr) (c : Nat) (ps : List Pt) (w : World) (hp : PtsIn w A ps) (hl : ps.length ≤ 1000000) (hu : ∀ q ∈ ps, PtU q) :
    Calls Tryz.prog 18 #[.slice A ps.length c] w fun e w' => e = .returned (.tuple #[.int .i64 (turnV ps).1, .int .i64 (turnV ps).2]) ∧ Below w.heap.size w w' := by
  have HA := Lib.hid (gArea2 A c ps w hp hl hu)
  have HK := Lib.hid (fun h => chk_ok hu no_more h)
  have HE : Hid (turnV ps = if chkE ps [] ≠ 0 then (0, chkE ps []) else (qsgn (sumE crs (edgesR ps)), 0)) := Lib.hid rfl
  have HU := Lib.hid (fun (e : Ending) (w' : World) (h : A2P ps w w' e) => h)
  unfold A2P at HU
  have HS : Hid (chkE ps [] = 0 → Sz 4210 (sumE crs (edgesR ps))) := Lib.hid (fun h => by
    obtain ⟨k0, k1, k2, _, _⟩ := chk_ok hu no_more h
    exact area_szE (edges_fin k2) (by rw [show (edgesR ps).length = ps.length - 1 from edgesU_len _ _]; omega))
  clear hp hl hu
  generalize turnV ps = V at *
  generalize ps.length = m at *
  go_enter Tryz.func18, Tryz.ntmps18
  ((try dsimp only); repeat (first | go_values | go_skip | go_guarded | go_step | go_upon))
  refine HA.out.mono ?_
  rintro e w1 ⟨ha, hb1⟩
  obtain ⟨u1, u2⟩ := HU.out _ _ ha
  have HB := Lib.hid hb1
  clear HA HU ha hb1
  generalize chkE ps [] = E at *
  by_cases hE : E = 0
  · obtain ⟨A1, B1, rfl, hf⟩ := u2 hE
    rw [if_neg (by omega)] at HE
    have hq := (HS.out hE).lens (by omega)
    generalize sumE crs (edgesR ps) = qa at *
    have hm := (Bx.start w1).alloc (qo A1 B1 qa)
    simp only [List.nil_append] at hm
    have HG := Lib.hid (rSignQ A1 B1 0 w1.heap.size qa (w1.alloc (qo A1 B1 qa)) (((hf.wide (Nat.zero_le _)).ins).keep (Keep.of hm.m.b (Nat.le_refl _))) hm.m.z hq.1)
    have HM := Lib.hid hm
    clear u1 u2 hf hq hm
    unfold qv qo at HG
    unfold qv
    unfold qo at HM
    go_upto_region 2 with (fail)
    generalize World.alloc w1 _ = w2 at *
    obtain ⟨d0, d1, d2, _, _, _⟩ := rw3 (HM.out.at 0 rfl)
    ((try dsimp only); repeat (first | go_values | go_skip | go_guarded | go_step | go_upon))
    refine HG.out.mono ?_
    rintro e w3 ⟨rfl, hb3⟩
    have hB := HB.out.trans ((HM.out.keep hb3).m.b.mono HB.out.size)
    ((try dsimp only); repeat (first | go_values | go_skip | go_guarded | go_step | go_upon))
    go_ret2
    exact ⟨by rw [HE.out]; rfl, hB⟩
  · obtain rfl := u1 hE
    rw [if_pos hE] at HE
    have hm := (Bx.start w1).alloc (.cells #[.bool false, .slice none 0 0, .slice none 0 0] 26 (0, 0))
    ((try dsimp only); repeat (first | go_values | go_skip | go_guarded | go_step | go_upon))
    go_ret2
    exact ⟨by rw [HE.out]; rfl, HB.out.trans (hm.m.b.mono HB.out.size)⟩
end Go.Proofs.YtfpofmifmapmfaaGreatDoor

namespace Go.Proofs.YtfpofmifmapmfaaGreatDoor
open Go.RowKit Go.Proofs.YtfpofmifmapmfaaGreatDoorW.PrintLast
set_option linter.unusedVariables false
set_option linter.unusedSimpArgs false
def cenX (ps : List Pt) : Rat := sumE mox (edgesR ps) / (sumE crs (edgesR ps) * 3)
def cenY (ps : List Pt) : Rat := sumE moy (edgesR ps) / (sumE crs (edgesR ps) * 3)
theorem rInt3 (q : Rat) (h : q = 3) (w : World) : Calls Tryz.prog 35 #[.int .i64 3] w fun e w' => ∃ A B, e = .returned (qv A B q) ∧ RatFresh w.heap.size w' A B q ∧ Below w.heap.size w w' := by
  have := rIntQ 3 w (by omega) (by omega)
  rwa [show ((3 : Int) : Rat) = q by rw [h]; rfl] at this
set_option maxRecDepth 100000 in
set_option maxHeartbeats 3200000 in
theorem gCentre (A : Option Addr) (c : Nat) (ps : List Pt) (w : World) (hp : PtsIn w A ps) (hl : ps.length ≤ 1000000) (hu : ∀ q ∈ ps, PtU q) (h0 : chkE ps [] = 0) (ha : sumE crs (edgesR ps) ≠ 0) (hx : FitQ (cenX ps)) (hy : FitQ (cenY ps)) :
    Calls Tryz.prog 20 #[.slice A ps.length c] w fun e w' => e = .returned (.tuple #[.agg #[.int .u64 (nearR (cenX ps)).1, .int .u64 (nearR (cenY ps)).1], .int .i64 0]) ∧ Below w.heap.size w w' := by
  have hmm := (Bx.start w).alloc (.cells #[.int .u64 0, .int .u64 0] 38 (0, 0))
  simp only [List.nil_append] at hmm
  have HC := Lib.hid (gCheck A none c 0 ps [] _ (hp.keep hmm.m.b) (Or.inl rfl) hl (by simp) hu no_more)
  obtain ⟨k0, k1, k2, _, _⟩ := chk_ok hu no_more h0
  have hle : ∀ e ∈ edgesR ps, FinE e := edges_fin k2
  have hln : (edgesR ps).length < 1024 := by rw [show (edgesR ps).length = ps.length - 1 from edgesU_len _ _]; omega
  have z1 := area_szE hle hln
  obtain ⟨z2, z3⟩ := mox_szE hle hln
  have HP := Lib.hid hp
  have HM := Lib.hid hmm
  rw [show ([] : List Pt).length = 0 from rfl, h0] at HC
  have ex : cenX ps = sumE mox (edgesR ps) / (sumE crs (edgesR ps) * 3) := rfl
  have ey : cenY ps = sumE moy (edgesR ps) / (sumE crs (edgesR ps) * 3) := rfl
  generalize cenX ps = cx at *
  generalize cenY ps = cy at *
  obtain ⟨tr, htr⟩ : ∃ q : Rat, q = 3 := ⟨3, rfl⟩
  rw [← htr] at ex ey
  have z0 : Sz 2 tr := by rw [htr]; exact ⟨by decide, by decide⟩
  have hd : (sumE crs (edgesR ps) * tr).num ≠ 0 := by
    intro q
    have q2 := Rat.num_eq_zero.1 q
    rcases Rat.mul_eq_zero.1 q2 with q3 | q3
    · exact ha q3
    · rw [htr] at q3; exact absurd q3 (by decide)
  have hsg : (qsgn (sumE crs (edgesR ps)) == 0) = false := by
    rw [beq_false_of_ne]
    intro q
    exact ha (qsgn_zero.1 q)
  have HI3 : Hid (∀ wz, Calls Tryz.prog 35 #[.int .i64 3] wz fun e w' => ∃ A B, e = .returned (qv A B tr) ∧ RatFresh wz.heap.size w' A B tr ∧ Below wz.heap.size wz w') := Lib.hid (fun wz => rInt3 tr htr wz)
  have HAR : Hid (∀ s wz, SumOk wz s → Below w.heap.size w wz → Calls Tryz.prog 59 #[.pointer (some ⟨s, 0, none⟩), .slice A ps.length c, .bool true] wz fun e w' => ∃ A1 B1 A2 B2 A3 B3, e = .returned (.tuple #[qv A1 B1 (sumE crs (edgesR ps)), qv A2 B2 (sumE mox (edgesR ps)), qv A3 B3 (sumE moy (edgesR ps))]) ∧
      Bx wz.heap.size wz w' [] [(A1, B1, sumE crs (edgesR ps)), (A2, B2, sumE mox (edgesR ps)), (A3, B3, sumE moy (edgesR ps))]) :=
    Lib.hid (fun s wz h hb => gArea s A c ps true wz h (HP.out.keep hb) k0 k1 k2)
  have z4 : Sz 4212 (sumE crs (edgesR ps) * tr) := (z1.mul z0).mono (by omega)
  have z5 : Sz 30000 cx := by rw [ex]; exact (z2.div z4 hd).mono (by omega)
  have z6 : Sz 30000 cy := by rw [ey]; exact (z3.div z4 hd).mono (by omega)
  clear hp hl hu hmm h0 ha k0 k1 k2 hle hln htr
  generalize sumE crs (edgesR ps) = qa at *
  generalize sumE mox (edgesR ps) = qx at *
  generalize sumE moy (edgesR ps) = qy at *
  have HZ := Lib.hid (And.intro z1 (And.intro z0 (And.intro z2 (And.intro z3 (And.intro z4 hd)))))
  have HF := Lib.hid (And.intro (And.intro hx hy) (And.intro z5 z6))
  have hq := z1.lens (by omega)
  have HEX := Lib.hid (And.intro ex ey)
  clear z0 z1 z2 z3 z4 z5 z6 hd hx hy ex ey
  generalize ps.length = m at *
  go_enter Tryz.func20, Tryz.ntmps20
  ((try dsimp only); repeat (first | go_values | go_skip | go_guarded | go_step | go_upon))
  generalize World.alloc w _ = v at *
  refine HC.out.mono ?_
  rintro e w1 ⟨rfl, hb1⟩
  have h2 := (HM.out.keep hb1).alloc (.cells #[.int .i64 0] 106 (0, 0))
  simp only [List.nil_append, List.cons_append] at h2
  have HA := Lib.hid (HAR.out w1.heap.size _ (h2.at 1 rfl) h2.m.b)
  have H2 := Lib.hid h2
  clear HC HM hb1 h2 HAR
  unfold qv at HA
  ((try dsimp only); repeat (first | go_values | go_skip | go_guarded | go_step | go_upon))
  generalize World.alloc w1 _ = w2 at *
  refine HA.out.mono ?_
  rintro e w3 ⟨A1, B1, A2, B2, A3, B3, rfl, hx⟩
  have h3 := (((H2.out.join hx).alloc (qo A1 B1 qa)).alloc (qo A2 B2 qx)).alloc (qo A3 B3 qy)
  simp only [List.nil_append, List.cons_append, World.size_alloc] at h3
  unfold qo at h3
  have HM := Lib.hid h3
  clear h3 hx H2 HA
  ((try dsimp only); repeat (first | go_values | go_skip | go_guarded | go_step | go_upon))
  generalize World.alloc (World.alloc (World.alloc w3 _) _) _ = w4 at *
  refine start_ (n := 6) (S := fun w' => w'.heap[w3.heap.size]? = w4.heap[w3.heap.size]?) (ds := [5]) (bt 6 0) (by kernel_rfl) rfl rfl (rfl) (fun hHeld => ?_)
  refine pv_ 0 32 ?_
  refine ld_ 1 33 ?_ hHeld ?_ ?_; rotate_left
  · rintro w' hs
    obtain ⟨q0, q1, q2, q3, q4, q5⟩ := rw3 ((hs).trans (HM.out.at 2 rfl))
    clear hs
    go_simp; with_reducible rfl
  refine join_ (σ := Option Addr × Option Addr × Option Addr × Option Addr × Nat) 1 (bt 6 31) (fun s => [(34, (qv (s.1) (s.2.1) tr)), (35, (qv (s.2.2.1) (s.2.2.2.1) (qa * tr))), (9, .pointer (some ⟨(s.2.2.2.2), 0, none⟩))]) (fun s w' => Bx w4.heap.size w4 w' [((s.2.2.2.2), zR)] [((s.1), (s.2.1), tr), ((s.2.2.1), (s.2.2.2.1), (qa * tr))]) ?_ ?_
  rotate_left
  · intro J0
    refine join_ (σ := Option Addr × Option Addr × Option Addr × Option Addr × Nat) 2 (bt 6 15) (fun s => [(34, (qv (s.1) (s.2.1) tr)), (35, (qv (s.2.2.1) (s.2.2.2.1) (qa * tr)))]) (fun s w' => Bx w4.heap.size w4 w' [] [((s.1), (s.2.1), tr), ((s.2.2.1), (s.2.2.2.1), (qa * tr))]) ?_ ?_
    · rintro ⟨P20_2, Q20_2, P20_3, Q20_3, g20_4⟩ wj hF
      try dsimp only at hF ⊢
      refine nx ?_
      refine o1 4 9 (bt 6 31) ?_
      · intro K hK
        refine al_ (.cells #[.bool false, .slice none 0 0, .slice none 0 0] 26) ?_
        have hN := hF.alloc zR
        refine hK.out _ _ (by exact (hN.m.b.block _ (HM.out.lt 2 rfl))) (fun hHeld => ?_)
        exact nj (J0 (P20_2, Q20_2, P20_3, Q20_3, wj.heap.size) _ hN)
    intro J1
    refine join_ (σ := Option Addr × Option Addr × Option Addr × Option Addr × Nat) 2 (bt 6 23) (fun s => [(34, (qv (s.1) (s.2.1) tr)), (9, .pointer (some ⟨(s.2.2.2.2), 0, none⟩))]) (fun s w' => Bx w4.heap.size w4 w' [((s.2.2.2.2), zR)] [((s.1), (s.2.1), tr)]) ?_ ?_
    · rintro ⟨P20_2, Q20_2, P20_3, Q20_3, g20_4⟩ wj hF
      try dsimp only at hF ⊢
      refine nx ?_
      refine o1 3 35 (bt 6 31) ?_
      · intro K hK
        refine go_ Tryz.func62 #[.pointer (some ⟨w1.heap.size, 0, none⟩), .agg #[.bool (decide (qa.num < 0)), .slice A1 (qn qa).length (qn qa).length, .slice B1 (qd qa).length (qd qa).length], .agg #[.bool (decide (tr.num < 0)), .slice P20_2 (qn tr).length (qn tr).length, .slice Q20_2 (qd tr).length (qd tr).length]] ?_
        refine (gMul w1.heap.size _ _ _ _ 0 wj.heap.size 4210 2 qa tr wj ((HM.out.keep hF.m.b).at 1 rfl) ((HM.out.keep hF.m.b).ins 0 rfl) (hF.ins 0 rfl) (Nat.le_refl _) HZ.out.1 HZ.out.2.1 (by omega)).mono ?_
        rintro e w' ⟨P20_3, Q20_3, rfl, hf, hb⟩
        refine ⟨_, rfl, ?_⟩
        have hN := hF.call hf hb
        refine hK.out _ _ (by exact (hN.m.b.block _ (HM.out.lt 2 rfl))) (fun hHeld => ?_)
        exact nj (J0 (P20_2, Q20_2, P20_3, Q20_3, g20_4) _ hN)
    intro J2
    refine join_ (σ := Option Addr × Option Addr × Option Addr × Option Addr × Nat) 3 (bt 6 7) (fun s => [(34, (qv (s.1) (s.2.1) tr))]) (fun s w' => Bx w4.heap.size w4 w' [] [((s.1), (s.2.1), tr)]) ?_ ?_
    · rintro ⟨P20_2, Q20_2, P20_3, Q20_3, g20_4⟩ wj hF
      try dsimp only at hF ⊢
      refine nx ?_
      refine o2 3 35 4 9 (bt 6 15) (bt 6 23) ?_ ?_
      · intro K hK
        refine go_ Tryz.func62 #[.pointer (some ⟨w1.heap.size, 0, none⟩), .agg #[.bool (decide (qa.num < 0)), .slice A1 (qn qa).length (qn qa).length, .slice B1 (qd qa).length (qd qa).length], .agg #[.bool (decide (tr.num < 0)), .slice P20_2 (qn tr).length (qn tr).length, .slice Q20_2 (qd tr).length (qd tr).length]] ?_
        refine (gMul w1.heap.size _ _ _ _ 0 wj.heap.size 4210 2 qa tr wj ((HM.out.keep hF.m.b).at 1 rfl) ((HM.out.keep hF.m.b).ins 0 rfl) (hF.ins 0 rfl) (Nat.le_refl _) HZ.out.1 HZ.out.2.1 (by omega)).mono ?_
        rintro e w' ⟨P20_3, Q20_3, rfl, hf, hb⟩
        refine ⟨_, rfl, ?_⟩
        have hN := hF.call hf hb
        refine hK.out _ _ (by exact (hN.m.b.block _ (HM.out.lt 2 rfl))) (fun hHeld => ?_)
        exact nj (J1 (P20_2, Q20_2, P20_3, Q20_3, g20_4) _ hN)
      · intro K hK
        refine al_ (.cells #[.bool false, .slice none 0 0, .slice none 0 0] 26) ?_
        have hN := hF.alloc zR
        refine hK.out _ _ (by exact (hN.m.b.block _ (HM.out.lt 2 rfl))) (fun hHeld => ?_)
        exact nj (J2 (P20_2, Q20_2, P20_3, Q20_3, wj.heap.size) _ hN)
    intro J3
    refine join_ (σ := Option Addr × Option Addr × Option Addr × Option Addr × Nat) 3 (bt 6 19) (fun s => [(9, .pointer (some ⟨(s.2.2.2.2), 0, none⟩))]) (fun s w' => Bx w4.heap.size w4 w' [((s.2.2.2.2), zR)] []) ?_ ?_
    · rintro ⟨P20_2, Q20_2, P20_3, Q20_3, g20_4⟩ wj hF
      try dsimp only at hF ⊢
      refine nx ?_
      refine o1 2 34 (bt 6 23) ?_
      · intro K hK
        refine go_ Tryz.func35 #[.int .i64 3] ?_
        refine (HI3.out wj).mono ?_
        rintro e w' ⟨P20_2, Q20_2, rfl, hf, hb⟩
        refine ⟨_, rfl, ?_⟩
        have hN := hF.call hf hb
        refine hK.out _ _ (by exact (hN.m.b.block _ (HM.out.lt 2 rfl))) (fun hHeld => ?_)
        exact nj (J2 (P20_2, Q20_2, P20_3, Q20_3, g20_4) _ hN)
    intro J4
    refine join_ (σ := Option Addr × Option Addr × Option Addr × Option Addr × Nat) 4 (bt 6 3) (fun s => []) (fun s w' => Bx w4.heap.size w4 w' [] []) ?_ ?_
    · rintro ⟨P20_2, Q20_2, P20_3, Q20_3, g20_4⟩ wj hF
      try dsimp only at hF ⊢
      refine nx ?_
      refine o2 2 34 4 9 (bt 6 7) (bt 6 19) ?_ ?_
      · intro K hK
        refine go_ Tryz.func35 #[.int .i64 3] ?_
        refine (HI3.out wj).mono ?_
        rintro e w' ⟨P20_2, Q20_2, rfl, hf, hb⟩
        refine ⟨_, rfl, ?_⟩
        have hN := hF.call hf hb
        refine hK.out _ _ (by exact (hN.m.b.block _ (HM.out.lt 2 rfl))) (fun hHeld => ?_)
        exact nj (J3 (P20_2, Q20_2, P20_3, Q20_3, g20_4) _ hN)
      · intro K hK
        refine al_ (.cells #[.bool false, .slice none 0 0, .slice none 0 0] 26) ?_
        have hN := hF.alloc zR
        refine hK.out _ _ (by exact (hN.m.b.block _ (HM.out.lt 2 rfl))) (fun hHeld => ?_)
        exact nj (J4 (P20_2, Q20_2, P20_3, Q20_3, wj.heap.size) _ hN)
    intro J5
    exact nj (J5 (none, none, none, none, 0) _ ((Bx.start _).drew))
  rintro ⟨P20_2, Q20_2, P20_3, Q20_3, g20_4⟩ wj hF
  try dsimp only at hF ⊢
  refine nx ?_
  have hG := HM.out.join hF
  (try simp only [List.nil_append, List.cons_append, World.size_alloc, List.set_cons_zero, List.set_cons_succ, putsC, pB, pC, pD] at hG)
  have hHeld := And.intro True.intro (hF.m.b.block _ (HM.out.lt 2 rfl))
  clear HM hF
  refine last_ (i := 5) (N := none) (bt 6 63) rfl rfl (by kernel_rfl) (by decide) (fun K hK => ?_)
  obtain ⟨y0, y1, y2, y3, y4, y5⟩ := rw3 (hG.at 5 rfl)
  refine skip_ (w1 := puts (g20_4) [(0, .bool (decide ((qa * tr).num < 0))), (1, .slice P20_3 (qn (qa * tr)).length (qn (qa * tr)).length), (2, .slice Q20_3 (qd (qa * tr)).length (qd (qa * tr)).length)] wj) (by rfl) rfl ?_ ?_
  · go_simp
    rfl
  refine hK.out _ _ ?_
  clear hK K y0 y1 y2 y3 y4 y5
  replace hG := hG.puts 5 rfl (by decide) [(0, .bool (decide ((qa * tr).num < 0))), (1, .slice P20_3 (qn (qa * tr)).length (qn (qa * tr)).length), (2, .slice Q20_3 (qd (qa * tr)).length (qd (qa * tr)).length)]
  (try simp only [List.nil_append, List.cons_append, World.size_alloc, List.set_cons_zero, List.set_cons_succ, putsC, pB, pC, pD] at hG)
  generalize puts (g20_4) _ wj = wk21 at *
  refine done_ (by kernel_rfl) ?_
  (try simp only [List.nil_append, List.cons_append, World.size_alloc, List.set_cons_zero, List.set_cons_succ, putsC, pB, pC, pD] at hG)
  have HM := Lib.hid hG
  clear hG hHeld
  generalize hdr : qa * tr = dr at *
  obtain ⟨c0, c1⟩ := rw1 (HM.out.at 1 rfl)
  obtain ⟨d0, d1, d2, _, _, _⟩ := rw3 (HM.out.at 2 rfl)
  have HSG := Lib.hid (rSignQ A1 B1 0 wk21.heap.size qa wk21 (HM.out.ins 0 rfl) (Nat.le_refl _) hq.1)
  unfold qv at HSG
  ((try dsimp only); repeat (first | go_values | go_skip | go_guarded | go_step | go_upon))
  refine HSG.out.mono ?_
  rintro e w5 ⟨rfl, hb5⟩
  have hm := HM.out.keep hb5
  clear HM HSG hb5 c0 c1 d0 d1 d2
  have HM := Lib.hid hm
  clear hm
  ((try dsimp only); repeat (first | go_values | go_skip | go_guarded | go_step | go_upon))
  refine start_ (n := 10) (S := fun w' => w'.heap[w3.heap.size + 1]? = w5.heap[w3.heap.size + 1]? ∧ w'.heap[w3.heap.size + 1 + 1]? = w5.heap[w3.heap.size + 1 + 1]? ∧ w'.heap[g20_4]? = w5.heap[g20_4]?) (ds := [8, 9]) (bt 10 0) (by kernel_rfl) rfl rfl ((And.intro rfl (And.intro rfl rfl))) (fun hHeld => ?_)
  refine pv_ 0 73 ?_
  refine ld_ 1 74 ?_ hHeld ?_ ?_; rotate_left
  · rintro w' hs
    obtain ⟨q0, q1, q2, q3, q4, q5⟩ := rw3 ((hs.1).trans (HM.out.at 3 rfl))
    clear hs
    go_simp; with_reducible rfl
  refine ld_ 2 75 ?_ hHeld ?_ ?_; rotate_left
  · rintro w' hs
    obtain ⟨q0, q1, q2, q3, q4, q5⟩ := rw3 ((hs.2.2).trans (HM.out.at 5 rfl))
    clear hs
    go_simp; with_reducible rfl
  refine pv_ 4 77 ?_
  refine ld_ 5 78 ?_ hHeld ?_ ?_; rotate_left
  · rintro w' hs
    obtain ⟨q0, q1, q2, q3, q4, q5⟩ := rw3 ((hs.2.1).trans (HM.out.at 4 rfl))
    clear hs
    go_simp; with_reducible rfl
  refine ld_ 6 79 ?_ hHeld ?_ ?_; rotate_left
  · rintro w' hs
    obtain ⟨q0, q1, q2, q3, q4, q5⟩ := rw3 ((hs.2.2).trans (HM.out.at 5 rfl))
    clear hs
    go_simp; with_reducible rfl
  refine join_ (σ := Option Addr × Option Addr × Option Addr × Option Addr) 2 (bt 10 255) (fun s => [(76, (qv (s.1) (s.2.1) (qx / dr))), (80, (qv (s.2.2.1) (s.2.2.2) (qy / dr)))]) (fun s w' => Bx w5.heap.size w5 w' [] [((s.1), (s.2.1), (qx / dr)), ((s.2.2.1), (s.2.2.2), (qy / dr))]) ?_ ?_
  rotate_left
  · intro J0
    refine join_ (σ := Option Addr × Option Addr × Option Addr × Option Addr) 3 (bt 10 127) (fun s => [(76, (qv (s.1) (s.2.1) (qx / dr)))]) (fun s w' => Bx w5.heap.size w5 w' [] [((s.1), (s.2.1), (qx / dr))]) ?_ ?_
    · rintro ⟨P22_3, Q22_3, P22_7, Q22_7⟩ wj hF
      try dsimp only at hF ⊢
      refine nx ?_
      refine o1 7 80 (bt 10 255) ?_
      · intro K hK
        refine go_ Tryz.func65 #[.pointer (some ⟨w1.heap.size, 0, none⟩), .agg #[.bool (decide (qy.num < 0)), .slice A3 (qn qy).length (qn qy).length, .slice B3 (qd qy).length (qd qy).length], .agg #[.bool (decide (dr.num < 0)), .slice P20_3 (qn dr).length (qn dr).length, .slice Q20_3 (qd dr).length (qd dr).length]] ?_
        refine (gDiv w1.heap.size _ _ _ _ 0 wj.heap.size 6310 4212 qy dr wj ((HM.out.keep hF.m.b).at 1 rfl) ((HM.out.keep hF.m.b).ins 2 rfl) ((HM.out.keep hF.m.b).ins 4 rfl) (Nat.le_refl _) HZ.out.2.2.2.1 HZ.out.2.2.2.2.1 (by omega) HZ.out.2.2.2.2.2).mono ?_
        rintro e w' ⟨P22_7, Q22_7, rfl, hf, hb⟩
        refine ⟨_, rfl, ?_⟩
        have hN := hF.call hf hb
        refine hK.out _ _ (by exact (And.intro (hN.m.b.block _ (HM.out.lt 3 rfl)) (And.intro (hN.m.b.block _ (HM.out.lt 4 rfl)) (hN.m.b.block _ (HM.out.lt 5 rfl))))) (fun hHeld => ?_)
        exact nj (J0 (P22_3, Q22_3, P22_7, Q22_7) _ hN)
    intro J1
    refine join_ (σ := Option Addr × Option Addr × Option Addr × Option Addr) 4 (bt 10 119) (fun s => []) (fun s w' => Bx w5.heap.size w5 w' [] []) ?_ ?_
    · rintro ⟨P22_3, Q22_3, P22_7, Q22_7⟩ wj hF
      try dsimp only at hF ⊢
      refine nx ?_
      refine o1 3 76 (bt 10 127) ?_
      · intro K hK
        refine go_ Tryz.func65 #[.pointer (some ⟨w1.heap.size, 0, none⟩), .agg #[.bool (decide (qx.num < 0)), .slice A2 (qn qx).length (qn qx).length, .slice B2 (qd qx).length (qd qx).length], .agg #[.bool (decide (dr.num < 0)), .slice P20_3 (qn dr).length (qn dr).length, .slice Q20_3 (qd dr).length (qd dr).length]] ?_
        refine (gDiv w1.heap.size _ _ _ _ 0 wj.heap.size 6310 4212 qx dr wj ((HM.out.keep hF.m.b).at 1 rfl) ((HM.out.keep hF.m.b).ins 1 rfl) ((HM.out.keep hF.m.b).ins 4 rfl) (Nat.le_refl _) HZ.out.2.2.1 HZ.out.2.2.2.2.1 (by omega) HZ.out.2.2.2.2.2).mono ?_
        rintro e w' ⟨P22_3, Q22_3, rfl, hf, hb⟩
        refine ⟨_, rfl, ?_⟩
        have hN := hF.call hf hb
        refine hK.out _ _ (by exact (And.intro (hN.m.b.block _ (HM.out.lt 3 rfl)) (And.intro (hN.m.b.block _ (HM.out.lt 4 rfl)) (hN.m.b.block _ (HM.out.lt 5 rfl))))) (fun hHeld => ?_)
        exact nj (J1 (P22_3, Q22_3, P22_7, Q22_7) _ hN)
    intro J2
    exact nj (J2 (none, none, none, none) _ ((Bx.start _).drew))
  rintro ⟨P22_3, Q22_3, P22_7, Q22_7⟩ wj hF
  try dsimp only at hF ⊢
  refine nx ?_
  have hG := HM.out.join hF
  (try simp only [List.nil_append, List.cons_append, World.size_alloc, List.set_cons_zero, List.set_cons_succ, putsC, pB, pC, pD] at hG)
  have hHeld := And.intro True.intro (And.intro (hF.m.b.block _ (HM.out.lt 3 rfl)) (And.intro (hF.m.b.block _ (HM.out.lt 4 rfl)) (hF.m.b.block _ (HM.out.lt 5 rfl))))
  clear HM hF
  refine last_ (i := 8) (N := none) (bt 10 511) rfl rfl (by kernel_rfl) (by decide) (fun K hK => ?_)
  obtain ⟨y0, y1, y2, y3, y4, y5⟩ := rw3 (hG.at 3 rfl)
  refine skip_ (w1 := puts (w3.heap.size + 1) [(0, .bool (decide ((qx / dr).num < 0))), (1, .slice P22_3 (qn (qx / dr)).length (qn (qx / dr)).length), (2, .slice Q22_3 (qd (qx / dr)).length (qd (qx / dr)).length)] wj) (by rfl) rfl ?_ ?_
  · go_simp
    rfl
  refine hK.out _ _ ?_
  clear hK K y0 y1 y2 y3 y4 y5
  replace hG := hG.puts 3 rfl (by decide) [(0, .bool (decide ((qx / dr).num < 0))), (1, .slice P22_3 (qn (qx / dr)).length (qn (qx / dr)).length), (2, .slice Q22_3 (qd (qx / dr)).length (qd (qx / dr)).length)]
  (try simp only [List.nil_append, List.cons_append, World.size_alloc, List.set_cons_zero, List.set_cons_succ, putsC, pB, pC, pD] at hG)
  generalize puts (w3.heap.size + 1) _ wj = wk23 at *
  refine last_ (i := 9) (N := none) (bt 10 1023) rfl rfl (by kernel_rfl) (by decide) (fun K hK => ?_)
  obtain ⟨y0, y1, y2, y3, y4, y5⟩ := rw3 (hG.at 4 rfl)
  refine skip_ (w1 := puts (w3.heap.size + 1 + 1) [(0, .bool (decide ((qy / dr).num < 0))), (1, .slice P22_7 (qn (qy / dr)).length (qn (qy / dr)).length), (2, .slice Q22_7 (qd (qy / dr)).length (qd (qy / dr)).length)] wk23) (by rfl) rfl ?_ ?_
  · go_simp
    rfl
  refine hK.out _ _ ?_
  clear hK K y0 y1 y2 y3 y4 y5
  replace hG := hG.puts 4 rfl (by decide) [(0, .bool (decide ((qy / dr).num < 0))), (1, .slice P22_7 (qn (qy / dr)).length (qn (qy / dr)).length), (2, .slice Q22_7 (qd (qy / dr)).length (qd (qy / dr)).length)]
  (try simp only [List.nil_append, List.cons_append, World.size_alloc, List.set_cons_zero, List.set_cons_succ, putsC, pB, pC, pD] at hG)
  generalize puts (w3.heap.size + 1 + 1) _ wk23 = wk24 at *
  refine done_ (by kernel_rfl) ?_
  (try simp only [List.nil_append, List.cons_append, World.size_alloc, List.set_cons_zero, List.set_cons_succ, putsC, pB, pC, pD] at hG)
  have HM := Lib.hid hG
  clear hG hHeld
  rw [← HEX.out.1, ← HEX.out.2] at HM
  clear hsg hq
  have HN1 : Hid (∀ wz A B, RatIn 0 wz.heap.size wz A B cx → Calls Tryz.prog 66 #[.agg #[.bool (decide (cx.num < 0)), .slice A (qn cx).length (qn cx).length, .slice B (qd cx).length (qd cx).length], .int .i64 0] wz fun e w' => e = .returned (.tuple #[.int .u64 (nearR cx).1, .int .i64 0]) ∧ Below wz.heap.size wz w') :=
    Lib.hid (fun wz A B h => vRat cx A B 0 _ wz h (Nat.le_refl _) HF.out.2.1 HF.out.1.1)
  have HN2 : Hid (∀ wz A B, RatIn 0 wz.heap.size wz A B cy → Calls Tryz.prog 66 #[.agg #[.bool (decide (cy.num < 0)), .slice A (qn cy).length (qn cy).length, .slice B (qd cy).length (qd cy).length], .int .i64 0] wz fun e w' => e = .returned (.tuple #[.int .u64 (nearR cy).1, .int .i64 0]) ∧ Below wz.heap.size wz w') :=
    Lib.hid (fun wz A B h => vRat cy A B 0 _ wz h (Nat.le_refl _) HF.out.2.2 HF.out.1.2)
  generalize hrx : (nearR cx).1 = rx at *
  generalize hry : (nearR cy).1 = ry at *
  have HRX := Lib.hid (And.intro hrx hry)
  clear hrx hry
  obtain ⟨c0, c1⟩ := rw1 (HM.out.at 1 rfl)
  obtain ⟨d0, d1, d2, _, _, _⟩ := rw3 (HM.out.at 3 rfl)
  have HV := Lib.hid (HN1.out _ _ _ (HM.out.ins 5 rfl))
  ((try dsimp only); repeat (first | go_values | go_skip | go_guarded | go_step | go_upon))
  refine HV.out.mono ?_
  rintro e w7 ⟨rfl, hb7⟩
  have hm := HM.out.keep hb7
  clear HM HV hb7 c0 c1 d0 d1 d2
  have HM := Lib.hid hm
  clear hm
  obtain ⟨d0, d1, d2, _, _, _⟩ := rw3 (HM.out.at 4 rfl)
  have HV := Lib.hid (HN2.out _ _ _ (HM.out.ins 6 rfl))
  ((try dsimp only); repeat (first | go_values | go_skip | go_guarded | go_step | go_upon))
  refine HV.out.mono ?_
  rintro e w8 ⟨rfl, hb8⟩
  have hm := HM.out.keep hb8
  clear HM HV hb8 d0 d1 d2
  have HM := Lib.hid hm
  clear hm
  obtain ⟨e0, e1, f0, f1⟩ := rw2 (HM.out.at 0 rfl)
  ((try dsimp only); repeat (first | go_values | go_skip | go_guarded | go_step | go_upon))
  have hN := HM.out.puts 0 rfl (by decide) [(0, .int .u64 rx), (1, .int .u64 ry)]
  simp only [putsC, puts, pB, pC, pD, List.set_cons_zero, List.set_cons_succ] at hN
  obtain ⟨rfl, rfl⟩ := HRX.out
  refine bodyPost_ret (results_row_tmp rfl _ _ w.heap.size _ _ _ _ rfl (hN.at 0 rfl) rfl rfl rfl) rfl ⟨rfl, hN.m.b⟩
end Go.Proofs.YtfpofmifmapmfaaGreatDoor

namespace Go.Proofs.YtfpofmifmapmfaaGreatDoor
open Go.RowKit Go.Proofs.YtfpofmifmapmfaaGreatDoorW.PrintLast
set_option linter.unusedVariables false
set_option linter.unusedSimpArgs false
def sideV (ps : List Pt) (p : Pt) : Int × Int :=
  if (windV ps p).2.2 ≠ 0 then (0, (windV ps p).2.2) else if (windV ps p).2.1 = true then (0, 0) else if (windV ps p).1.tmod 2 ≠ 0 then (1, 0) else (-1, 0)
set_option maxRecDepth 100000 in
set_option maxHeartbeats 1600000 in
theorem gSide (A : Option Addr) (c : Nat) (ps : List Pt) (p : Pt) (w : World) (hp : PtsIn w A ps) (hl : ps.length ≤ 1000000) (hu : ∀ q ∈ ps, PtU q) (hup : PtU p) :
    Calls Tryz.prog 25 #[.slice A ps.length c, .agg #[.int .u64 p.1, .int .u64 p.2]] w fun e w' => e = .returned (.tuple #[.int .i64 (sideV ps p).1, .int .i64 (sideV ps p).2]) ∧ Below w.heap.size w w' := by
  have hb : Below w.heap.size w (w.alloc (.cells #[.int .u64 p.1, .int .u64 p.2] 38)) := (Below.refl _ _).alloc (Nat.le_refl _) _
  have HW := Lib.hid (gWinding A c ps p _ (hp.keep hb) hl hu hup)
  have HE : Hid (sideV ps p = if (windV ps p).2.2 ≠ 0 then (0, (windV ps p).2.2) else if (windV ps p).2.1 = true then (0, 0) else if (windV ps p).1.tmod 2 ≠ 0 then (1, 0) else (-1, 0)) := Lib.hid rfl
  have HB := Lib.hid hb
  clear hp hl hu hup hb
  generalize sideV ps p = V at *
  generalize windV ps p = U at *
  obtain ⟨n, on, er⟩ := U
  dsimp only at HW HE
  generalize ps.length = m at *
  go_enter Tryz.func25, Tryz.ntmps25
  ((try dsimp only); repeat (first | go_values | go_skip | go_guarded | go_step | go_upon))
  refine HW.out.mono ?_
  rintro e w1 ⟨rfl, hb1⟩
  have hb2 := HB.out.trans (hb1.mono (by simp))
  have HB2 := Lib.hid hb2
  clear HW HB hb1 hb2
  by_cases h1 : er = 0
  · subst h1
    rw [if_neg (by decide)] at HE
    cases on with
    | true =>
      rw [if_pos rfl] at HE
      ((try dsimp only); repeat (first | go_values | go_skip | go_guarded | go_step | go_upon))
      go_ret2
      exact ⟨by rw [HE.out]; rfl, HB2.out⟩
    | false =>
      rw [if_neg (by decide)] at HE
      have ht : n.tmod 2 = 0 ∨ n.tmod 2 ≠ 0 := by omega
      by_cases h2 : n.tmod 2 = 0
      · rw [if_neg (by omega)] at HE
        ((try dsimp only); repeat (first | go_values | go_skip | go_guarded | go_step | go_upon))
        go_ret2
        exact ⟨by rw [HE.out]; rfl, HB2.out⟩
      · rw [if_pos h2] at HE
        ((try dsimp only); repeat (first | go_values | go_skip | go_guarded | go_step | go_upon))
        go_ret2
        exact ⟨by rw [HE.out]; rfl, HB2.out⟩
  · rw [if_pos h1] at HE
    ((try dsimp only); repeat (first | go_values | go_skip | go_guarded | go_step | go_upon))
    go_ret2
    exact ⟨by rw [HE.out]; rfl, HB2.out⟩
end Go.Proofs.YtfpofmifmapmfaaGreatDoor
