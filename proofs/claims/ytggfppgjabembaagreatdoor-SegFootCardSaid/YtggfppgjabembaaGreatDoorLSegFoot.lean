/- The law SegFoot of package plumblaw23 answers true at every four points, and changes nothing that it was handed: the tied card, for every input, no condition. -/
import Derived.Test.YtggfppgjabembaaGreatDoorKO
import Derived.Test.YtggfppgjabembaaGreatDoorKI
import Derived.Test.YtggfppgjabembaaGreatDoorCards
import Derived.Test.YtggfppgjabembaaGreatDoorTie
import Derived.SevenTiedAt
namespace Go.Proofs.YtggfppgjabembaaGreatDoor
open Go.RowKit Go.Proofs.YtggfppgjabembaaGreatDoorW.PrintLast
set_option linter.unusedVariables false
set_option linter.unusedSimpArgs false
structure FooC (a b c d A B C D : Pt) (x y dd z ax ay bx bY : Rat) (s : Int) : Prop where
  sp : ∀ wz, Calls Tryz.prog 9 #[fr a b c d] wz fun e w' => e = .returned (fr A B C D) ∧ Below wz.heap.size wz w'
  f1 : ∀ wz, Calls Tryz.prog 26 #[pt A, pt B, pt C] wz fun e w' => ∃ E F G I, e = .returned (.tuple #[qv E F x, qv G I y, .int .i64 0]) ∧ RatFresh wz.heap.size w' E F x ∧ RatFresh wz.heap.size w' G I y ∧ Below wz.heap.size wz w'
  f2 : ∀ wz, Calls Tryz.prog 26 #[pt B, pt A, pt C] wz fun e w' => ∃ E F G I, e = .returned (.tuple #[qv E F x, qv G I y, .int .i64 0]) ∧ RatFresh wz.heap.size w' E F x ∧ RatFresh wz.heap.size w' G I y ∧ Below wz.heap.size wz w'
  r1 : ∀ wz, Calls Tryz.prog 27 #[pt A, pt B, pt C] wz fun e w' => ∃ E F, e = .returned (.tuple #[qv E F dd, .int .i64 0]) ∧ RatFresh wz.heap.size w' E F dd ∧ Below wz.heap.size wz w'
  r2 : ∀ wz, Calls Tryz.prog 27 #[pt B, pt A, pt C] wz fun e w' => ∃ E F, e = .returned (.tuple #[qv E F dd, .int .i64 0]) ∧ RatFresh wz.heap.size w' E F dd ∧ Below wz.heap.size wz w'
  bt : ∀ wz, Calls Tryz.prog 14 #[pt A, pt B, pt C] wz fun e w' => e = .returned (.tuple #[.bool (s == 0), .int .i64 0]) ∧ Below wz.heap.size wz w'
  sg : ∀ E F wz, RatIn 0 wz.heap.size wz E F dd → Calls Tryz.prog 21 #[qv E F dd] wz fun e w' => e = .returned (.int .i64 s) ∧ Below wz.heap.size wz w'
  sd : ∀ P Q P' Q' wz, RatIn 0 wz.heap.size wz P Q x → RatIn 0 wz.heap.size wz P' Q' y → Calls Tryz.prog 19 #[pt A, pt B, qv P Q x, qv P' Q' y] wz fun e w' => ∃ E F, e = .returned (.tuple #[qv E F z, .bool true]) ∧ RatFresh wz.heap.size w' E F z ∧ Below wz.heap.size wz w'
  sz : ∀ E F wz, RatIn 0 wz.heap.size wz E F z → Calls Tryz.prog 21 #[qv E F z] wz fun e w' => e = .returned (.int .i64 0) ∧ Below wz.heap.size wz w'
  sq : ∀ P Q P' Q' wz, RatIn 0 wz.heap.size wz P Q x → RatIn 0 wz.heap.size wz P' Q' y → Calls Tryz.prog 28 #[pt C, qv P Q x, qv P' Q' y] wz fun e w' => ∃ E F, e = .returned (.tuple #[qv E F dd, .bool true]) ∧ RatFresh wz.heap.size w' E F dd ∧ Below wz.heap.size wz w'
  v1 : ∀ wz, Calls Tryz.prog 18 #[.int .u64 A.1] wz fun e w' => ∃ E F, e = .returned (.tuple #[qv E F ax, .int .i64 0]) ∧ RatFresh wz.heap.size w' E F ax ∧ Below wz.heap.size wz w'
  v2 : ∀ wz, Calls Tryz.prog 18 #[.int .u64 B.1] wz fun e w' => ∃ E F, e = .returned (.tuple #[qv E F bx, .int .i64 0]) ∧ RatFresh wz.heap.size w' E F bx ∧ Below wz.heap.size wz w'
  v3 : ∀ wz, Calls Tryz.prog 18 #[.int .u64 A.2] wz fun e w' => ∃ E F, e = .returned (.tuple #[qv E F ay, .int .i64 0]) ∧ RatFresh wz.heap.size w' E F ay ∧ Below wz.heap.size wz w'
  v4 : ∀ wz, Calls Tryz.prog 18 #[.int .u64 B.2] wz fun e w' => ∃ E F, e = .returned (.tuple #[qv E F bY, .int .i64 0]) ∧ RatFresh wz.heap.size w' E F bY ∧ Below wz.heap.size wz w'
  i1 : ∀ P Q P' Q' P2 Q2 wz, RatIn 0 wz.heap.size wz P Q ax → RatIn 0 wz.heap.size wz P' Q' bx → RatIn 0 wz.heap.size wz P2 Q2 x → Calls Tryz.prog 30 #[qv P Q ax, qv P' Q' bx, qv P2 Q2 x] wz fun e w' => e = .returned (.bool true) ∧ Below wz.heap.size wz w'
  i2 : ∀ P Q P' Q' P2 Q2 wz, RatIn 0 wz.heap.size wz P Q ay → RatIn 0 wz.heap.size wz P' Q' bY → RatIn 0 wz.heap.size wz P2 Q2 y → Calls Tryz.prog 30 #[qv P Q ay, qv P' Q' bY, qv P2 Q2 y] wz fun e w' => e = .returned (.bool true) ∧ Below wz.heap.size wz w'
  rd : ∀ k : Nat, k ≤ 16 → ∃ (px py q : Rat) (co : Int), co ≤ 0 ∧ (∀ wz, Calls Tryz.prog 29 #[pt A, pt B, .int .i64 (k : Int)] wz fun e w' => ∃ E F G I, e = .returned (.tuple #[qv E F px, qv G I py, .bool true]) ∧ RatFresh wz.heap.size w' E F px ∧ RatFresh wz.heap.size w' G I py ∧ Below wz.heap.size wz w') ∧ (∀ P Q P' Q' wz, RatIn 0 wz.heap.size wz P Q px → RatIn 0 wz.heap.size wz P' Q' py → Calls Tryz.prog 28 #[pt C, qv P Q px, qv P' Q' py] wz fun e w' => ∃ E F, e = .returned (.tuple #[qv E F q, .bool true]) ∧ RatFresh wz.heap.size w' E F q ∧ Below wz.heap.size wz w') ∧ (∀ P Q P' Q' wz, RatIn 0 wz.heap.size wz P Q dd → RatIn 0 wz.heap.size wz P' Q' q → Calls Tryz.prog 20 #[qv P Q dd, qv P' Q' q] wz fun e w' => e = .returned (.tuple #[.int .i64 co, .int .i64 0]) ∧ Below wz.heap.size wz w')
set_option maxRecDepth 100000 in
set_option maxHeartbeats 12800000 in
theorem lSegFootIn (a b c d A B C D : Pt) (x y dd z ax ay bx bY : Rat) (s : Int) (w : World) (H : FooC a b c d A B C D x y dd z ax ay bx bY s)
    (hx : (qn x).length ≤ 4096 ∧ (qd x).length ≤ 4096) (hy : (qn y).length ≤ 4096 ∧ (qd y).length ≤ 4096) (hd : (qn dd).length ≤ 4096 ∧ (qd dd).length ≤ 4096) :
    Calls Tryz.prog 6 #[fr a b c d] w fun e w' => e = .returned (.bool true) ∧ Below w.heap.size w w' := by
  obtain ⟨hsp, hf1, hf2, hr1, hr2, hbt, hsg, hsd, hsz, hsq, hv1, hv2, hv3, hv4, hi1, hi2, hrd⟩ := H
  have Hsp := Lib.hid hsp
  have Hf1 := Lib.hid hf1
  have Hf2 := Lib.hid hf2
  have Hr1 := Lib.hid hr1
  have Hr2 := Lib.hid hr2
  have Hbt := Lib.hid hbt
  have Hsg := Lib.hid hsg
  have Hsd := Lib.hid hsd
  have Hsz := Lib.hid hsz
  have Hsq := Lib.hid hsq
  have Hv1 := Lib.hid hv1
  have Hv2 := Lib.hid hv2
  have Hv3 := Lib.hid hv3
  have Hv4 := Lib.hid hv4
  have Hi1 := Lib.hid hi1
  have Hi2 := Lib.hid hi2
  have Hrd := Lib.hid hrd
  clear hsp hf1 hf2 hr1 hr2 hbt hsg hsd hsz hsq hv1 hv2 hv3 hv4 hi1 hi2 hrd
  have ON := Lib.hid (fun (q : Rat) (hq : (qn q).length ≤ 4096 ∧ (qd q).length ≤ 4096) P Q P' Q' wz (h1 : RatIn 0 wz.heap.size wz P Q q) (h2 : RatIn 0 wz.heap.size wz P' Q' q) => lOne (decide (q.num < 0)) P Q P' Q' (qn q) (qd q) 0 wz.heap.size wz h1.n h1.d h2.n h2.d (Nat.le_refl _) (by omega) (by omega))
  have ONx := Lib.hid (fun P Q P' Q' wz h1 h2 => ON.out x hx P Q P' Q' wz h1 h2)
  have ONy := Lib.hid (fun P Q P' Q' wz h1 h2 => ON.out y hy P Q P' Q' wz h1 h2)
  have ONdd := Lib.hid (fun P Q P' Q' wz h1 h2 => ON.out dd hd P Q P' Q' wz h1 h2)
  have LA := Lib.hid (fun wz => lAlive wz)
  clear ON hx hy hd
  unfold fr pt qv at *
  have hmm : Bx w.heap.size w (w.alloc (.cells #[.int .u64 a.1, .int .u64 a.2, .int .u64 b.1, .int .u64 b.2, .int .u64 c.1, .int .u64 c.2, .int .u64 d.1, .int .u64 d.2] 26)) _ _ := (Bx.start w).alloc (.cells #[.int .u64 a.1, .int .u64 a.2, .int .u64 b.1, .int .u64 b.2, .int .u64 c.1, .int .u64 c.2, .int .u64 d.1, .int .u64 d.2] 26 (0, 0))
  go_enter Tryz.func6, Tryz.ntmps6
  go_upto_region 1 with (fail)
  generalize (World.alloc w _) = v at *
  (try simp only [List.nil_append, List.cons_append, World.size_alloc, List.set_cons_zero, List.set_cons_succ, putsC, pB, pC, pD] at hmm)
  have HM := Lib.hid hmm
  clear hmm
  obtain ⟨c0_0, c0_1, c0_2, c0_3, c0_4, c0_5, c0_6, c0_7, c0_8, c0_9, c0_10, c0_11, c0_12, c0_13, c0_14, c0_15⟩ := rw8 (HM.out.at 0 rfl)
  have HK := Lib.hid (Hsp.out v)
  ((try dsimp only); repeat (first | go_values | go_skip | go_guarded | go_step | go_upon))
  refine HK.out.mono ?_
  rintro e w0 ⟨rfl, hb⟩
  have hm := (HM.out.keep hb)
  clear HK HM hb c0_0 c0_1 c0_2 c0_3 c0_4 c0_5 c0_6 c0_7 c0_8 c0_9 c0_10 c0_11 c0_12 c0_13 c0_14 c0_15
  (try simp only [List.nil_append, List.cons_append, World.size_alloc, List.set_cons_zero, List.set_cons_succ, putsC, pB, pC, pD] at hm)
  have HM := Lib.hid hm
  clear hm
  obtain ⟨c0_0, c0_1, c0_2, c0_3, c0_4, c0_5, c0_6, c0_7, c0_8, c0_9, c0_10, c0_11, c0_12, c0_13, c0_14, c0_15⟩ := rw8 (HM.out.at 0 rfl)
  have hm : Bx w.heap.size w (World.setCell (World.setCell (World.setCell (World.setCell (World.setCell (World.setCell (World.setCell (World.setCell w0 ⟨w.heap.size, 0, none⟩ (.int .u64 A.1)) ⟨w.heap.size, 1, none⟩ (.int .u64 A.2)) ⟨w.heap.size, 2, none⟩ (.int .u64 B.1)) ⟨w.heap.size, 3, none⟩ (.int .u64 B.2)) ⟨w.heap.size, 4, none⟩ (.int .u64 C.1)) ⟨w.heap.size, 5, none⟩ (.int .u64 C.2)) ⟨w.heap.size, 6, none⟩ (.int .u64 D.1)) ⟨w.heap.size, 7, none⟩ (.int .u64 D.2)) _ _ := (HM.out.puts 0 rfl (by decide) [(0, .int .u64 A.1), (1, .int .u64 A.2), (2, .int .u64 B.1), (3, .int .u64 B.2), (4, .int .u64 C.1), (5, .int .u64 C.2), (6, .int .u64 D.1), (7, .int .u64 D.2)])
  go_upto_region 2 with (fail)
  generalize (World.setCell (World.setCell (World.setCell (World.setCell (World.setCell (World.setCell (World.setCell (World.setCell w0 _ _) _ _) _ _) _ _) _ _) _ _) _ _) _ _) = v1 at *
  clear HM c0_0 c0_1 c0_2 c0_3 c0_4 c0_5 c0_6 c0_7 c0_8 c0_9 c0_10 c0_11 c0_12 c0_13 c0_14 c0_15
  (try simp only [List.nil_append, List.cons_append, World.size_alloc, List.set_cons_zero, List.set_cons_succ, putsC, pB, pC, pD] at hm)
  have HM := Lib.hid hm
  clear hm
  obtain ⟨c0_0, c0_1, c0_2, c0_3, c0_4, c0_5, c0_6, c0_7, c0_8, c0_9, c0_10, c0_11, c0_12, c0_13, c0_14, c0_15⟩ := rw8 (HM.out.at 0 rfl)
  have HK := Lib.hid (Hf1.out v1)
  ((try dsimp only); repeat (first | go_values | go_skip | go_guarded | go_step | go_upon))
  refine HK.out.mono ?_
  rintro e w2 ⟨E2, F2, G2, I2, rfl, hf, hf2, hb⟩
  have hm : Bx w.heap.size w (World.alloc (World.alloc w2 (.cells #[.bool (decide (x.num < 0)), .slice E2 (qn x).length (qn x).length, .slice F2 (qd x).length (qd x).length] 45)) (.cells #[.bool (decide (y.num < 0)), .slice G2 (qn y).length (qn y).length, .slice I2 (qd y).length (qd y).length] 45)) _ _ := (((HM.out.call3 hf hf2 hb).alloc (.cells #[.bool (decide (x.num < 0)), .slice E2 (qn x).length (qn x).length, .slice F2 (qd x).length (qd x).length] 45 (0, 0))).alloc (.cells #[.bool (decide (y.num < 0)), .slice G2 (qn y).length (qn y).length, .slice I2 (qd y).length (qd y).length] 45 (0, 0)))
  clear HK HM hf hf2 hb c0_0 c0_1 c0_2 c0_3 c0_4 c0_5 c0_6 c0_7 c0_8 c0_9 c0_10 c0_11 c0_12 c0_13 c0_14 c0_15
  go_upto_region 3 with (fail)
  generalize (World.alloc (World.alloc w2 _) _) = v3 at *
  (try simp only [List.nil_append, List.cons_append, World.size_alloc, List.set_cons_zero, List.set_cons_succ, putsC, pB, pC, pD] at hm)
  have HM := Lib.hid hm
  clear hm
  obtain ⟨c0_0, c0_1, c0_2, c0_3, c0_4, c0_5, c0_6, c0_7, c0_8, c0_9, c0_10, c0_11, c0_12, c0_13, c0_14, c0_15⟩ := rw8 (HM.out.at 0 rfl)
  have HK := Lib.hid (Hr1.out v3)
  ((try dsimp only); repeat (first | go_values | go_skip | go_guarded | go_step | go_upon))
  refine HK.out.mono ?_
  rintro e w4 ⟨E4, F4, rfl, hf, hb⟩
  have hm : Bx w.heap.size w (World.alloc w4 (.cells #[.bool (decide (dd.num < 0)), .slice E4 (qn dd).length (qn dd).length, .slice F4 (qd dd).length (qd dd).length] 45)) _ _ := ((HM.out.call hf hb).alloc (.cells #[.bool (decide (dd.num < 0)), .slice E4 (qn dd).length (qn dd).length, .slice F4 (qd dd).length (qd dd).length] 45 (0, 0)))
  clear HK HM hf hb c0_0 c0_1 c0_2 c0_3 c0_4 c0_5 c0_6 c0_7 c0_8 c0_9 c0_10 c0_11 c0_12 c0_13 c0_14 c0_15
  go_upto_region 4 with (fail)
  generalize (World.alloc w4 _) = v5 at *
  (try simp only [List.nil_append, List.cons_append, World.size_alloc, List.set_cons_zero, List.set_cons_succ, putsC, pB, pC, pD] at hm)
  have HM := Lib.hid hm
  clear hm
  obtain ⟨c0_0, c0_1, c0_2, c0_3, c0_4, c0_5, c0_6, c0_7, c0_8, c0_9, c0_10, c0_11, c0_12, c0_13, c0_14, c0_15⟩ := rw8 (HM.out.at 0 rfl)
  have HK := Lib.hid (Hf2.out v5)
  ((try dsimp only); repeat (first | go_values | go_skip | go_guarded | go_step | go_upon))
  refine HK.out.mono ?_
  rintro e w6 ⟨E6, F6, G6, I6, rfl, hf, hf2, hb⟩
  have hm : Bx w.heap.size w (World.alloc (World.alloc w6 (.cells #[.bool (decide (x.num < 0)), .slice E6 (qn x).length (qn x).length, .slice F6 (qd x).length (qd x).length] 45)) (.cells #[.bool (decide (y.num < 0)), .slice G6 (qn y).length (qn y).length, .slice I6 (qd y).length (qd y).length] 45)) _ _ := (((HM.out.call3 hf hf2 hb).alloc (.cells #[.bool (decide (x.num < 0)), .slice E6 (qn x).length (qn x).length, .slice F6 (qd x).length (qd x).length] 45 (0, 0))).alloc (.cells #[.bool (decide (y.num < 0)), .slice G6 (qn y).length (qn y).length, .slice I6 (qd y).length (qd y).length] 45 (0, 0)))
  clear HK HM hf hf2 hb c0_0 c0_1 c0_2 c0_3 c0_4 c0_5 c0_6 c0_7 c0_8 c0_9 c0_10 c0_11 c0_12 c0_13 c0_14 c0_15
  go_upto_region 5 with (fail)
  generalize (World.alloc (World.alloc w6 _) _) = v7 at *
  (try simp only [List.nil_append, List.cons_append, World.size_alloc, List.set_cons_zero, List.set_cons_succ, putsC, pB, pC, pD] at hm)
  have HM := Lib.hid hm
  clear hm
  obtain ⟨c0_0, c0_1, c0_2, c0_3, c0_4, c0_5, c0_6, c0_7, c0_8, c0_9, c0_10, c0_11, c0_12, c0_13, c0_14, c0_15⟩ := rw8 (HM.out.at 0 rfl)
  have HK := Lib.hid (Hr2.out v7)
  ((try dsimp only); repeat (first | go_values | go_skip | go_guarded | go_step | go_upon))
  refine HK.out.mono ?_
  rintro e w8 ⟨E8, F8, rfl, hf, hb⟩
  have hm : Bx w.heap.size w (World.alloc w8 (.cells #[.bool (decide (dd.num < 0)), .slice E8 (qn dd).length (qn dd).length, .slice F8 (qd dd).length (qd dd).length] 45)) _ _ := ((HM.out.call hf hb).alloc (.cells #[.bool (decide (dd.num < 0)), .slice E8 (qn dd).length (qn dd).length, .slice F8 (qd dd).length (qd dd).length] 45 (0, 0)))
  clear HK HM hf hb c0_0 c0_1 c0_2 c0_3 c0_4 c0_5 c0_6 c0_7 c0_8 c0_9 c0_10 c0_11 c0_12 c0_13 c0_14 c0_15
  go_upto_region 6 with (fail)
  generalize (World.alloc w8 _) = v9 at *
  (try simp only [List.nil_append, List.cons_append, World.size_alloc, List.set_cons_zero, List.set_cons_succ, putsC, pB, pC, pD] at hm)
  have HM := Lib.hid hm
  clear hm
  obtain ⟨c0_0, c0_1, c0_2, c0_3, c0_4, c0_5, c0_6, c0_7, c0_8, c0_9, c0_10, c0_11, c0_12, c0_13, c0_14, c0_15⟩ := rw8 (HM.out.at 0 rfl)
  have HK := Lib.hid (Hbt.out v9)
  ((try dsimp only); repeat (first | go_values | go_skip | go_guarded | go_step | go_upon))
  refine HK.out.mono ?_
  rintro e w10 ⟨rfl, hb⟩
  have hm := (HM.out.keep hb)
  clear HK HM hb c0_0 c0_1 c0_2 c0_3 c0_4 c0_5 c0_6 c0_7 c0_8 c0_9 c0_10 c0_11 c0_12 c0_13 c0_14 c0_15
  (try simp only [List.nil_append, List.cons_append, World.size_alloc, List.set_cons_zero, List.set_cons_succ, putsC, pB, pC, pD] at hm)
  have HM := Lib.hid hm
  clear hm
  go_upto_region 7 with (fail)
  have HK := Lib.hid (LA.out w10)
  ((try dsimp only); repeat (first | go_values | go_skip | go_guarded | go_step | go_upon))
  refine HK.out.mono ?_
  rintro e w11 ⟨rfl, hb⟩
  have hm := (HM.out.keep hb)
  clear HK HM hb 
  (try simp only [List.nil_append, List.cons_append, World.size_alloc, List.set_cons_zero, List.set_cons_succ, putsC, pB, pC, pD] at hm)
  have HM := Lib.hid hm
  clear hm
  obtain ⟨c1_0, c1_1, c1_2, c1_3, c1_4, c1_5⟩ := rw3 (HM.out.at 1 rfl)
  obtain ⟨c4_0, c4_1, c4_2, c4_3, c4_4, c4_5⟩ := rw3 (HM.out.at 4 rfl)
  have HK := Lib.hid (ONx.out _ _ _ _ w11 (HM.out.ins 0 rfl) (HM.out.ins 3 rfl))
  ((try dsimp only); repeat (first | go_values | go_skip | go_guarded | go_step | go_upon))
  refine HK.out.mono ?_
  rintro e w12 ⟨rfl, hb⟩
  have hm := (HM.out.keep hb)
  clear HK HM hb c1_0 c1_1 c1_2 c1_3 c1_4 c1_5 c4_0 c4_1 c4_2 c4_3 c4_4 c4_5
  (try simp only [List.nil_append, List.cons_append, World.size_alloc, List.set_cons_zero, List.set_cons_succ, putsC, pB, pC, pD] at hm)
  have HM := Lib.hid hm
  clear hm
  obtain ⟨c2_0, c2_1, c2_2, c2_3, c2_4, c2_5⟩ := rw3 (HM.out.at 2 rfl)
  obtain ⟨c5_0, c5_1, c5_2, c5_3, c5_4, c5_5⟩ := rw3 (HM.out.at 5 rfl)
  have HK := Lib.hid (ONy.out _ _ _ _ w12 (HM.out.ins 1 rfl) (HM.out.ins 4 rfl))
  ((try dsimp only); repeat (first | go_values | go_skip | go_guarded | go_step | go_upon))
  refine HK.out.mono ?_
  rintro e w13 ⟨rfl, hb⟩
  have hm := (HM.out.keep hb)
  clear HK HM hb c2_0 c2_1 c2_2 c2_3 c2_4 c2_5 c5_0 c5_1 c5_2 c5_3 c5_4 c5_5
  (try simp only [List.nil_append, List.cons_append, World.size_alloc, List.set_cons_zero, List.set_cons_succ, putsC, pB, pC, pD] at hm)
  have HM := Lib.hid hm
  clear hm
  obtain ⟨c3_0, c3_1, c3_2, c3_3, c3_4, c3_5⟩ := rw3 (HM.out.at 3 rfl)
  obtain ⟨c6_0, c6_1, c6_2, c6_3, c6_4, c6_5⟩ := rw3 (HM.out.at 6 rfl)
  have HK := Lib.hid (ONdd.out _ _ _ _ w13 (HM.out.ins 2 rfl) (HM.out.ins 5 rfl))
  ((try dsimp only); repeat (first | go_values | go_skip | go_guarded | go_step | go_upon))
  refine HK.out.mono ?_
  rintro e w14 ⟨rfl, hb⟩
  have hm := (HM.out.keep hb)
  clear HK HM hb c3_0 c3_1 c3_2 c3_3 c3_4 c3_5 c6_0 c6_1 c6_2 c6_3 c6_4 c6_5
  (try simp only [List.nil_append, List.cons_append, World.size_alloc, List.set_cons_zero, List.set_cons_succ, putsC, pB, pC, pD] at hm)
  have HM := Lib.hid hm
  clear hm
  obtain ⟨c3_0, c3_1, c3_2, c3_3, c3_4, c3_5⟩ := rw3 (HM.out.at 3 rfl)
  have HK := Lib.hid (Hsg.out _ _ w14 (HM.out.ins 2 rfl))
  ((try dsimp only); repeat (first | go_values | go_skip | go_guarded | go_step | go_upon))
  refine HK.out.mono ?_
  rintro e w15 ⟨rfl, hb⟩
  have hm := (HM.out.keep hb)
  clear HK HM hb c3_0 c3_1 c3_2 c3_3 c3_4 c3_5
  (try simp only [List.nil_append, List.cons_append, World.size_alloc, List.set_cons_zero, List.set_cons_succ, putsC, pB, pC, pD] at hm)
  have HM := Lib.hid hm
  clear hm
  go_upto_region 9 with (fail)
  obtain ⟨c0_0, c0_1, c0_2, c0_3, c0_4, c0_5, c0_6, c0_7, c0_8, c0_9, c0_10, c0_11, c0_12, c0_13, c0_14, c0_15⟩ := rw8 (HM.out.at 0 rfl)
  obtain ⟨c1_0, c1_1, c1_2, c1_3, c1_4, c1_5⟩ := rw3 (HM.out.at 1 rfl)
  obtain ⟨c2_0, c2_1, c2_2, c2_3, c2_4, c2_5⟩ := rw3 (HM.out.at 2 rfl)
  have HK := Lib.hid (Hsd.out _ _ _ _ w15 (HM.out.ins 0 rfl) (HM.out.ins 1 rfl))
  ((try dsimp only); repeat (first | go_values | go_skip | go_guarded | go_step | go_upon))
  refine HK.out.mono ?_
  rintro e w16 ⟨E16, F16, rfl, hf, hb⟩
  have hm : Bx w.heap.size w (World.alloc w16 (.cells #[.bool (decide (z.num < 0)), .slice E16 (qn z).length (qn z).length, .slice F16 (qd z).length (qd z).length] 45)) _ _ := ((HM.out.call hf hb).alloc (.cells #[.bool (decide (z.num < 0)), .slice E16 (qn z).length (qn z).length, .slice F16 (qd z).length (qd z).length] 45 (0, 0)))
  clear HK HM hf hb c0_0 c0_1 c0_2 c0_3 c0_4 c0_5 c0_6 c0_7 c0_8 c0_9 c0_10 c0_11 c0_12 c0_13 c0_14 c0_15 c1_0 c1_1 c1_2 c1_3 c1_4 c1_5 c2_0 c2_1 c2_2 c2_3 c2_4 c2_5
  go_upto_region 10 with (fail)
  generalize (World.alloc w16 _) = v17 at *
  (try simp only [List.nil_append, List.cons_append, World.size_alloc, List.set_cons_zero, List.set_cons_succ, putsC, pB, pC, pD] at hm)
  have HM := Lib.hid hm
  clear hm
  obtain ⟨c0_0, c0_1, c0_2, c0_3, c0_4, c0_5, c0_6, c0_7, c0_8, c0_9, c0_10, c0_11, c0_12, c0_13, c0_14, c0_15⟩ := rw8 (HM.out.at 0 rfl)
  obtain ⟨c1_0, c1_1, c1_2, c1_3, c1_4, c1_5⟩ := rw3 (HM.out.at 1 rfl)
  obtain ⟨c2_0, c2_1, c2_2, c2_3, c2_4, c2_5⟩ := rw3 (HM.out.at 2 rfl)
  have HK := Lib.hid (Hsq.out _ _ _ _ v17 (HM.out.ins 0 rfl) (HM.out.ins 1 rfl))
  ((try dsimp only); repeat (first | go_values | go_skip | go_guarded | go_step | go_upon))
  refine HK.out.mono ?_
  rintro e w18 ⟨E18, F18, rfl, hf, hb⟩
  have hm : Bx w.heap.size w (World.alloc w18 (.cells #[.bool (decide (dd.num < 0)), .slice E18 (qn dd).length (qn dd).length, .slice F18 (qd dd).length (qd dd).length] 45)) _ _ := ((HM.out.call hf hb).alloc (.cells #[.bool (decide (dd.num < 0)), .slice E18 (qn dd).length (qn dd).length, .slice F18 (qd dd).length (qd dd).length] 45 (0, 0)))
  clear HK HM hf hb c0_0 c0_1 c0_2 c0_3 c0_4 c0_5 c0_6 c0_7 c0_8 c0_9 c0_10 c0_11 c0_12 c0_13 c0_14 c0_15 c1_0 c1_1 c1_2 c1_3 c1_4 c1_5 c2_0 c2_1 c2_2 c2_3 c2_4 c2_5
  go_upto_region 11 with (fail)
  generalize (World.alloc w18 _) = v19 at *
  (try simp only [List.nil_append, List.cons_append, World.size_alloc, List.set_cons_zero, List.set_cons_succ, putsC, pB, pC, pD] at hm)
  have HM := Lib.hid hm
  clear hm
  obtain ⟨c7_0, c7_1, c7_2, c7_3, c7_4, c7_5⟩ := rw3 (HM.out.at 7 rfl)
  have HK := Lib.hid (Hsz.out _ _ v19 (HM.out.ins 6 rfl))
  ((try dsimp only); repeat (first | go_values | go_skip | go_guarded | go_step | go_upon))
  refine HK.out.mono ?_
  rintro e w20 ⟨rfl, hb⟩
  have hm := (HM.out.keep hb)
  clear HK HM hb c7_0 c7_1 c7_2 c7_3 c7_4 c7_5
  (try simp only [List.nil_append, List.cons_append, World.size_alloc, List.set_cons_zero, List.set_cons_succ, putsC, pB, pC, pD] at hm)
  have HM := Lib.hid hm
  clear hm
  obtain ⟨c3_0, c3_1, c3_2, c3_3, c3_4, c3_5⟩ := rw3 (HM.out.at 3 rfl)
  obtain ⟨c8_0, c8_1, c8_2, c8_3, c8_4, c8_5⟩ := rw3 (HM.out.at 8 rfl)
  have HK := Lib.hid (ONdd.out _ _ _ _ w20 (HM.out.ins 7 rfl) (HM.out.ins 2 rfl))
  ((try dsimp only); repeat (first | go_values | go_skip | go_guarded | go_step | go_upon))
  refine HK.out.mono ?_
  rintro e w21 ⟨rfl, hb⟩
  have hm := (HM.out.keep hb)
  clear HK HM hb c3_0 c3_1 c3_2 c3_3 c3_4 c3_5 c8_0 c8_1 c8_2 c8_3 c8_4 c8_5
  (try simp only [List.nil_append, List.cons_append, World.size_alloc, List.set_cons_zero, List.set_cons_succ, putsC, pB, pC, pD] at hm)
  have HM := Lib.hid hm
  clear hm
  go_upto_region 13 with (fail)
  ((try dsimp only); repeat (first | go_values | go_skip | go_guarded | go_step | go_upon))
  obtain ⟨Rel, hR1, hR2, hR3⟩ := HM.out.pack
  have HR2 := Lib.hid hR2
  have HR3 := Lib.hid hR3
  clear hR2 hR3
  go_loopw [19] (fun i wr => ∃ k : Nat, i = .int .i64 k ∧ k ≤ 17 ∧ Rel wr) (fun i _ => 17 - (intOf i).toNat)
  case atStart => exact ⟨0, rfl, Nat.zero_le _, hR1⟩
  case round =>
    obtain ⟨k, rfl, hk, hB⟩ := hrel
    clear HM hR1
    have HM := Lib.hid (HR2.out _ hB)
    clear hB
    by_cases h0 : k ≤ 16
    · obtain ⟨px, py, q, co, hco, k1, k2, k3⟩ := Hrd.out k h0
      have K1 := Lib.hid k1
      have K2 := Lib.hid k2
      have K3 := Lib.hid k3
      clear k1 k2 k3
      have hco' : ¬ 0 < co := by omega
      have HK0 := Lib.hid h0
      have hki : (k : Int) ≤ 16 := by omega
      clear hk
      go_upto_region 16 with (fail)
      obtain ⟨c0_0, c0_1, c0_2, c0_3, c0_4, c0_5, c0_6, c0_7, c0_8, c0_9, c0_10, c0_11, c0_12, c0_13, c0_14, c0_15⟩ := rw8 (HM.out.at 0 rfl)
      have HK := Lib.hid (K1.out wr)
      ((try dsimp only); repeat (first | go_values | go_skip | go_guarded | go_step | go_upon))
      refine HK.out.mono ?_
      rintro e w22 ⟨E22, F22, G22, I22, rfl, hf, hf2, hb⟩
      have hm : Bx w.heap.size w (World.alloc (World.alloc w22 (.cells #[.bool (decide (px.num < 0)), .slice E22 (qn px).length (qn px).length, .slice F22 (qd px).length (qd px).length] 45)) (.cells #[.bool (decide (py.num < 0)), .slice G22 (qn py).length (qn py).length, .slice I22 (qd py).length (qd py).length] 45)) _ _ := (((HM.out.call3 hf hf2 hb).alloc (.cells #[.bool (decide (px.num < 0)), .slice E22 (qn px).length (qn px).length, .slice F22 (qd px).length (qd px).length] 45 (0, 0))).alloc (.cells #[.bool (decide (py.num < 0)), .slice G22 (qn py).length (qn py).length, .slice I22 (qd py).length (qd py).length] 45 (0, 0)))
      clear HK HM hf hf2 hb c0_0 c0_1 c0_2 c0_3 c0_4 c0_5 c0_6 c0_7 c0_8 c0_9 c0_10 c0_11 c0_12 c0_13 c0_14 c0_15
      go_upto_region 17 with (fail)
      generalize (World.alloc (World.alloc w22 _) _) = v23 at *
      (try simp only [List.nil_append, List.cons_append, World.size_alloc, List.set_cons_zero, List.set_cons_succ, putsC, pB, pC, pD] at hm)
      have HM := Lib.hid hm
      clear hm
      obtain ⟨c0_0, c0_1, c0_2, c0_3, c0_4, c0_5, c0_6, c0_7, c0_8, c0_9, c0_10, c0_11, c0_12, c0_13, c0_14, c0_15⟩ := rw8 (HM.out.at 0 rfl)
      obtain ⟨c9_0, c9_1, c9_2, c9_3, c9_4, c9_5⟩ := rw3 (HM.out.at 9 rfl)
      obtain ⟨c10_0, c10_1, c10_2, c10_3, c10_4, c10_5⟩ := rw3 (HM.out.at 10 rfl)
      have HK := Lib.hid (K2.out _ _ _ _ v23 (HM.out.ins 8 rfl) (HM.out.ins 9 rfl))
      ((try dsimp only); repeat (first | go_values | go_skip | go_guarded | go_step | go_upon))
      refine HK.out.mono ?_
      rintro e w24 ⟨E24, F24, rfl, hf, hb⟩
      have hm : Bx w.heap.size w (World.alloc w24 (.cells #[.bool (decide (q.num < 0)), .slice E24 (qn q).length (qn q).length, .slice F24 (qd q).length (qd q).length] 45)) _ _ := ((HM.out.call hf hb).alloc (.cells #[.bool (decide (q.num < 0)), .slice E24 (qn q).length (qn q).length, .slice F24 (qd q).length (qd q).length] 45 (0, 0)))
      clear HK HM hf hb c0_0 c0_1 c0_2 c0_3 c0_4 c0_5 c0_6 c0_7 c0_8 c0_9 c0_10 c0_11 c0_12 c0_13 c0_14 c0_15 c9_0 c9_1 c9_2 c9_3 c9_4 c9_5 c10_0 c10_1 c10_2 c10_3 c10_4 c10_5
      go_upto_region 18 with (fail)
      generalize (World.alloc w24 _) = v25 at *
      (try simp only [List.nil_append, List.cons_append, World.size_alloc, List.set_cons_zero, List.set_cons_succ, putsC, pB, pC, pD] at hm)
      have HM := Lib.hid hm
      clear hm
      obtain ⟨c3_0, c3_1, c3_2, c3_3, c3_4, c3_5⟩ := rw3 (HM.out.at 3 rfl)
      obtain ⟨c11_0, c11_1, c11_2, c11_3, c11_4, c11_5⟩ := rw3 (HM.out.at 11 rfl)
      have HK := Lib.hid (K3.out _ _ _ _ v25 (HM.out.ins 2 rfl) (HM.out.ins 10 rfl))
      ((try dsimp only); repeat (first | go_values | go_skip | go_guarded | go_step | go_upon))
      refine HK.out.mono ?_
      rintro e w26 ⟨rfl, hb⟩
      have hm := (HM.out.keep hb)
      clear HK HM hb c3_0 c3_1 c3_2 c3_3 c3_4 c3_5 c11_0 c11_1 c11_2 c11_3 c11_4 c11_5
      (try simp only [List.nil_append, List.cons_append, World.size_alloc, List.set_cons_zero, List.set_cons_succ, putsC, pB, pC, pD] at hm)
      have HM := Lib.hid hm
      clear hm
      ((try dsimp only); repeat (first | go_values | go_skip | go_guarded | go_step | go_upon))
      have hk17 := HK0.out
      exact ⟨⟨k + 1, vint (by omega), by omega, HR3.out _ (HM.out.pre ⟨_, rfl⟩ ⟨_, rfl⟩)⟩, by simp [intOf]; omega⟩
    · have hki : ¬ (k : Int) ≤ 16 := by omega
      clear hk h0
      go_upto_region 21 with (fail)
      obtain ⟨c0_0, c0_1, c0_2, c0_3, c0_4, c0_5, c0_6, c0_7, c0_8, c0_9, c0_10, c0_11, c0_12, c0_13, c0_14, c0_15⟩ := rw8 (HM.out.at 0 rfl)
      have HK := Lib.hid (Hv1.out wr)
      ((try dsimp only); repeat (first | go_values | go_skip | go_guarded | go_step | go_upon))
      refine HK.out.mono ?_
      rintro e w22 ⟨E22, F22, rfl, hf, hb⟩
      have hm : Bx w.heap.size w (World.alloc w22 (.cells #[.bool (decide (ax.num < 0)), .slice E22 (qn ax).length (qn ax).length, .slice F22 (qd ax).length (qd ax).length] 45)) _ _ := ((HM.out.call hf hb).alloc (.cells #[.bool (decide (ax.num < 0)), .slice E22 (qn ax).length (qn ax).length, .slice F22 (qd ax).length (qd ax).length] 45 (0, 0)))
      clear HK HM hf hb c0_0 c0_1 c0_2 c0_3 c0_4 c0_5 c0_6 c0_7 c0_8 c0_9 c0_10 c0_11 c0_12 c0_13 c0_14 c0_15
      go_upto_region 22 with (fail)
      generalize (World.alloc w22 _) = v23 at *
      (try simp only [List.nil_append, List.cons_append, World.size_alloc, List.set_cons_zero, List.set_cons_succ, putsC, pB, pC, pD] at hm)
      have HM := Lib.hid hm
      clear hm
      obtain ⟨c0_0, c0_1, c0_2, c0_3, c0_4, c0_5, c0_6, c0_7, c0_8, c0_9, c0_10, c0_11, c0_12, c0_13, c0_14, c0_15⟩ := rw8 (HM.out.at 0 rfl)
      have HK := Lib.hid (Hv2.out v23)
      ((try dsimp only); repeat (first | go_values | go_skip | go_guarded | go_step | go_upon))
      refine HK.out.mono ?_
      rintro e w24 ⟨E24, F24, rfl, hf, hb⟩
      have hm : Bx w.heap.size w (World.alloc w24 (.cells #[.bool (decide (bx.num < 0)), .slice E24 (qn bx).length (qn bx).length, .slice F24 (qd bx).length (qd bx).length] 45)) _ _ := ((HM.out.call hf hb).alloc (.cells #[.bool (decide (bx.num < 0)), .slice E24 (qn bx).length (qn bx).length, .slice F24 (qd bx).length (qd bx).length] 45 (0, 0)))
      clear HK HM hf hb c0_0 c0_1 c0_2 c0_3 c0_4 c0_5 c0_6 c0_7 c0_8 c0_9 c0_10 c0_11 c0_12 c0_13 c0_14 c0_15
      go_upto_region 23 with (fail)
      generalize (World.alloc w24 _) = v25 at *
      (try simp only [List.nil_append, List.cons_append, World.size_alloc, List.set_cons_zero, List.set_cons_succ, putsC, pB, pC, pD] at hm)
      have HM := Lib.hid hm
      clear hm
      obtain ⟨c0_0, c0_1, c0_2, c0_3, c0_4, c0_5, c0_6, c0_7, c0_8, c0_9, c0_10, c0_11, c0_12, c0_13, c0_14, c0_15⟩ := rw8 (HM.out.at 0 rfl)
      have HK := Lib.hid (Hv3.out v25)
      ((try dsimp only); repeat (first | go_values | go_skip | go_guarded | go_step | go_upon))
      refine HK.out.mono ?_
      rintro e w26 ⟨E26, F26, rfl, hf, hb⟩
      have hm : Bx w.heap.size w (World.alloc w26 (.cells #[.bool (decide (ay.num < 0)), .slice E26 (qn ay).length (qn ay).length, .slice F26 (qd ay).length (qd ay).length] 45)) _ _ := ((HM.out.call hf hb).alloc (.cells #[.bool (decide (ay.num < 0)), .slice E26 (qn ay).length (qn ay).length, .slice F26 (qd ay).length (qd ay).length] 45 (0, 0)))
      clear HK HM hf hb c0_0 c0_1 c0_2 c0_3 c0_4 c0_5 c0_6 c0_7 c0_8 c0_9 c0_10 c0_11 c0_12 c0_13 c0_14 c0_15
      go_upto_region 24 with (fail)
      generalize (World.alloc w26 _) = v27 at *
      (try simp only [List.nil_append, List.cons_append, World.size_alloc, List.set_cons_zero, List.set_cons_succ, putsC, pB, pC, pD] at hm)
      have HM := Lib.hid hm
      clear hm
      obtain ⟨c0_0, c0_1, c0_2, c0_3, c0_4, c0_5, c0_6, c0_7, c0_8, c0_9, c0_10, c0_11, c0_12, c0_13, c0_14, c0_15⟩ := rw8 (HM.out.at 0 rfl)
      have HK := Lib.hid (Hv4.out v27)
      ((try dsimp only); repeat (first | go_values | go_skip | go_guarded | go_step | go_upon))
      refine HK.out.mono ?_
      rintro e w28 ⟨E28, F28, rfl, hf, hb⟩
      have hm : Bx w.heap.size w (World.alloc w28 (.cells #[.bool (decide (bY.num < 0)), .slice E28 (qn bY).length (qn bY).length, .slice F28 (qd bY).length (qd bY).length] 45)) _ _ := ((HM.out.call hf hb).alloc (.cells #[.bool (decide (bY.num < 0)), .slice E28 (qn bY).length (qn bY).length, .slice F28 (qd bY).length (qd bY).length] 45 (0, 0)))
      clear HK HM hf hb c0_0 c0_1 c0_2 c0_3 c0_4 c0_5 c0_6 c0_7 c0_8 c0_9 c0_10 c0_11 c0_12 c0_13 c0_14 c0_15
      go_upto_region 27 with (fail)
      generalize (World.alloc w28 _) = v29 at *
      (try simp only [List.nil_append, List.cons_append, World.size_alloc, List.set_cons_zero, List.set_cons_succ, putsC, pB, pC, pD] at hm)
      have HM := Lib.hid hm
      clear hm
      obtain ⟨c1_0, c1_1, c1_2, c1_3, c1_4, c1_5⟩ := rw3 (HM.out.at 1 rfl)
      obtain ⟨c9_0, c9_1, c9_2, c9_3, c9_4, c9_5⟩ := rw3 (HM.out.at 9 rfl)
      obtain ⟨c10_0, c10_1, c10_2, c10_3, c10_4, c10_5⟩ := rw3 (HM.out.at 10 rfl)
      have HK := Lib.hid (Hi1.out _ _ _ _ _ _ v29 (HM.out.ins 8 rfl) (HM.out.ins 9 rfl) (HM.out.ins 0 rfl))
      ((try dsimp only); repeat (first | go_values | go_skip | go_guarded | go_step | go_upon))
      refine HK.out.mono ?_
      rintro e w30 ⟨rfl, hb⟩
      have hm := (HM.out.keep hb)
      clear HK HM hb c1_0 c1_1 c1_2 c1_3 c1_4 c1_5 c9_0 c9_1 c9_2 c9_3 c9_4 c9_5 c10_0 c10_1 c10_2 c10_3 c10_4 c10_5
      (try simp only [List.nil_append, List.cons_append, World.size_alloc, List.set_cons_zero, List.set_cons_succ, putsC, pB, pC, pD] at hm)
      have HM := Lib.hid hm
      clear hm
      obtain ⟨c2_0, c2_1, c2_2, c2_3, c2_4, c2_5⟩ := rw3 (HM.out.at 2 rfl)
      obtain ⟨c11_0, c11_1, c11_2, c11_3, c11_4, c11_5⟩ := rw3 (HM.out.at 11 rfl)
      obtain ⟨c12_0, c12_1, c12_2, c12_3, c12_4, c12_5⟩ := rw3 (HM.out.at 12 rfl)
      have HK := Lib.hid (Hi2.out _ _ _ _ _ _ w30 (HM.out.ins 10 rfl) (HM.out.ins 11 rfl) (HM.out.ins 1 rfl))
      ((try dsimp only); repeat (first | go_values | go_skip | go_guarded | go_step | go_upon))
      refine HK.out.mono ?_
      rintro e w31 ⟨rfl, hb⟩
      have hm := (HM.out.keep hb)
      clear HK HM hb c2_0 c2_1 c2_2 c2_3 c2_4 c2_5 c11_0 c11_1 c11_2 c11_3 c11_4 c11_5 c12_0 c12_1 c12_2 c12_3 c12_4 c12_5
      (try simp only [List.nil_append, List.cons_append, World.size_alloc, List.set_cons_zero, List.set_cons_succ, putsC, pB, pC, pD] at hm)
      have HM := Lib.hid hm
      clear hm
      ((try dsimp only); repeat (first | go_values | go_skip | go_guarded | go_step | go_upon))
      go_ret
      exact ⟨rfl, HM.out.m.b⟩
end Go.Proofs.YtggfppgjabembaaGreatDoor

namespace Go.Proofs.YtggfppgjabembaaGreatDoor
open Go.RowKit
set_option linter.unusedVariables false
set_option linter.unusedSimpArgs false
theorem far_sgn (a b p : Pl) : btw a b p = (qsgn (farR a b p) == 0) := by
  rw [Bool.eq_iff_iff, far_btw, beq_iff_eq, qsgn_zero]
theorem ins_of {a b x : Rat} (h : (a ≤ x ∧ x ≤ b) ∨ (b ≤ x ∧ x ≤ a)) : insB a b x = true := by
  unfold insB
  simp only [Bool.or_eq_true, Bool.and_eq_true, decide_eq_true_iff]
  rcases h with h | h
  · left; exact ⟨qcmp_nonpos.2 h.1, qcmp_nonpos.2 h.2⟩
  · right; exact ⟨qcmp_nonneg.2 h.2, qcmp_nonneg.2 h.1⟩
theorem t16_range {k : Nat} (h : k ≤ 16) : 0 ≤ quo false (k : Int) 16 ∧ quo false (k : Int) 16 ≤ 1 := by
  have e : quo false (k : Int) 16 = (k : Rat) / 16 := by
    unfold quo
    rw [if_neg (by decide), Rat.mkRat_eq_div]
    rfl
  rw [e]
  have h1 : (0 : Rat) ≤ (k : Rat) := by exact_mod_cast Nat.zero_le k
  have h2 : (k : Rat) ≤ 16 := by exact_mod_cast h
  have h3 : (k : Rat) / 16 * 16 = k := Rat.div_mul_cancel (by decide)
  generalize (k : Rat) / 16 = t at *
  constructor <;> grind
theorem far_sz {a b p : Pl} (ha : PSz 1075 a) (hb : PSz 1075 b) (hp : PSz 1075 p) : Sz 90000 (farR a b p) := by
  have sz := ft_sz ha hb hp
  have u1 := hp.1.sub sz.1
  have u2 := hp.2.sub sz.2
  exact ((u1.mul u1).add (u2.mul u2)).mono (by omega)
theorem lSegFoot (a b c d : Pt) (w : World) (ha : PtU a) (hb : PtU b) (hc : PtU c) (hd : PtU d) :
    Calls Tryz.prog 6 #[fr a b c d] w fun e w' => e = .returned (.bool true) ∧ Below w.heap.size w w' := by
  have hSp := fun wz => lSpots a b c d wz ha hb hc hd
  have fA := spot_fin ha
  have fB := spot_fin hb
  have fC := spot_fin hc
  generalize spot a = A at *
  generalize spot b = B at *
  generalize spot c = C at *
  generalize spot d = D at *
  have sf := ft_sz (pl_sz fA) (pl_sz fB) (pl_sz fC)
  have sd := far_sz (pl_sz fA) (pl_sz fB) (pl_sz fC)
  have sz0 : Sz (2 * 21000 + 10000) (area2 (pl A) (pl B) (ftR (pl A) (pl B) (pl C))) := side_sz fA fB sf.1 sf.2
  have hz : qsgn (area2 (pl A) (pl B) (ftR (pl A) (pl B) (pl C))) = 0 := qsgn_zero.2 (ft_area _ _ _)
  have hin := ft_in (pl A) (pl B) (pl C)
  refine lSegFootIn a b c d A B C D (ftR (pl A) (pl B) (pl C)).1 (ftR (pl A) (pl B) (pl C)).2 (farR (pl A) (pl B) (pl C)) (area2 (pl A) (pl B) (ftR (pl A) (pl B) (pl C))) _ _ _ _ (qsgn (farR (pl A) (pl B) (pl C))) w
    ⟨hSp, fun wz => lFoot A B C wz fA fB fC, fun wz => ?_, fun wz => lFar A B C wz fA fB fC, fun wz => ?_, fun wz => ?_, fun E F wz h => rSignQ E F 0 wz.heap.size _ wz h (Nat.le_refl _) (sd.lens (by omega)).1,
     fun P Q P' Q' wz h1 h2 => lSide A B P Q P' Q' 0 wz.heap.size 21000 _ _ wz fA fB h1 h2 (Nat.le_refl _) sf.1 sf.2 (by omega), fun E F wz h => ?_,
     fun P Q P' Q' wz h1 h2 => lSquare C P Q P' Q' 0 wz.heap.size 21000 _ _ wz fC h1 h2 (Nat.le_refl _) sf.1 sf.2 (by omega),
     fun wz => vValue _ wz fA.1, fun wz => vValue _ wz fB.1, fun wz => vValue _ wz fA.2, fun wz => vValue _ wz fB.2, fun P Q P' Q' P2 Q2 wz h1 h2 h3 => ?_, fun P Q P' Q' P2 Q2 wz h1 h2 h3 => ?_, fun k hk => ?_⟩ (sf.1.lens (by omega)) (sf.2.lens (by omega)) (sd.lens (by omega))
  · have := lFoot B A C wz fB fA fC
    rw [ft_swap] at this
    exact this
  · have := lFar B A C wz fB fA fC
    rw [far_swap] at this
    exact this
  · have := pBetween A B C wz fA fB fC
    rw [show btwP A B C = (qsgn (farR (pl A) (pl B) (pl C)) == 0) from far_sgn _ _ _] at this
    exact this
  · have := rSignQ E F 0 wz.heap.size _ wz h (Nat.le_refl _) (sz0.lens (by omega)).1
    rw [hz] at this
    exact this
  · exact lInside P Q P' Q' P2 Q2 0 wz.heap.size 21000 _ _ _ wz h1 h2 h3 (Nat.le_refl _) ((fval_sz fA.1).mono (by omega)) ((fval_sz fB.1).mono (by omega)) sf.1 (by omega) (ins_of hin.1)
  · exact lInside P Q P' Q' P2 Q2 0 wz.heap.size 21000 _ _ _ wz h1 h2 h3 (Nat.le_refl _) ((fval_sz fA.2).mono (by omega)) ((fval_sz fB.2).mono (by omega)) sf.2 (by omega) (ins_of hin.2)
  · have hk0 : (0 : Int) ≤ (k : Int) := by omega
    have hk1 : (k : Int) ≤ 16 := by omega
    have st := t16_sz hk0 hk1
    have sx : Sz 4000 (fval A.1 + (fval B.1 - fval A.1) * quo false (k : Int) 16) := ((fval_sz fA.1).add (((fval_sz fB.1).sub (fval_sz fA.1)).mul st)).mono (by omega)
    have sy : Sz 4000 (fval A.2 + (fval B.2 - fval A.2) * quo false (k : Int) 16) := ((fval_sz fA.2).add (((fval_sz fB.2).sub (fval_sz fA.2)).mul st)).mono (by omega)
    have hr := t16_range hk
    have sq := sq2_sz fC sx sy
    have hn := ft_near (pl A) (pl B) (pl C) hr.1 hr.2
    have he : dotR (wayR (onR (pl A) (pl B) (quo false (k : Int) 16)) (pl C)) (wayR (onR (pl A) (pl B) (quo false (k : Int) 16)) (pl C)) = sq2 (pl C) (fval A.1 + (fval B.1 - fval A.1) * quo false (k : Int) 16) (fval A.2 + (fval B.2 - fval A.2) * quo false (k : Int) 16) := by
      unfold dotR wayR onR sq2 wayR pl
      dsimp only
      rw [Rat.mul_comm (quo false (k : Int) 16), Rat.mul_comm (quo false (k : Int) 16)]
    rw [he] at hn
    exact ⟨_, _, _, _, qcmp_nonpos.2 hn, fun wz => lBetween A B k wz fA fB hk0 hk1,
      fun P Q P' Q' wz h1 h2 => lSquare C P Q P' Q' 0 wz.heap.size 4000 _ _ wz fC h1 h2 (Nat.le_refl _) sx sy (by omega),
      fun P Q P' Q' wz h1 h2 => rCmpQ P Q P' Q' 0 wz.heap.size _ _ _ _ wz h1 h2 (Nat.le_refl _) sd sq (by omega)⟩
end Go.Proofs.YtggfppgjabembaaGreatDoor

namespace Go.Proofs.YtggfppgjabembaaGreatDoor
open Go Go.ChangeShapes Go.WideShapes Go.ChangeAt Go.RowKit
set_option linter.unusedVariables false
set_option maxRecDepth 100000 in
theorem segFoot_lifted (os : Os) (started : os.Started) (H : Type) (enc : TypeId × Value → H) :
    ReturnsInHanded {} Tryz.checked os 6 .any (fun w args => (Rows.segFootSpec.pre enc Tryz.prog Tryz.f6 [] false w args ∧ laidMetH Tryz.prog [("plumb/near.stays", Rows.laid_plumb_near_stays)] w) ∧ sizedMet enc Tryz.prog Tryz.f6 (OpenSpec.ofChange Rows.segFootSpec) false w args)
      (Rows.segFootSpec.post enc Tryz.prog Tryz.f6 false true false false) := by
  refine returnsInHanded_of_change_and (C := Tryz.checked) (X := fun w _ => laidMetH Tryz.prog [("plumb/near.stays", Rows.laid_plumb_near_stays)] w) (fun _ _ _ hh h => h.of_heap hh) row_own started (by kernel_rfl) Tryz.func6
    (ChangeSpec.witness_shaped (enc := enc) (C := Tryz.checked) (os := os) (X := fun w _ => laidMetH Tryz.prog [("plumb/near.stays", Rows.laid_plumb_near_stays)] w) false (World.doorLaid Tryz.prog 400 os) #[fr (0, 0) (0, 0) (0, 0) (0, 0)] 8 rfl (World.shaped_of_RefB (by kernel_rfl) (by kernel_rfl)) (by kernel_rfl) (by kernel_rfl) (by kernel_rfl) (door_met os _)) ?_
  intro W base args ds gs before hval0 hW _ _ _ _
  have hval : ∀ (j : Nat) t v, Tryz.f6.params[j]? = some t → args[j]? = some v → Value.okWide Tryz.prog W .any base t v := hval0
  have hW' := hW
  obtain ⟨p, q, hA0, hV, rfl, hfz, hnd⟩ := hW
  have hA : DataW.TrodAll enc Tryz.prog W 0 (fun _ => true) true Tryz.f6.params.toList args.toList ds p := hA0
  rw [Tryz.params6] at hA hval
  obtain ⟨v0, d0, hargs, hds, h0⟩ := trodAll_one hA
  obtain ⟨rfl, rfl⟩ := trodVars_none hV
  subst hargs hds
  obtain ⟨a, b, c, e, rfl, ua, ub, uc, ue⟩ := open_four (hval 0 26 v0 rfl rfl) h0
  simp only [List.append_nil] at hW'
  refine (lSegFoot a b c e W ua ub uc ue).mono fun x W' ⟨hx, hb⟩ => ?_
  subst hx
  refine ⟨_, rfl, post_true rfl rfl rfl hW' hb (fun sp hsp => ?_)⟩
  rw [Tryz.params6]
  have hlt : ∀ x ∈ p, x.block < W.heap.size := fun x hx => hW'.lt x hx
  exact trodAll_mk1 (WideElems.Trod_stays row_laidOut (by kernel_rfl) (of_decide_eq_true (by kernel_rfl)) h0 (fun x hx => hb.same (hlt x hx)) hsp)
theorem segFoot_said : Rows.SegFootSaid :=
  OpenClaim.holds_of_wide 6 Tryz.f6 rfl rfl rfl rfl rfl rfl rfl ⟨rfl, rfl, rfl, rfl, rfl⟩ rfl rfl rfl rfl rfl (by kernel_rfl) Tryz.func6 (by kernel_rfl)
    (of_decide_eq_true (by kernel_rfl)) (by unfold Func.isWrapper; first | (rw [if_pos (by decide +kernel)]; kernel_rfl) | (rw [if_neg (by decide +kernel)]; exact ⟨rfl, rfl⟩))
    (fun os started H enc _ => segFoot_lifted os started H enc)
theorem segFoot_holds : Rows.SegFootCardSaid :=
  Claim7.holds_tied_plain_at .later [] [.data] true (true, "80a292a554acde2cdd04e5bef36b3977b4b8f6b315eb70e2ed427cc397b18b81") true
    segFoot_said (fun _ h => by cases h) (by kernel_rfl) (fun _ h => by cases h) segFoot_row_tie rfl ⟨rfl, rfl⟩ (by kernel_rfl) rfl
    (fun f fn hf hfn => by
      obtain rfl : f = 6 := Option.some.inj ((show Tryz.prog.funcNamed "plumb/plumblaw23.SegFoot" = some 6 by kernel_rfl).symm.trans hf) |>.symm
      obtain rfl : fn = Tryz.f6 := (Option.some.inj (Tryz.func6.symm.trans hfn)).symm
      exact ⟨by kernel_rfl, fun j t ht => by
        rw [Tryz.params6] at ht
        have hm : t ∈ [26] := by simpa using Array.mem_of_getElem? ht
        have hall : ([26].all fun u => !Tryz.prog.wantsStandIn u) = true := by kernel_rfl
        exact (show Tryz.prog.wantsStandIn t = false by simpa using List.all_eq_true.1 hall t hm)⟩)
    (by kernel_rfl)
end Go.Proofs.YtggfppgjabembaaGreatDoor
