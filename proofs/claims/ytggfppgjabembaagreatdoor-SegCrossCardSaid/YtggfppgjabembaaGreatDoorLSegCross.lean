/- The law SegCross of package plumblaw23 answers true at every four points, and changes nothing that it was handed: the tied card, for every input, no condition. -/
import Derived.Test.YtggfppgjabembaaGreatDoorKJ
import Derived.Test.YtggfppgjabembaaGreatDoorKI
import Derived.Test.YtggfppgjabembaaGreatDoorCards
import Derived.Test.YtggfppgjabembaaGreatDoorTie
import Derived.SevenTiedAt
namespace Go.Proofs.YtggfppgjabembaaGreatDoor
open Go.RowKit Go.Proofs.YtggfppgjabembaaGreatDoorW.PrintLast
set_option linter.unusedVariables false
set_option linter.unusedSimpArgs false
def fo (a b c d : Pt) : Obj := .cells #[.int .u64 a.1, .int .u64 a.2, .int .u64 b.1, .int .u64 b.2, .int .u64 c.1, .int .u64 c.2, .int .u64 d.1, .int .u64 d.2] 26 (0, 0)
def mo (m : Mt) : Obj := .cells #[.int .i64 m.kind, .bool m.proper, .int .u64 m.P.1, .int .u64 m.P.2, .int .u64 m.Q.1, .int .u64 m.Q.2] 29 (0, 0)
def zo : Obj := .cells #[.bool false, .slice none 0 0, .slice none 0 0] 45 (0, 0)
theorem Mem.four8 {n : Nat} {w0 w : World} {a b c d : Pt} (h : Mem n w0 w [(n, fo a b c d)] []) (A B C D : Pt) :
    Mem n w0 (((((((((w.setCell ⟨n, 0, none⟩ (.int .u64 A.1)).setCell ⟨n, 1, none⟩ (.int .u64 A.2)).setCell ⟨n, 2, none⟩ (.int .u64 B.1)).setCell ⟨n, 3, none⟩ (.int .u64 B.2)).setCell ⟨n, 4, none⟩ (.int .u64 C.1)).setCell ⟨n, 5, none⟩ (.int .u64 C.2)).setCell ⟨n, 6, none⟩ (.int .u64 D.1)).setCell ⟨n, 7, none⟩ (.int .u64 D.2))) [(n, fo A B C D)] [] := by
  refine ⟨eight_below h.b (Nat.le_refl _), ?_, fun i g o e => ?_, fun i X Y q e => by simp at e⟩
  · simp only [setCell_size]; exact h.z
  · match i, e with
    | 0, e => cases e; exact eight_at (h.l 0 _ _ rfl) _ _ _ _ _ _ _ _
structure CroC (a b c d A B C D : Pt) (m : Mt) (X : Pl) (dx dy cx cy s t u v : Rat) : Prop where
  sp : ∀ wz, Calls Tryz.prog 9 #[fr a b c d] wz fun e w' => e = .returned (fr A B C D) ∧ Below wz.heap.size wz w'
  me : ∀ wz, Calls Tryz.prog 10 #[pt A, pt B, pt C, pt D] wz fun e w' => e = .returned (.tuple #[mv m, .int .i64 0]) ∧ Below wz.heap.size wz w'
  v1 : ∀ wz, Calls Tryz.prog 18 #[.int .u64 D.1] wz fun e w' => ∃ E F, e = .returned (.tuple #[qv E F dx, .int .i64 0]) ∧ RatFresh wz.heap.size w' E F dx ∧ Below wz.heap.size wz w'
  v2 : ∀ wz, Calls Tryz.prog 18 #[.int .u64 D.2] wz fun e w' => ∃ E F, e = .returned (.tuple #[qv E F dy, .int .i64 0]) ∧ RatFresh wz.heap.size w' E F dy ∧ Below wz.heap.size wz w'
  v3 : ∀ wz, Calls Tryz.prog 18 #[.int .u64 C.1] wz fun e w' => ∃ E F, e = .returned (.tuple #[qv E F cx, .int .i64 0]) ∧ RatFresh wz.heap.size w' E F cx ∧ Below wz.heap.size wz w'
  v4 : ∀ wz, Calls Tryz.prog 18 #[.int .u64 C.2] wz fun e w' => ∃ E F, e = .returned (.tuple #[qv E F cy, .int .i64 0]) ∧ RatFresh wz.heap.size w' E F cy ∧ Below wz.heap.size wz w'
  ss : ∀ E F E' F' wz, RatIn 0 wz.heap.size wz E F dx → RatIn 0 wz.heap.size wz E' F' dy → Calls Tryz.prog 19 #[pt A, pt B, qv E F dx, qv E' F' dy] wz fun e w' => ∃ E F, e = .returned (.tuple #[qv E F s, .bool true]) ∧ RatFresh wz.heap.size w' E F s ∧ Below wz.heap.size wz w'
  st : ∀ E F E' F' wz, RatIn 0 wz.heap.size wz E F cx → RatIn 0 wz.heap.size wz E' F' cy → Calls Tryz.prog 19 #[pt A, pt B, qv E F cx, qv E' F' cy] wz fun e w' => ∃ E F, e = .returned (.tuple #[qv E F t, .bool true]) ∧ RatFresh wz.heap.size w' E F t ∧ Below wz.heap.size wz w'
  cm : ∀ E F E' F' wz, RatIn 0 wz.heap.size wz E F s → RatIn 0 wz.heap.size wz E' F' t → Calls Tryz.prog 20 #[qv E F s, qv E' F' t] wz fun e w' => e = .returned (.tuple #[.int .i64 (qcmp s t), .int .i64 0]) ∧ Below wz.heap.size wz w'
set_option maxRecDepth 100000 in
set_option maxHeartbeats 6400000 in
theorem lSegCross0 (a b c d A B C D : Pt) (m : Mt) (X : Pl) (dx dy cx cy s t u v : Rat) (w : World) (H : CroC a b c d A B C D m X dx dy cx cy s t u v) (hst : qcmp s t = 0) (hp : m.proper = false)
    (hx : ∀ wz, Calls Tryz.prog 17 #[pt A, pt B, pt C, pt D] wz fun e w' => e = .returned (.tuple #[.agg #[.bool false, .slice none 0 0, .slice none 0 0], .agg #[.bool false, .slice none 0 0, .slice none 0 0], .int .i64 230]) ∧ Below wz.heap.size wz w') :
    Calls Tryz.prog 4 #[fr a b c d] w fun e w' => e = .returned (.bool true) ∧ Below w.heap.size w w' := by
  obtain ⟨h1, h2, h3, h4, h5, h6, h7, h8, h9⟩ := H
  have H1 := Lib.hid h1
  have H2 := Lib.hid h2
  have H3 := Lib.hid h3
  have H4 := Lib.hid h4
  have H5 := Lib.hid h5
  have H6 := Lib.hid h6
  have H7 := Lib.hid h7
  have H8 := Lib.hid h8
  have H9 := Lib.hid h9
  have HX := Lib.hid hx
  have hq : (qcmp s t == 0) = true := beq_iff_eq.2 hst
  obtain ⟨K, Pr, P, Q⟩ := m
  simp only at hp
  subst hp
  clear h1 h2 h3 h4 h5 h6 h7 h8 h9 hx hst
  generalize qcmp s t = qst at *
  have hm0 : Mem w.heap.size w (w.alloc (.cells #[.int .u64 a.1, .int .u64 a.2, .int .u64 b.1, .int .u64 b.2, .int .u64 c.1, .int .u64 c.2, .int .u64 d.1, .int .u64 d.2] 26)) [(w.heap.size, fo a b c d)] [] := (Mem.start w).alloc (fo a b c d)
  have HM := Lib.hid hm0
  clear hm0
  unfold fr pt at *
  go_enter Tryz.func4, Tryz.ntmps4
  ((try dsimp only); repeat (first | go_values | go_skip | go_guarded | go_step | go_upon))
  generalize (World.alloc w _) = v0 at *
  refine (H1.out _).mono ?_
  rintro e w1 ⟨rfl, hb⟩
  have hm1 := HM.out.keep hb
  have hm := hm1.four8 A B C D
  obtain ⟨y0, y1, y2, y3, y4, y5, y6, y7⟩ := row8 (hm1.l 0 _ _ rfl)
  obtain ⟨z0, z1, z2, z3, z4, z5, z6, z7⟩ := free8 (hm1.l 0 _ _ rfl)
  clear HM hb hm1
  have HM := Lib.hid hm
  clear hm
  go_upto_region 2 with (fail)
  generalize (World.setCell (World.setCell (World.setCell (World.setCell (World.setCell (World.setCell (World.setCell (World.setCell w1 _ _) _ _) _ _) _ _) _ _) _ _) _ _) _ _) = v1 at *
  clear y0 y1 y2 y3 y4 y5 y6 y7 z0 z1 z2 z3 z4 z5 z6 z7
  obtain ⟨c0_0, c0_1, c0_2, c0_3, c0_4, c0_5, c0_6, c0_7⟩ := row8 (HM.out.l 0 _ _ rfl)
  ((try dsimp only); repeat (first | go_values | go_skip | go_guarded | go_step | go_upon))
  refine (HX.out _).mono ?_
  rintro e w2 ⟨rfl, hb⟩
  have hm : Mem w.heap.size w ((w2.alloc (.cells #[.bool false, .slice none 0 0, .slice none 0 0] 45)).alloc (.cells #[.bool false, .slice none 0 0, .slice none 0 0] 45)) _ _ := ((HM.out.keep hb).alloc zo).alloc zo
  rw [World.size_alloc] at hm
  clear HM hb c0_0 c0_1 c0_2 c0_3 c0_4 c0_5 c0_6 c0_7
  go_upto_region 3 with (fail)
  generalize (World.alloc (World.alloc w2 _) _) = v2 at *
  have HM := Lib.hid hm
  clear hm
  obtain ⟨c0_0, c0_1, c0_2, c0_3, c0_4, c0_5, c0_6, c0_7⟩ := row8 (HM.out.l 0 _ _ rfl)
  have HK := Lib.hid (H2.out v2)
  (try unfold qv at HK)
  (try unfold pt at HK)
  (try unfold mv at HK)
  ((try dsimp only); repeat (first | go_values | go_skip | go_guarded | go_step | go_upon))
  refine HK.out.mono ?_
  rintro e w3 ⟨rfl, hb⟩
  have hm : Mem w.heap.size w (w3.alloc (.cells #[.int .i64 K, .bool false, .int .u64 P.1, .int .u64 P.2, .int .u64 Q.1, .int .u64 Q.2] 29)) _ _ := (HM.out.keep hb).alloc (mo ⟨K, false, P, Q⟩)
  clear HK HM hb  c0_0 c0_1 c0_2 c0_3 c0_4 c0_5 c0_6 c0_7
  go_upto_region 4 with (fail)
  generalize (World.alloc w3 _) = v3 at *
  have HM := Lib.hid hm
  clear hm
  obtain ⟨c0_0, c0_1, c0_2, c0_3, c0_4, c0_5, c0_6, c0_7⟩ := row8 (HM.out.l 0 _ _ rfl)
  have HK := Lib.hid (H3.out v3)
  (try unfold qv at HK)
  (try unfold pt at HK)
  (try unfold mv at HK)
  ((try dsimp only); repeat (first | go_values | go_skip | go_guarded | go_step | go_upon))
  refine HK.out.mono ?_
  rintro e w4 ⟨E4, F4, rfl, hf, hb⟩
  have hm : Mem w.heap.size w (w4.alloc (.cells #[.bool (decide (dx.num < 0)), .slice E4 (qn dx).length (qn dx).length, .slice F4 (qd dx).length (qd dx).length] 45)) _ _ := (HM.out.call hf hb).alloc (qo E4 F4 dx)
  clear HK HM hb hf c0_0 c0_1 c0_2 c0_3 c0_4 c0_5 c0_6 c0_7
  go_upto_region 5 with (fail)
  generalize (World.alloc w4 _) = v4 at *
  have HM := Lib.hid hm
  clear hm
  obtain ⟨c0_0, c0_1, c0_2, c0_3, c0_4, c0_5, c0_6, c0_7⟩ := row8 (HM.out.l 0 _ _ rfl)
  have HK := Lib.hid (H4.out v4)
  (try unfold qv at HK)
  (try unfold pt at HK)
  (try unfold mv at HK)
  ((try dsimp only); repeat (first | go_values | go_skip | go_guarded | go_step | go_upon))
  refine HK.out.mono ?_
  rintro e w5 ⟨E5, F5, rfl, hf, hb⟩
  have hm : Mem w.heap.size w (w5.alloc (.cells #[.bool (decide (dy.num < 0)), .slice E5 (qn dy).length (qn dy).length, .slice F5 (qd dy).length (qd dy).length] 45)) _ _ := (HM.out.call hf hb).alloc (qo E5 F5 dy)
  clear HK HM hb hf c0_0 c0_1 c0_2 c0_3 c0_4 c0_5 c0_6 c0_7
  go_upto_region 6 with (fail)
  generalize (World.alloc w5 _) = v5 at *
  have HM := Lib.hid hm
  clear hm
  obtain ⟨c0_0, c0_1, c0_2, c0_3, c0_4, c0_5, c0_6, c0_7⟩ := row8 (HM.out.l 0 _ _ rfl)
  have HK := Lib.hid (H5.out v5)
  (try unfold qv at HK)
  (try unfold pt at HK)
  (try unfold mv at HK)
  ((try dsimp only); repeat (first | go_values | go_skip | go_guarded | go_step | go_upon))
  refine HK.out.mono ?_
  rintro e w6 ⟨E6, F6, rfl, hf, hb⟩
  have hm : Mem w.heap.size w (w6.alloc (.cells #[.bool (decide (cx.num < 0)), .slice E6 (qn cx).length (qn cx).length, .slice F6 (qd cx).length (qd cx).length] 45)) _ _ := (HM.out.call hf hb).alloc (qo E6 F6 cx)
  clear HK HM hb hf c0_0 c0_1 c0_2 c0_3 c0_4 c0_5 c0_6 c0_7
  go_upto_region 7 with (fail)
  generalize (World.alloc w6 _) = v6 at *
  have HM := Lib.hid hm
  clear hm
  obtain ⟨c0_0, c0_1, c0_2, c0_3, c0_4, c0_5, c0_6, c0_7⟩ := row8 (HM.out.l 0 _ _ rfl)
  have HK := Lib.hid (H6.out v6)
  (try unfold qv at HK)
  (try unfold pt at HK)
  (try unfold mv at HK)
  ((try dsimp only); repeat (first | go_values | go_skip | go_guarded | go_step | go_upon))
  refine HK.out.mono ?_
  rintro e w7 ⟨E7, F7, rfl, hf, hb⟩
  have hm : Mem w.heap.size w (w7.alloc (.cells #[.bool (decide (cy.num < 0)), .slice E7 (qn cy).length (qn cy).length, .slice F7 (qd cy).length (qd cy).length] 45)) _ _ := (HM.out.call hf hb).alloc (qo E7 F7 cy)
  clear HK HM hb hf c0_0 c0_1 c0_2 c0_3 c0_4 c0_5 c0_6 c0_7
  go_upto_region 8 with (fail)
  generalize (World.alloc w7 _) = v7 at *
  have HM := Lib.hid hm
  clear hm
  have HK := Lib.hid (lAlive v7)
  (try unfold qv at HK)
  (try unfold pt at HK)
  (try unfold mv at HK)
  ((try dsimp only); repeat (first | go_values | go_skip | go_guarded | go_step | go_upon))
  refine HK.out.mono ?_
  rintro e w8 ⟨rfl, hb⟩
  have hm := (HM.out.keep hb)
  clear HK HM hb  
  go_upto_region 10 with (fail)
  have HM := Lib.hid hm
  clear hm
  obtain ⟨c0_0, c0_1, c0_2, c0_3, c0_4, c0_5, c0_6, c0_7⟩ := row8 (HM.out.l 0 _ _ rfl)
  obtain ⟨c4_0, c4_1, c4_2, c4_3, c4_4, c4_5⟩ := HM.out.qrow 4 rfl
  obtain ⟨c5_0, c5_1, c5_2, c5_3, c5_4, c5_5⟩ := HM.out.qrow 5 rfl
  have HK := Lib.hid (H7.out _ _ _ _ w8 ((HM.out.ins 0 rfl).wide (Nat.zero_le _) (Nat.le_refl _)) ((HM.out.ins 1 rfl).wide (Nat.zero_le _) (Nat.le_refl _)))
  (try unfold qv at HK)
  (try unfold pt at HK)
  (try unfold mv at HK)
  ((try dsimp only); repeat (first | go_values | go_skip | go_guarded | go_step | go_upon))
  refine HK.out.mono ?_
  rintro e w9 ⟨E9, F9, rfl, hf, hb⟩
  have hm : Mem w.heap.size w (w9.alloc (.cells #[.bool (decide (s.num < 0)), .slice E9 (qn s).length (qn s).length, .slice F9 (qd s).length (qd s).length] 45)) _ _ := (HM.out.call hf hb).alloc (qo E9 F9 s)
  clear HK HM hb hf c0_0 c0_1 c0_2 c0_3 c0_4 c0_5 c0_6 c0_7 c4_0 c4_1 c4_2 c4_3 c4_4 c4_5 c5_0 c5_1 c5_2 c5_3 c5_4 c5_5
  go_upto_region 11 with (fail)
  generalize (World.alloc w9 _) = v9 at *
  have HM := Lib.hid hm
  clear hm
  obtain ⟨c0_0, c0_1, c0_2, c0_3, c0_4, c0_5, c0_6, c0_7⟩ := row8 (HM.out.l 0 _ _ rfl)
  obtain ⟨c6_0, c6_1, c6_2, c6_3, c6_4, c6_5⟩ := HM.out.qrow 6 rfl
  obtain ⟨c7_0, c7_1, c7_2, c7_3, c7_4, c7_5⟩ := HM.out.qrow 7 rfl
  have HK := Lib.hid (H8.out _ _ _ _ v9 ((HM.out.ins 2 rfl).wide (Nat.zero_le _) (Nat.le_refl _)) ((HM.out.ins 3 rfl).wide (Nat.zero_le _) (Nat.le_refl _)))
  (try unfold qv at HK)
  (try unfold pt at HK)
  (try unfold mv at HK)
  ((try dsimp only); repeat (first | go_values | go_skip | go_guarded | go_step | go_upon))
  refine HK.out.mono ?_
  rintro e w10 ⟨E10, F10, rfl, hf, hb⟩
  have hm : Mem w.heap.size w (w10.alloc (.cells #[.bool (decide (t.num < 0)), .slice E10 (qn t).length (qn t).length, .slice F10 (qd t).length (qd t).length] 45)) _ _ := (HM.out.call hf hb).alloc (qo E10 F10 t)
  clear HK HM hb hf c0_0 c0_1 c0_2 c0_3 c0_4 c0_5 c0_6 c0_7 c6_0 c6_1 c6_2 c6_3 c6_4 c6_5 c7_0 c7_1 c7_2 c7_3 c7_4 c7_5
  go_upto_region 14 with (fail)
  generalize (World.alloc w10 _) = v10 at *
  have HM := Lib.hid hm
  clear hm
  obtain ⟨c8_0, c8_1, c8_2, c8_3, c8_4, c8_5⟩ := HM.out.qrow 8 rfl
  obtain ⟨c9_0, c9_1, c9_2, c9_3, c9_4, c9_5⟩ := HM.out.qrow 9 rfl
  have HK := Lib.hid (H9.out _ _ _ _ v10 ((HM.out.ins 4 rfl).wide (Nat.zero_le _) (Nat.le_refl _)) ((HM.out.ins 5 rfl).wide (Nat.zero_le _) (Nat.le_refl _)))
  (try unfold qv at HK)
  (try unfold pt at HK)
  (try unfold mv at HK)
  ((try dsimp only); repeat (first | go_values | go_skip | go_guarded | go_step | go_upon))
  refine HK.out.mono ?_
  rintro e w11 ⟨rfl, hb⟩
  have hm := (HM.out.keep hb)
  clear HK HM hb  c8_0 c8_1 c8_2 c8_3 c8_4 c8_5 c9_0 c9_1 c9_2 c9_3 c9_4 c9_5
  go_upto_region 18 with (fail)
  have HM := Lib.hid hm
  clear hm
  obtain ⟨c1_0, c1_1, c1_2, c1_3, c1_4, c1_5⟩ := row3 (HM.out.l 1 _ _ rfl)
  obtain ⟨c2_0, c2_1, c2_2, c2_3, c2_4, c2_5⟩ := row3 (HM.out.l 2 _ _ rfl)
  obtain ⟨c3_0, c3_1, c3_2, c3_3, c3_4, c3_5, c3_6, c3_7, c3_8, c3_9, c3_10, c3_11⟩ := row6 (HM.out.l 3 _ _ rfl)
  ((try dsimp only); repeat (first | go_values | go_skip | go_guarded | go_step | go_upon))
  go_ret
  exact ⟨rfl, HM.out.b⟩
set_option maxRecDepth 100000 in
set_option maxHeartbeats 6400000 in
theorem lSegCross1 (a b c d A B C D : Pt) (m : Mt) (X : Pl) (dx dy cx cy s t u v : Rat) (w : World) (H : CroC a b c d A B C D m X dx dy cx cy s t u v) (hst : qcmp s t ≠ 0)
    (hx : ∀ wz, Calls Tryz.prog 17 #[pt A, pt B, pt C, pt D] wz fun e w' => ∃ E F E' F', e = .returned (.tuple #[qv E F X.1, qv E' F' X.2, .int .i64 0]) ∧ RatFresh wz.heap.size w' E F X.1 ∧ RatFresh wz.heap.size w' E' F' X.2 ∧ Below wz.heap.size wz w')
    (su : ∀ E F E' F' wz, RatIn 0 wz.heap.size wz E F X.1 → RatIn 0 wz.heap.size wz E' F' X.2 → Calls Tryz.prog 19 #[pt A, pt B, qv E F X.1, qv E' F' X.2] wz fun e w' => ∃ E F, e = .returned (.tuple #[qv E F u, .bool true]) ∧ RatFresh wz.heap.size w' E F u ∧ Below wz.heap.size wz w')
    (sv : ∀ E F E' F' wz, RatIn 0 wz.heap.size wz E F X.1 → RatIn 0 wz.heap.size wz E' F' X.2 → Calls Tryz.prog 19 #[pt C, pt D, qv E F X.1, qv E' F' X.2] wz fun e w' => ∃ E F, e = .returned (.tuple #[qv E F v, .bool true]) ∧ RatFresh wz.heap.size w' E F v ∧ Below wz.heap.size wz w')
    (sg1 : ∀ E F wz, RatIn 0 wz.heap.size wz E F u → Calls Tryz.prog 21 #[qv E F u] wz fun e w' => e = .returned (.int .i64 0) ∧ Below wz.heap.size wz w')
    (sg2 : ∀ E F wz, RatIn 0 wz.heap.size wz E F v → Calls Tryz.prog 21 #[qv E F v] wz fun e w' => e = .returned (.int .i64 0) ∧ Below wz.heap.size wz w')
    (nr : m.kind ≠ 0 → m.kind = 1 ∧ (∀ E F wz, RatIn 0 wz.heap.size wz E F X.1 → Calls Tryz.prog 22 #[qv E F X.1, .int .i64 0] wz fun e w' => e = .returned (.tuple #[.int .u64 m.P.1, .int .i64 0]) ∧ Below wz.heap.size wz w') ∧
      (∀ E F wz, RatIn 0 wz.heap.size wz E F X.2 → Calls Tryz.prog 22 #[qv E F X.2, .int .i64 0] wz fun e w' => e = .returned (.tuple #[.int .u64 m.P.2, .int .i64 0]) ∧ Below wz.heap.size wz w')) :
    Calls Tryz.prog 4 #[fr a b c d] w fun e w' => e = .returned (.bool true) ∧ Below w.heap.size w w' := by
  obtain ⟨h1, h2, h3, h4, h5, h6, h7, h8, h9⟩ := H
  have H1 := Lib.hid h1
  have H2 := Lib.hid h2
  have H3 := Lib.hid h3
  have H4 := Lib.hid h4
  have H5 := Lib.hid h5
  have H6 := Lib.hid h6
  have H7 := Lib.hid h7
  have H8 := Lib.hid h8
  have H9 := Lib.hid h9
  have HX := Lib.hid hx
  have HU := Lib.hid su
  have HV := Lib.hid sv
  have HG1 := Lib.hid sg1
  have HG2 := Lib.hid sg2
  have HN := Lib.hid nr
  have hq : (qcmp s t == 0) = false := beq_eq_false_iff_ne.2 hst
  obtain ⟨x, y⟩ := X
  obtain ⟨K, Pr, P, Q⟩ := m
  simp only at HX HU HV HN
  clear h1 h2 h3 h4 h5 h6 h7 h8 h9 hx hst su sv sg1 sg2 nr
  generalize qcmp s t = qst at *
  have hm0 : Mem w.heap.size w (w.alloc (.cells #[.int .u64 a.1, .int .u64 a.2, .int .u64 b.1, .int .u64 b.2, .int .u64 c.1, .int .u64 c.2, .int .u64 d.1, .int .u64 d.2] 26)) [(w.heap.size, fo a b c d)] [] := (Mem.start w).alloc (fo a b c d)
  have HM := Lib.hid hm0
  clear hm0
  unfold fr pt at *
  go_enter Tryz.func4, Tryz.ntmps4
  ((try dsimp only); repeat (first | go_values | go_skip | go_guarded | go_step | go_upon))
  generalize (World.alloc w _) = v0 at *
  refine (H1.out _).mono ?_
  rintro e w1 ⟨rfl, hb⟩
  have hm1 := HM.out.keep hb
  have hm := hm1.four8 A B C D
  obtain ⟨y0, y1, y2, y3, y4, y5, y6, y7⟩ := row8 (hm1.l 0 _ _ rfl)
  obtain ⟨z0, z1, z2, z3, z4, z5, z6, z7⟩ := free8 (hm1.l 0 _ _ rfl)
  clear HM hb hm1
  have HM := Lib.hid hm
  clear hm
  go_upto_region 2 with (fail)
  generalize (World.setCell (World.setCell (World.setCell (World.setCell (World.setCell (World.setCell (World.setCell (World.setCell w1 _ _) _ _) _ _) _ _) _ _) _ _) _ _) _ _) = v1 at *
  clear y0 y1 y2 y3 y4 y5 y6 y7 z0 z1 z2 z3 z4 z5 z6 z7
  obtain ⟨c0_0, c0_1, c0_2, c0_3, c0_4, c0_5, c0_6, c0_7⟩ := row8 (HM.out.l 0 _ _ rfl)
  have HK := Lib.hid (HX.out v1)
  unfold qv at HK
  ((try dsimp only); repeat (first | go_values | go_skip | go_guarded | go_step | go_upon))
  refine HK.out.mono ?_
  rintro e w2 ⟨E1, F1, E2, F2, rfl, hf1, hf2, hb⟩
  have hm : Mem w.heap.size w ((w2.alloc (.cells #[.bool (decide (x.num < 0)), .slice E1 (qn x).length (qn x).length, .slice F1 (qd x).length (qd x).length] 45)).alloc (.cells #[.bool (decide (y.num < 0)), .slice E2 (qn y).length (qn y).length, .slice F2 (qd y).length (qd y).length] 45)) _ _ := ((((HM.out.keep hb).rat HM.out.z hf1).rat HM.out.z hf2).alloc (qo E1 F1 x)).alloc (qo E2 F2 y)
  rw [World.size_alloc] at hm
  clear HM HK hb hf1 hf2 c0_0 c0_1 c0_2 c0_3 c0_4 c0_5 c0_6 c0_7
  go_upto_region 3 with (fail)
  generalize (World.alloc (World.alloc w2 _) _) = v2 at *
  have HM := Lib.hid hm
  clear hm
  obtain ⟨c0_0, c0_1, c0_2, c0_3, c0_4, c0_5, c0_6, c0_7⟩ := row8 (HM.out.l 0 _ _ rfl)
  have HK := Lib.hid (H2.out v2)
  (try unfold qv at HK)
  (try unfold pt at HK)
  (try unfold mv at HK)
  ((try dsimp only); repeat (first | go_values | go_skip | go_guarded | go_step | go_upon))
  refine HK.out.mono ?_
  rintro e w3 ⟨rfl, hb⟩
  have hm : Mem w.heap.size w (w3.alloc (.cells #[.int .i64 K, .bool Pr, .int .u64 P.1, .int .u64 P.2, .int .u64 Q.1, .int .u64 Q.2] 29)) _ _ := (HM.out.keep hb).alloc (mo ⟨K, Pr, P, Q⟩)
  clear HK HM hb  c0_0 c0_1 c0_2 c0_3 c0_4 c0_5 c0_6 c0_7
  go_upto_region 4 with (fail)
  generalize (World.alloc w3 _) = v3 at *
  have HM := Lib.hid hm
  clear hm
  obtain ⟨c0_0, c0_1, c0_2, c0_3, c0_4, c0_5, c0_6, c0_7⟩ := row8 (HM.out.l 0 _ _ rfl)
  have HK := Lib.hid (H3.out v3)
  (try unfold qv at HK)
  (try unfold pt at HK)
  (try unfold mv at HK)
  ((try dsimp only); repeat (first | go_values | go_skip | go_guarded | go_step | go_upon))
  refine HK.out.mono ?_
  rintro e w4 ⟨E4, F4, rfl, hf, hb⟩
  have hm : Mem w.heap.size w (w4.alloc (.cells #[.bool (decide (dx.num < 0)), .slice E4 (qn dx).length (qn dx).length, .slice F4 (qd dx).length (qd dx).length] 45)) _ _ := (HM.out.call hf hb).alloc (qo E4 F4 dx)
  clear HK HM hb hf c0_0 c0_1 c0_2 c0_3 c0_4 c0_5 c0_6 c0_7
  go_upto_region 5 with (fail)
  generalize (World.alloc w4 _) = v4 at *
  have HM := Lib.hid hm
  clear hm
  obtain ⟨c0_0, c0_1, c0_2, c0_3, c0_4, c0_5, c0_6, c0_7⟩ := row8 (HM.out.l 0 _ _ rfl)
  have HK := Lib.hid (H4.out v4)
  (try unfold qv at HK)
  (try unfold pt at HK)
  (try unfold mv at HK)
  ((try dsimp only); repeat (first | go_values | go_skip | go_guarded | go_step | go_upon))
  refine HK.out.mono ?_
  rintro e w5 ⟨E5, F5, rfl, hf, hb⟩
  have hm : Mem w.heap.size w (w5.alloc (.cells #[.bool (decide (dy.num < 0)), .slice E5 (qn dy).length (qn dy).length, .slice F5 (qd dy).length (qd dy).length] 45)) _ _ := (HM.out.call hf hb).alloc (qo E5 F5 dy)
  clear HK HM hb hf c0_0 c0_1 c0_2 c0_3 c0_4 c0_5 c0_6 c0_7
  go_upto_region 6 with (fail)
  generalize (World.alloc w5 _) = v5 at *
  have HM := Lib.hid hm
  clear hm
  obtain ⟨c0_0, c0_1, c0_2, c0_3, c0_4, c0_5, c0_6, c0_7⟩ := row8 (HM.out.l 0 _ _ rfl)
  have HK := Lib.hid (H5.out v5)
  (try unfold qv at HK)
  (try unfold pt at HK)
  (try unfold mv at HK)
  ((try dsimp only); repeat (first | go_values | go_skip | go_guarded | go_step | go_upon))
  refine HK.out.mono ?_
  rintro e w6 ⟨E6, F6, rfl, hf, hb⟩
  have hm : Mem w.heap.size w (w6.alloc (.cells #[.bool (decide (cx.num < 0)), .slice E6 (qn cx).length (qn cx).length, .slice F6 (qd cx).length (qd cx).length] 45)) _ _ := (HM.out.call hf hb).alloc (qo E6 F6 cx)
  clear HK HM hb hf c0_0 c0_1 c0_2 c0_3 c0_4 c0_5 c0_6 c0_7
  go_upto_region 7 with (fail)
  generalize (World.alloc w6 _) = v6 at *
  have HM := Lib.hid hm
  clear hm
  obtain ⟨c0_0, c0_1, c0_2, c0_3, c0_4, c0_5, c0_6, c0_7⟩ := row8 (HM.out.l 0 _ _ rfl)
  have HK := Lib.hid (H6.out v6)
  (try unfold qv at HK)
  (try unfold pt at HK)
  (try unfold mv at HK)
  ((try dsimp only); repeat (first | go_values | go_skip | go_guarded | go_step | go_upon))
  refine HK.out.mono ?_
  rintro e w7 ⟨E7, F7, rfl, hf, hb⟩
  have hm : Mem w.heap.size w (w7.alloc (.cells #[.bool (decide (cy.num < 0)), .slice E7 (qn cy).length (qn cy).length, .slice F7 (qd cy).length (qd cy).length] 45)) _ _ := (HM.out.call hf hb).alloc (qo E7 F7 cy)
  clear HK HM hb hf c0_0 c0_1 c0_2 c0_3 c0_4 c0_5 c0_6 c0_7
  go_upto_region 8 with (fail)
  generalize (World.alloc w7 _) = v7 at *
  have HM := Lib.hid hm
  clear hm
  have HK := Lib.hid (lAlive v7)
  (try unfold qv at HK)
  (try unfold pt at HK)
  (try unfold mv at HK)
  ((try dsimp only); repeat (first | go_values | go_skip | go_guarded | go_step | go_upon))
  refine HK.out.mono ?_
  rintro e w8 ⟨rfl, hb⟩
  have hm := (HM.out.keep hb)
  clear HK HM hb  
  go_upto_region 10 with (fail)
  have HM := Lib.hid hm
  clear hm
  obtain ⟨c0_0, c0_1, c0_2, c0_3, c0_4, c0_5, c0_6, c0_7⟩ := row8 (HM.out.l 0 _ _ rfl)
  obtain ⟨c4_0, c4_1, c4_2, c4_3, c4_4, c4_5⟩ := HM.out.qrow 4 rfl
  obtain ⟨c5_0, c5_1, c5_2, c5_3, c5_4, c5_5⟩ := HM.out.qrow 5 rfl
  have HK := Lib.hid (H7.out _ _ _ _ w8 ((HM.out.ins 2 rfl).wide (Nat.zero_le _) (Nat.le_refl _)) ((HM.out.ins 3 rfl).wide (Nat.zero_le _) (Nat.le_refl _)))
  (try unfold qv at HK)
  (try unfold pt at HK)
  (try unfold mv at HK)
  ((try dsimp only); repeat (first | go_values | go_skip | go_guarded | go_step | go_upon))
  refine HK.out.mono ?_
  rintro e w9 ⟨E9, F9, rfl, hf, hb⟩
  have hm : Mem w.heap.size w (w9.alloc (.cells #[.bool (decide (s.num < 0)), .slice E9 (qn s).length (qn s).length, .slice F9 (qd s).length (qd s).length] 45)) _ _ := (HM.out.call hf hb).alloc (qo E9 F9 s)
  clear HK HM hb hf c0_0 c0_1 c0_2 c0_3 c0_4 c0_5 c0_6 c0_7 c4_0 c4_1 c4_2 c4_3 c4_4 c4_5 c5_0 c5_1 c5_2 c5_3 c5_4 c5_5
  go_upto_region 11 with (fail)
  generalize (World.alloc w9 _) = v9 at *
  have HM := Lib.hid hm
  clear hm
  obtain ⟨c0_0, c0_1, c0_2, c0_3, c0_4, c0_5, c0_6, c0_7⟩ := row8 (HM.out.l 0 _ _ rfl)
  obtain ⟨c6_0, c6_1, c6_2, c6_3, c6_4, c6_5⟩ := HM.out.qrow 6 rfl
  obtain ⟨c7_0, c7_1, c7_2, c7_3, c7_4, c7_5⟩ := HM.out.qrow 7 rfl
  have HK := Lib.hid (H8.out _ _ _ _ v9 ((HM.out.ins 4 rfl).wide (Nat.zero_le _) (Nat.le_refl _)) ((HM.out.ins 5 rfl).wide (Nat.zero_le _) (Nat.le_refl _)))
  (try unfold qv at HK)
  (try unfold pt at HK)
  (try unfold mv at HK)
  ((try dsimp only); repeat (first | go_values | go_skip | go_guarded | go_step | go_upon))
  refine HK.out.mono ?_
  rintro e w10 ⟨E10, F10, rfl, hf, hb⟩
  have hm : Mem w.heap.size w (w10.alloc (.cells #[.bool (decide (t.num < 0)), .slice E10 (qn t).length (qn t).length, .slice F10 (qd t).length (qd t).length] 45)) _ _ := (HM.out.call hf hb).alloc (qo E10 F10 t)
  clear HK HM hb hf c0_0 c0_1 c0_2 c0_3 c0_4 c0_5 c0_6 c0_7 c6_0 c6_1 c6_2 c6_3 c6_4 c6_5 c7_0 c7_1 c7_2 c7_3 c7_4 c7_5
  go_upto_region 14 with (fail)
  generalize (World.alloc w10 _) = v10 at *
  have HM := Lib.hid hm
  clear hm
  obtain ⟨c8_0, c8_1, c8_2, c8_3, c8_4, c8_5⟩ := HM.out.qrow 8 rfl
  obtain ⟨c9_0, c9_1, c9_2, c9_3, c9_4, c9_5⟩ := HM.out.qrow 9 rfl
  have HK := Lib.hid (H9.out _ _ _ _ v10 ((HM.out.ins 6 rfl).wide (Nat.zero_le _) (Nat.le_refl _)) ((HM.out.ins 7 rfl).wide (Nat.zero_le _) (Nat.le_refl _)))
  (try unfold qv at HK)
  (try unfold pt at HK)
  (try unfold mv at HK)
  ((try dsimp only); repeat (first | go_values | go_skip | go_guarded | go_step | go_upon))
  refine HK.out.mono ?_
  rintro e w11 ⟨rfl, hb⟩
  have hm := (HM.out.keep hb)
  clear HK HM hb  c8_0 c8_1 c8_2 c8_3 c8_4 c8_5 c9_0 c9_1 c9_2 c9_3 c9_4 c9_5
  go_upto_region 21 with (fail)
  have HM := Lib.hid hm
  clear hm
  obtain ⟨c0_0, c0_1, c0_2, c0_3, c0_4, c0_5, c0_6, c0_7⟩ := row8 (HM.out.l 0 _ _ rfl)
  obtain ⟨c1_0, c1_1, c1_2, c1_3, c1_4, c1_5⟩ := HM.out.qrow 1 rfl
  obtain ⟨c2_0, c2_1, c2_2, c2_3, c2_4, c2_5⟩ := HM.out.qrow 2 rfl
  have HK := Lib.hid (HU.out _ _ _ _ w11 ((HM.out.ins 0 rfl).wide (Nat.zero_le _) (Nat.le_refl _)) ((HM.out.ins 1 rfl).wide (Nat.zero_le _) (Nat.le_refl _)))
  (try unfold qv at HK)
  (try unfold pt at HK)
  (try unfold mv at HK)
  ((try dsimp only); repeat (first | go_values | go_skip | go_guarded | go_step | go_upon))
  refine HK.out.mono ?_
  rintro e w12 ⟨E12, F12, rfl, hf, hb⟩
  have hm : Mem w.heap.size w (w12.alloc (.cells #[.bool (decide (u.num < 0)), .slice E12 (qn u).length (qn u).length, .slice F12 (qd u).length (qd u).length] 45)) _ _ := (HM.out.call hf hb).alloc (qo E12 F12 u)
  clear HK HM hb hf c0_0 c0_1 c0_2 c0_3 c0_4 c0_5 c0_6 c0_7 c1_0 c1_1 c1_2 c1_3 c1_4 c1_5 c2_0 c2_1 c2_2 c2_3 c2_4 c2_5
  go_upto_region 22 with (fail)
  generalize (World.alloc w12 _) = v12 at *
  have HM := Lib.hid hm
  clear hm
  obtain ⟨c0_0, c0_1, c0_2, c0_3, c0_4, c0_5, c0_6, c0_7⟩ := row8 (HM.out.l 0 _ _ rfl)
  obtain ⟨c1_0, c1_1, c1_2, c1_3, c1_4, c1_5⟩ := HM.out.qrow 1 rfl
  obtain ⟨c2_0, c2_1, c2_2, c2_3, c2_4, c2_5⟩ := HM.out.qrow 2 rfl
  have HK := Lib.hid (HV.out _ _ _ _ v12 ((HM.out.ins 0 rfl).wide (Nat.zero_le _) (Nat.le_refl _)) ((HM.out.ins 1 rfl).wide (Nat.zero_le _) (Nat.le_refl _)))
  (try unfold qv at HK)
  (try unfold pt at HK)
  (try unfold mv at HK)
  ((try dsimp only); repeat (first | go_values | go_skip | go_guarded | go_step | go_upon))
  refine HK.out.mono ?_
  rintro e w13 ⟨E13, F13, rfl, hf, hb⟩
  have hm : Mem w.heap.size w (w13.alloc (.cells #[.bool (decide (v.num < 0)), .slice E13 (qn v).length (qn v).length, .slice F13 (qd v).length (qd v).length] 45)) _ _ := (HM.out.call hf hb).alloc (qo E13 F13 v)
  clear HK HM hb hf c0_0 c0_1 c0_2 c0_3 c0_4 c0_5 c0_6 c0_7 c1_0 c1_1 c1_2 c1_3 c1_4 c1_5 c2_0 c2_1 c2_2 c2_3 c2_4 c2_5
  go_upto_region 23 with (fail)
  generalize (World.alloc w13 _) = v13 at *
  have HM := Lib.hid hm
  clear hm
  obtain ⟨c10_0, c10_1, c10_2, c10_3, c10_4, c10_5⟩ := HM.out.qrow 10 rfl
  obtain ⟨c11_0, c11_1, c11_2, c11_3, c11_4, c11_5⟩ := HM.out.qrow 11 rfl
  have HK := Lib.hid (HG1.out _ _ v13 ((HM.out.ins 8 rfl).wide (Nat.zero_le _) (Nat.le_refl _)))
  (try unfold qv at HK)
  (try unfold pt at HK)
  (try unfold mv at HK)
  ((try dsimp only); repeat (first | go_values | go_skip | go_guarded | go_step | go_upon))
  refine HK.out.mono ?_
  rintro e w14 ⟨rfl, hb⟩
  have hm := (HM.out.keep hb)
  clear HK HM hb  c10_0 c10_1 c10_2 c10_3 c10_4 c10_5 c11_0 c11_1 c11_2 c11_3 c11_4 c11_5
  have HM := Lib.hid hm
  clear hm
  obtain ⟨c11_0, c11_1, c11_2, c11_3, c11_4, c11_5⟩ := HM.out.qrow 11 rfl
  have HK := Lib.hid (HG2.out _ _ w14 ((HM.out.ins 9 rfl).wide (Nat.zero_le _) (Nat.le_refl _)))
  (try unfold qv at HK)
  (try unfold pt at HK)
  (try unfold mv at HK)
  ((try dsimp only); repeat (first | go_values | go_skip | go_guarded | go_step | go_upon))
  refine HK.out.mono ?_
  rintro e w15 ⟨rfl, hb⟩
  have hm := (HM.out.keep hb)
  clear HK HM hb  c11_0 c11_1 c11_2 c11_3 c11_4 c11_5
  go_upto_region 25 with (fail)
  have HM := Lib.hid hm
  clear hm
  by_cases hk : K = 0
  · have hkb : (K == 0) = true := beq_iff_eq.2 hk
    obtain ⟨c3_0, c3_1, c3_2, c3_3, c3_4, c3_5, c3_6, c3_7, c3_8, c3_9, c3_10, c3_11⟩ := row6 (HM.out.l 3 _ _ rfl)
    ((try dsimp only); repeat (first | go_values | go_skip | go_guarded | go_step | go_upon))
    go_ret
    exact ⟨rfl, HM.out.b⟩
  · have hkb : (K == 0) = false := beq_eq_false_iff_ne.2 hk
    obtain ⟨hk1, hn1, hn2⟩ := HN.out hk
    have HN1 := Lib.hid hn1
    have HN2 := Lib.hid hn2
    clear hn1 hn2 HN hk hkb
    subst hk1
    obtain ⟨c3_0, c3_1, c3_2, c3_3, c3_4, c3_5, c3_6, c3_7, c3_8, c3_9, c3_10, c3_11⟩ := row6 (HM.out.l 3 _ _ rfl)
    go_upto_region 27 with (fail)
    clear c3_0 c3_1 c3_2 c3_3 c3_4 c3_5 c3_6 c3_7 c3_8 c3_9 c3_10 c3_11
    obtain ⟨c1_0, c1_1, c1_2, c1_3, c1_4, c1_5⟩ := HM.out.qrow 1 rfl
    have HK := Lib.hid (HN1.out _ _ w15 ((HM.out.ins 0 rfl).wide (Nat.zero_le _) (Nat.le_refl _)))
    (try unfold qv at HK)
    (try unfold pt at HK)
    (try unfold mv at HK)
    ((try dsimp only); repeat (first | go_values | go_skip | go_guarded | go_step | go_upon))
    refine HK.out.mono ?_
    rintro e w16 ⟨rfl, hb⟩
    have hm := (HM.out.keep hb)
    clear HK HM hb  c1_0 c1_1 c1_2 c1_3 c1_4 c1_5
    go_upto_region 28 with (fail)
    have HM := Lib.hid hm
    clear hm
    obtain ⟨c2_0, c2_1, c2_2, c2_3, c2_4, c2_5⟩ := HM.out.qrow 2 rfl
    have HK := Lib.hid (HN2.out _ _ w16 ((HM.out.ins 1 rfl).wide (Nat.zero_le _) (Nat.le_refl _)))
    (try unfold qv at HK)
    (try unfold pt at HK)
    (try unfold mv at HK)
    ((try dsimp only); repeat (first | go_values | go_skip | go_guarded | go_step | go_upon))
    refine HK.out.mono ?_
    rintro e w17 ⟨rfl, hb⟩
    have hm := (HM.out.keep hb)
    clear HK HM hb  c2_0 c2_1 c2_2 c2_3 c2_4 c2_5
    go_upto_region 29 with (fail)
    have HM := Lib.hid hm
    clear hm
    obtain ⟨c3_0, c3_1, c3_2, c3_3, c3_4, c3_5, c3_6, c3_7, c3_8, c3_9, c3_10, c3_11⟩ := row6 (HM.out.l 3 _ _ rfl)
    ((try dsimp only); repeat (first | go_values | go_skip | go_guarded | go_step | go_upon))
    go_ret
    exact ⟨rfl, HM.out.b⟩
end Go.Proofs.YtggfppgjabembaaGreatDoor

namespace Go.Proofs.YtggfppgjabembaaGreatDoor
open Go.RowKit
set_option linter.unusedVariables false
set_option linter.unusedSimpArgs false
theorem lSegCross (a b c d : Pt) (w : World) (ha : PtU a) (hb : PtU b) (hc : PtU c) (hd : PtU d) :
    Calls Tryz.prog 4 #[fr a b c d] w fun e w' => e = .returned (.bool true) ∧ Below w.heap.size w w' := by
  have hSp := fun wz => lSpots a b c d wz ha hb hc hd
  have fA := spot_fin ha
  have fB := spot_fin hb
  have fC := spot_fin hc
  have fD := spot_fin hd
  generalize spot a = A at *
  generalize spot b = B at *
  generalize spot c = C at *
  generalize spot d = D at *
  have hM := fun wz => sMeetAny A B C D wz fA fB fC fD
  have hX := fun wz => lCrossIn A B C D wz fA fB fC fD
  have sD := side_sz fA fB (fval_sz fD.1) (fval_sz fD.2)
  have sC := side_sz fA fB (fval_sz fC.1) (fval_sz fC.2)
  have hst : area2 (pl A) (pl B) (pl D) - area2 (pl A) (pl B) (pl C) = turnR (pl A) (pl B) (pl C) (pl D) := area_diff _ _ _ _
  have HC : ∀ u v : Rat, CroC a b c d A B C D (meetM A B C D) (crR (pl A) (pl B) (pl C) (pl D)) (fval D.1) (fval D.2) (fval C.1) (fval C.2) (area2 (pl A) (pl B) (pl D)) (area2 (pl A) (pl B) (pl C)) u v := fun u v =>
    ⟨hSp, hM, fun wz => vValue _ wz fD.1, fun wz => vValue _ wz fD.2, fun wz => vValue _ wz fC.1, fun wz => vValue _ wz fC.2,
     fun E F E' F' wz h1 h2 => lSide A B E F E' F' 0 wz.heap.size 1075 _ _ wz fA fB h1 h2 (Nat.le_refl _) (fval_sz fD.1) (fval_sz fD.2) (by omega),
     fun E F E' F' wz h1 h2 => lSide A B E F E' F' 0 wz.heap.size 1075 _ _ wz fA fB h1 h2 (Nat.le_refl _) (fval_sz fC.1) (fval_sz fC.2) (by omega),
     fun E F E' F' wz h1 h2 => rCmpQ E F E' F' 0 wz.heap.size _ _ _ _ wz h1 h2 (Nat.le_refl _) sD sC (by omega)⟩
  by_cases hT : turnR (pl A) (pl B) (pl C) (pl D) = 0
  · have he : area2 (pl A) (pl B) (pl D) = area2 (pl A) (pl B) (pl C) := by grind
    have hp : (meetM A B C D).proper = false := by
      cases hp : (meetM A B C D).proper
      · rfl
      · exact absurd hT (meetM_proper fA fB fC fD hp)
    refine lSegCross0 a b c d A B C D (meetM A B C D) _ _ _ _ _ _ _ 0 0 w (HC 0 0) (by rw [he]; exact qcmp_self _) hp (fun wz => (hX wz).mono ?_)
    rintro e w' ⟨h1, h2, h3⟩
    exact ⟨h1 hT, h3⟩
  · have hne : qcmp (area2 (pl A) (pl B) (pl D)) (area2 (pl A) (pl B) (pl C)) ≠ 0 := fun h => hT (by have := qcmp_eq.1 h; grind)
    have hu : qsgn (area2 (pl A) (pl B) (crR (pl A) (pl B) (pl C) (pl D))) = 0 := qsgn_zero.2 (cross_on1 _ _ _ _)
    have hv : qsgn (area2 (pl C) (pl D) (crR (pl A) (pl B) (pl C) (pl D))) = 0 := qsgn_zero.2 (cross_on2 hT)
    have hS : Sz 30000 (crR (pl A) (pl B) (pl C) (pl D)).1 ∧ Sz 30000 (crR (pl A) (pl B) (pl C) (pl D)).2 := cross_sz fA fB fC fD hT
    have sU := side_sz fA fB hS.1 hS.2
    have sV := side_sz fC fD hS.1 hS.2
    refine lSegCross1 a b c d A B C D (meetM A B C D) (crR (pl A) (pl B) (pl C) (pl D)) _ _ _ _ _ _ (area2 (pl A) (pl B) (crR (pl A) (pl B) (pl C) (pl D))) (area2 (pl C) (pl D) (crR (pl A) (pl B) (pl C) (pl D))) w (HC _ _) hne (fun wz => (hX wz).mono ?_)
      (fun E F E' F' wz h1 h2 => lSide A B E F E' F' 0 wz.heap.size 30000 _ _ wz fA fB h1 h2 (Nat.le_refl _) hS.1 hS.2 (by omega))
      (fun E F E' F' wz h1 h2 => lSide C D E F E' F' 0 wz.heap.size 30000 _ _ wz fC fD h1 h2 (Nat.le_refl _) hS.1 hS.2 (by omega))
      (fun E F wz h => ?_) (fun E F wz h => ?_) (fun hk => ?_)
    · rintro e w' ⟨h1, h2, h3⟩
      obtain ⟨E, F, E', F', he, f1, f2, _, _⟩ := h2 hT
      exact ⟨E, F, E', F', he, f1, f2, h3⟩
    · have := rSignQ E F 0 wz.heap.size _ wz h (Nat.le_refl _) (sU.lens (by omega)).1
      rw [hu] at this
      exact this
    · have := rSignQ E F 0 wz.heap.size _ wz h (Nat.le_refl _) (sV.lens (by omega)).1
      rw [hv] at this
      exact this
    · obtain ⟨k1, f1, f2, hP⟩ := meetM_point_law fA fB fC fD hT hk
      refine ⟨k1, fun E F wz h => ?_, fun E F wz h => ?_⟩
      · have := vRat _ E F 0 wz.heap.size wz h (Nat.le_refl _) hS.1 f1
        rw [hP]
        exact this
      · have := vRat _ E F 0 wz.heap.size wz h (Nat.le_refl _) hS.2 f2
        rw [hP]
        exact this
end Go.Proofs.YtggfppgjabembaaGreatDoor

namespace Go.Proofs.YtggfppgjabembaaGreatDoor
open Go Go.ChangeShapes Go.WideShapes Go.ChangeAt Go.RowKit
set_option linter.unusedVariables false
set_option maxRecDepth 100000 in
theorem segCross_lifted (os : Os) (started : os.Started) (H : Type) (enc : TypeId × Value → H) :
    ReturnsInHanded {} Tryz.checked os 4 .any (fun w args => (Rows.segCrossSpec.pre enc Tryz.prog Tryz.f4 [] false w args ∧ laidMetH Tryz.prog [("plumb/near.stays", Rows.laid_plumb_near_stays)] w) ∧ sizedMet enc Tryz.prog Tryz.f4 (OpenSpec.ofChange Rows.segCrossSpec) false w args)
      (Rows.segCrossSpec.post enc Tryz.prog Tryz.f4 false true false false) := by
  refine returnsInHanded_of_change_and (C := Tryz.checked) (X := fun w _ => laidMetH Tryz.prog [("plumb/near.stays", Rows.laid_plumb_near_stays)] w) (fun _ _ _ hh h => h.of_heap hh) row_own started (by kernel_rfl) Tryz.func4
    (ChangeSpec.witness_shaped (enc := enc) (C := Tryz.checked) (os := os) (X := fun w _ => laidMetH Tryz.prog [("plumb/near.stays", Rows.laid_plumb_near_stays)] w) false (World.doorLaid Tryz.prog 400 os) #[fr (0, 0) (0, 0) (0, 0) (0, 0)] 8 rfl (World.shaped_of_RefB (by kernel_rfl) (by kernel_rfl)) (by kernel_rfl) (by kernel_rfl) (by kernel_rfl) (door_met os _)) ?_
  intro W base args ds gs before hval0 hW _ _ _ _
  have hval : ∀ (j : Nat) t v, Tryz.f4.params[j]? = some t → args[j]? = some v → Value.okWide Tryz.prog W .any base t v := hval0
  have hW' := hW
  obtain ⟨p, q, hA0, hV, rfl, hfz, hnd⟩ := hW
  have hA : DataW.TrodAll enc Tryz.prog W 0 (fun _ => true) true Tryz.f4.params.toList args.toList ds p := hA0
  rw [Tryz.params4] at hA hval
  obtain ⟨v0, d0, hargs, hds, h0⟩ := trodAll_one hA
  obtain ⟨rfl, rfl⟩ := trodVars_none hV
  subst hargs hds
  obtain ⟨a, b, c, e, rfl, ua, ub, uc, ue⟩ := open_four (hval 0 26 v0 rfl rfl) h0
  simp only [List.append_nil] at hW'
  refine (lSegCross a b c e W ua ub uc ue).mono fun x W' ⟨hx, hb⟩ => ?_
  subst hx
  refine ⟨_, rfl, post_true rfl rfl rfl hW' hb (fun sp hsp => ?_)⟩
  rw [Tryz.params4]
  have hlt : ∀ x ∈ p, x.block < W.heap.size := fun x hx => hW'.lt x hx
  exact trodAll_mk1 (WideElems.Trod_stays row_laidOut (by kernel_rfl) (of_decide_eq_true (by kernel_rfl)) h0 (fun x hx => hb.same (hlt x hx)) hsp)
theorem segCross_said : Rows.SegCrossSaid :=
  OpenClaim.holds_of_wide 4 Tryz.f4 rfl rfl rfl rfl rfl rfl rfl ⟨rfl, rfl, rfl, rfl, rfl⟩ rfl rfl rfl rfl rfl (by kernel_rfl) Tryz.func4 (by kernel_rfl)
    (of_decide_eq_true (by kernel_rfl)) (by unfold Func.isWrapper; first | (rw [if_pos (by decide +kernel)]; kernel_rfl) | (rw [if_neg (by decide +kernel)]; exact ⟨rfl, rfl⟩))
    (fun os started H enc _ => segCross_lifted os started H enc)
theorem segCross_holds : Rows.SegCrossCardSaid :=
  Claim7.holds_tied_plain_at .later [] [.data] true (true, "80a292a554acde2cdd04e5bef36b3977b4b8f6b315eb70e2ed427cc397b18b81") true
    segCross_said (fun _ h => by cases h) (by kernel_rfl) (fun _ h => by cases h) segCross_row_tie rfl ⟨rfl, rfl⟩ (by kernel_rfl) rfl
    (fun f fn hf hfn => by
      obtain rfl : f = 4 := Option.some.inj ((show Tryz.prog.funcNamed "plumb/plumblaw23.SegCross" = some 4 by kernel_rfl).symm.trans hf) |>.symm
      obtain rfl : fn = Tryz.f4 := (Option.some.inj (Tryz.func4.symm.trans hfn)).symm
      exact ⟨by kernel_rfl, fun j t ht => by
        rw [Tryz.params4] at ht
        have hm : t ∈ [26] := by simpa using Array.mem_of_getElem? ht
        have hall : ([26].all fun u => !Tryz.prog.wantsStandIn u) = true := by kernel_rfl
        exact (show Tryz.prog.wantsStandIn t = false by simpa using List.all_eq_true.1 hall t hm)⟩)
    (by kernel_rfl)
end Go.Proofs.YtggfppgjabembaaGreatDoor
