/- The law SegPred of package plumblaw23 answers true at every four points, and changes nothing that it was handed: the tied card, for every input, no condition. -/
import Derived.Test.YtggfppgjabembaaGreatDoorKI
import Derived.Deep.DeepCutAuto
import Derived.Test.YtggfppgjabembaaGreatDoorCards
import Derived.Test.YtggfppgjabembaaGreatDoorTie
import Derived.SevenTiedAt
namespace Go.Proofs.YtggfppgjabembaaGreatDoor
open Go.RowKit Go.Proofs.YtggfppgjabembaaGreatDoorW.PrintLast
set_option linter.unusedVariables false
set_option linter.unusedSimpArgs false
def cells8 (a b c d : Pt) : Array Value := #[.int .u64 a.1, .int .u64 a.2, .int .u64 b.1, .int .u64 b.2, .int .u64 c.1, .int .u64 c.2, .int .u64 d.1, .int .u64 d.2]
def cellsM (m : Mt) : Array Value := #[.int .i64 m.kind, .bool m.proper, .int .u64 m.P.1, .int .u64 m.P.2, .int .u64 m.Q.1, .int .u64 m.Q.2]
structure LpS (w0 : World) (n g : Nat) (a b c d : Pt) (m : Mt) (w : World) : Prop where
  b0 : Below n w0 w
  f : w.heap[n]? = some (.cells #[.int .u64 a.1, .int .u64 a.2, .int .u64 b.1, .int .u64 b.2, .int .u64 c.1, .int .u64 c.2, .int .u64 d.1, .int .u64 d.2] 26 (0, 0))
  m : w.heap[g]? = some (.cells #[.int .i64 m.kind, .bool m.proper, .int .u64 m.P.1, .int .u64 m.P.2, .int .u64 m.Q.1, .int .u64 m.Q.2] 29 (0, 0))
theorem LpS.keep {w0 w w' : World} {n g : Nat} {a b c d : Pt} {m : Mt} (h : LpS w0 n g a b c d m w) (k : Below w.heap.size w w') : LpS w0 n g a b c d m w' :=
  ⟨h.b0.trans (k.mono (Nat.le_of_lt (heap_lt h.f))), (k.block _ (heap_lt h.f)).trans h.f, (k.block _ (heap_lt h.m)).trans h.m⟩
structure LqS (w0 : World) (n g ge gf gt : Nat) (a b c d : Pt) (m : Mt) (w : World) : Prop where
  s : LpS w0 n g a b c d m w
  e : w.heap[ge]? = some (.cells #[.int .u64 c.1, .int .u64 c.2, .int .u64 d.1, .int .u64 d.2, .int .u64 a.1, .int .u64 a.2, .int .u64 b.1, .int .u64 b.2] 24 (0, 0))
  f : w.heap[gf]? = some (.cells #[.int .u64 a.1, .int .u64 a.2, .int .u64 a.1, .int .u64 a.2, .int .u64 c.1, .int .u64 c.2, .int .u64 c.1, .int .u64 c.2] 24 (0, 0))
  t : w.heap[gt]? = some (.cells #[.int .u64 b.1, .int .u64 b.2, .int .u64 b.1, .int .u64 b.2, .int .u64 d.1, .int .u64 d.2, .int .u64 d.1, .int .u64 d.2] 24 (0, 0))
theorem LqS.keep {w0 w w' : World} {n g ge gf gt : Nat} {a b c d : Pt} {m : Mt} (h : LqS w0 n g ge gf gt a b c d m w) (k : Below w.heap.size w w') : LqS w0 n g ge gf gt a b c d m w' :=
  ⟨h.s.keep k, (k.block _ (heap_lt h.e)).trans h.e, (k.block _ (heap_lt h.f)).trans h.f, (k.block _ (heap_lt h.t)).trans h.t⟩
theorem heap_six_other {w : World} {g : Nat} {v0 v1 v2 v3 v4 v5 : Value} (i : Nat) (h : i ≠ g) :
    ((((((w.setCell ⟨g, 0, none⟩ v0).setCell ⟨g, 1, none⟩ v1).setCell ⟨g, 2, none⟩ v2).setCell ⟨g, 3, none⟩ v3).setCell ⟨g, 4, none⟩ v4).setCell ⟨g, 5, none⟩ v5).heap[i]? = w.heap[i]? := by
  rw [Below.heap_setCell _ _ _ _ h, Below.heap_setCell _ _ _ _ h, Below.heap_setCell _ _ _ _ h, Below.heap_setCell _ _ _ _ h, Below.heap_setCell _ _ _ _ h, Below.heap_setCell _ _ _ _ h]
theorem LqS.six {w0 w : World} {n g ge gf gt s : Nat} {a b c d : Pt} {m : Mt} (h : LqS w0 n g ge gf gt a b c d m w) (h1 : n < s) (h2 : g < s) (h3 : ge < s) (h4 : gf < s) (h5 : gt < s) (v0 v1 v2 v3 v4 v5 : Value) :
    LqS w0 n g ge gf gt a b c d m ((((((w.setCell ⟨s, 0, none⟩ v0).setCell ⟨s, 1, none⟩ v1).setCell ⟨s, 2, none⟩ v2).setCell ⟨s, 3, none⟩ v3).setCell ⟨s, 4, none⟩ v4).setCell ⟨s, 5, none⟩ v5) :=
  ⟨⟨below_six (Nat.le_of_lt h1) h.s.b0, (heap_six_other _ (Nat.ne_of_lt h1)).trans h.s.f, (heap_six_other _ (Nat.ne_of_lt h2)).trans h.s.m⟩, (heap_six_other _ (Nat.ne_of_lt h3)).trans h.e, (heap_six_other _ (Nat.ne_of_lt h4)).trans h.f, (heap_six_other _ (Nat.ne_of_lt h5)).trans h.t⟩
def at4 (a b c d : Pt) : Nat → Pt
  | 0 => a
  | 1 => b
  | 2 => c
  | _ => d
theorem cell_at4 {w : World} {g : Nat} {a b c d : Pt} {t : TypeId} (h : w.heap[g]? = some (.cells #[.int .u64 a.1, .int .u64 a.2, .int .u64 b.1, .int .u64 b.2, .int .u64 c.1, .int .u64 c.2, .int .u64 d.1, .int .u64 d.2] t (0, 0))) (j : Nat) (hj : j < 4) :
    w.cell? ⟨g, j * 2, none⟩ = some (.int .u64 (at4 a b c d j).1) ∧ w.cell? ⟨g, j * 2 + 1, none⟩ = some (.int .u64 (at4 a b c d j).2) := by
  rw [cell_of_cells h, cell_of_cells h]
  match j, hj with
  | 0, _ => exact ⟨rfl, rfl⟩
  | 1, _ => exact ⟨rfl, rfl⟩
  | 2, _ => exact ⟨rfl, rfl⟩
  | 3, _ => exact ⟨rfl, rfl⟩
def cntF (o : Nat → Bool) : Nat → Int
  | 0 => 0
  | j + 1 => if o j = true then cntF o j + 1 else cntF o j
def lstF (o p : Nat → Bool) : Nat → Bool
  | 0 => false
  | j + 1 => if o j = true then lstF o p j || p j else lstF o p j
theorem cntF_range (o : Nat → Bool) : ∀ j : Nat, 0 ≤ cntF o j ∧ cntF o j ≤ j
  | 0 => by simp [cntF]
  | j + 1 => by
    have := cntF_range o j
    unfold cntF
    split <;> omega
set_option maxRecDepth 100000 in
set_option maxHeartbeats 6400000 in
theorem lSegPredIn (a b c d A B C D : Pt) (m : Mt) (s1 s2 s3 s4 : Int) (B1 B2 : Bool) (w : World)
    (hSp : ∀ wz, Calls Tryz.prog 9 #[fr a b c d] wz fun e w' => e = .returned (fr A B C D) ∧ Below wz.heap.size wz w')
    (hM : ∀ wz, Calls Tryz.prog 10 #[pt A, pt B, pt C, pt D] wz fun e w' => e = .returned (.tuple #[mv m, .int .i64 0]) ∧ Below wz.heap.size wz w')
    (h1 : ∀ wz, Calls Tryz.prog 11 #[pt A, pt B, pt C] wz fun e w' => e = .returned (.tuple #[.int .i64 s1, .int .i64 0]) ∧ Below wz.heap.size wz w')
    (h2 : ∀ wz, Calls Tryz.prog 11 #[pt A, pt B, pt D] wz fun e w' => e = .returned (.tuple #[.int .i64 s2, .int .i64 0]) ∧ Below wz.heap.size wz w')
    (h3 : ∀ wz, Calls Tryz.prog 11 #[pt C, pt D, pt A] wz fun e w' => e = .returned (.tuple #[.int .i64 s3, .int .i64 0]) ∧ Below wz.heap.size wz w')
    (h4 : ∀ wz, Calls Tryz.prog 11 #[pt C, pt D, pt B] wz fun e w' => e = .returned (.tuple #[.int .i64 s4, .int .i64 0]) ∧ Below wz.heap.size wz w')
    (hO1 : ∀ wz, Calls Tryz.prog 13 #[.int .i64 s3, .int .i64 s4] wz fun e w' => e = .returned (.bool B1) ∧ wz = w')
    (hO2 : ∀ wz, Calls Tryz.prog 13 #[.int .i64 s1, .int .i64 s2] wz fun e w' => e = .returned (.bool B2) ∧ wz = w')
    (hpr : m.proper = (B1 && B2)) (hk1 : m.proper = true → m.kind = 1)
    (o p : Nat → Bool) (N : Nat → Mt)
    (hBt : ∀ j, j < 4 → ∀ wz, Calls Tryz.prog 14 #[pt (at4 A A C C j), pt (at4 B B D D j), pt (at4 C D A B j)] wz fun e w' => e = .returned (.tuple #[.bool (o j), .int .i64 0]) ∧ Below wz.heap.size wz w')
    (hMj : ∀ j, j < 4 → ∀ wz, Calls Tryz.prog 10 #[pt (at4 A A C C j), pt (at4 B B D D j), pt (at4 C D A B j), pt (at4 C D A B j)] wz fun e w' => e = .returned (.tuple #[mv (N j), .int .i64 0]) ∧ Below wz.heap.size wz w')
    (hN : ∀ j, j < 4 → N j = if o j = true then ⟨1, false, zp (at4 C D A B j), (0, 0)⟩ else ⟨0, false, (0, 0), (0, 0)⟩)
    (hPl : ∀ j, j < 4 → ∀ wz, Calls Tryz.prog 15 #[pt m.P, pt (at4 C D A B j)] wz fun e w' => e = .returned (.bool (p j)) ∧ Below wz.heap.size wz w')
    (hPz : ∀ j, j < 4 → ∀ wz, Calls Tryz.prog 15 #[pt (zp (at4 C D A B j)), pt (at4 C D A B j)] wz fun e w' => e = .returned (.bool true) ∧ Below wz.heap.size wz w')
    (hE0 : cntF o 4 = 0 → (m.kind == 0) = !m.proper) (hE1 : cntF o 4 ≠ 0 → m.kind ≠ 0 ∧ m.proper = false ∧ lstF o p 4 = true ∧ (m.kind ≠ 2 → m.Q = (0, 0)))
    (hE2 : m.kind = 2 → s1 = 0 ∧ s2 = 0 ∧ s3 = 0 ∧ s4 = 0 ∧ (∀ wz, Calls Tryz.prog 16 #[pt m.P, pt m.Q] wz fun e w' => e = .returned (.tuple #[.int .i64 (-1), .int .i64 0]) ∧ Below wz.heap.size wz w') ∧
      (∀ wz, Calls Tryz.prog 14 #[pt A, pt B, pt m.Q] wz fun e w' => e = .returned (.tuple #[.bool true, .int .i64 0]) ∧ Below wz.heap.size wz w') ∧ (∀ wz, Calls Tryz.prog 14 #[pt C, pt D, pt m.Q] wz fun e w' => e = .returned (.tuple #[.bool true, .int .i64 0]) ∧ Below wz.heap.size wz w')) :
    Calls Tryz.prog 3 #[fr a b c d] w fun e w' => e = .returned (.bool true) ∧ Below w.heap.size w w' := by
  have HSp := Lib.hid hSp
  have HM := Lib.hid hM
  have H1 := Lib.hid h1
  have H2 := Lib.hid h2
  have H3 := Lib.hid h3
  have H4 := Lib.hid h4
  have HO1 := Lib.hid hO1
  have HO2 := Lib.hid hO2
  have HPR := Lib.hid (And.intro hpr hk1)
  have HE := Lib.hid (And.intro hE0 (And.intro hE1 hE2))
  have HJ := Lib.hid (And.intro hBt (And.intro hMj (And.intro hN (And.intro hPl hPz))))
  clear hSp hM h1 h2 h3 h4 hO1 hO2 hpr hk1 hBt hMj hN hPl hPz hE0 hE1 hE2
  unfold fr pt mv at *
  have hN := alloc_new w (.cells #[.int .u64 a.1, .int .u64 a.2, .int .u64 b.1, .int .u64 b.2, .int .u64 c.1, .int .u64 c.2, .int .u64 d.1, .int .u64 d.2] 26)
  go_enter Tryz.func3, Tryz.ntmps3
  ((try dsimp only); repeat (first | go_values | go_skip | go_guarded | go_step | go_upon))
  refine (HSp.out _).mono ?_
  rintro e w1 ⟨rfl, hb1⟩
  rw [World.size_alloc] at hb1
  have hN1 := (hb1.block _ (Nat.lt_succ_self _)).trans hN
  obtain ⟨y0, y1, y2, y3, y4, y5, y6, y7⟩ := row8 hN1
  obtain ⟨z0, z1, z2, z3, z4, z5, z6, z7⟩ := free8 hN1
  have hbw : Below w.heap.size w w1 := ((Below.refl _ _).alloc (Nat.le_refl _) _).trans (hb1.mono (Nat.le_succ _))
  have hN2 := eight_at hN1 (.int .u64 A.1) (.int .u64 A.2) (.int .u64 B.1) (.int .u64 B.2) (.int .u64 C.1) (.int .u64 C.2) (.int .u64 D.1) (.int .u64 D.2)
  have hb2 := eight_below (g := w.heap.size) (a := .int .u64 A.1) (b := .int .u64 A.2) (c := .int .u64 B.1) (d := .int .u64 B.2) (e := .int .u64 C.1) (f := .int .u64 C.2) (i := .int .u64 D.1) (j := .int .u64 D.2) hbw (Nat.le_refl _)
  unfold eightSet at hN2 hb2
  have HB := Lib.hid (And.intro hN2 hb2)
  clear hN2 hb2 hbw hN1 hb1 hN
  go_upto_region 2 with (fail)
  generalize (World.setCell (World.setCell (World.setCell (World.setCell (World.setCell (World.setCell (World.setCell (World.setCell w1 _ _) _ _) _ _) _ _) _ _) _ _) _ _) _ _) = w2 at *
  clear y0 y1 y2 y3 y4 y5 y6 y7 z0 z1 z2 z3 z4 z5 z6 z7
  obtain ⟨y0, y1, y2, y3, y4, y5, y6, y7⟩ := row8 HB.out.1
  ((try dsimp only); repeat (first | go_values | go_skip | go_guarded | go_step | go_upon))
  refine (HM.out _).mono ?_
  rintro e w3 ⟨rfl, hb3⟩
  have hf3 := (hb3.block _ (heap_lt HB.out.1)).trans HB.out.1
  have hbw3 := HB.out.2.trans (hb3.mono (Nat.le_of_lt (heap_lt HB.out.1)))
  have hs3 : LpS w w.heap.size w3.heap.size A B C D m (w3.alloc (.cells #[.int .i64 m.kind, .bool m.proper, .int .u64 m.P.1, .int .u64 m.P.2, .int .u64 m.Q.1, .int .u64 m.Q.2] 29)) :=
    ⟨hbw3.alloc (hbw3.size) _, alloc_old hf3, alloc_new _ _⟩
  have HS := Lib.hid hs3
  clear hs3 hf3 hbw3 hb3 HB y0 y1 y2 y3 y4 y5 y6 y7
  go_upto_region 3 with (fail)
  generalize (World.alloc w3 _) = w4 at *
  generalize w3.heap.size = g at *
  obtain ⟨y0, y1, y2, y3, y4, y5, y6, y7⟩ := row8 HS.out.f
  ((try dsimp only); repeat (first | go_values | go_skip | go_guarded | go_step | go_upon))
  refine (H1.out _).mono ?_
  rintro e w5 ⟨rfl, hb⟩
  have hs := HS.out.keep hb
  clear HS hb y0 y1 y2 y3 y4 y5 y6 y7
  have HS := Lib.hid hs
  clear hs
  obtain ⟨y0, y1, y2, y3, y4, y5, y6, y7⟩ := row8 HS.out.f
  ((try dsimp only); repeat (first | go_values | go_skip | go_guarded | go_step | go_upon))
  refine (H2.out _).mono ?_
  rintro e w6 ⟨rfl, hb⟩
  have hs := HS.out.keep hb
  clear HS hb y0 y1 y2 y3 y4 y5 y6 y7
  have HS := Lib.hid hs
  clear hs
  obtain ⟨y0, y1, y2, y3, y4, y5, y6, y7⟩ := row8 HS.out.f
  ((try dsimp only); repeat (first | go_values | go_skip | go_guarded | go_step | go_upon))
  refine (H3.out _).mono ?_
  rintro e w7 ⟨rfl, hb⟩
  have hs := HS.out.keep hb
  clear HS hb y0 y1 y2 y3 y4 y5 y6 y7
  have HS := Lib.hid hs
  clear hs
  obtain ⟨y0, y1, y2, y3, y4, y5, y6, y7⟩ := row8 HS.out.f
  ((try dsimp only); repeat (first | go_values | go_skip | go_guarded | go_step | go_upon))
  refine (H4.out _).mono ?_
  rintro e w8 ⟨rfl, hb⟩
  have hs := HS.out.keep hb
  clear HS hb y0 y1 y2 y3 y4 y5 y6 y7
  have HS := Lib.hid hs
  clear hs
  ((try dsimp only); repeat (first | go_values | go_skip | go_guarded | go_step | go_upon))
  refine (lAlive _).mono ?_
  rintro e w9 ⟨rfl, hb⟩
  have hs := HS.out.keep hb
  clear HS hb
  have HS := Lib.hid hs
  clear hs
  go_upto_region 9 with (fail)
  clear HSp HM H1 H2 H3 H4
  go_cut [124] (fun b wx => b = .bool false ∧ ∃ q, wx = w9.drewN q)
  case first =>
    as_aux_lemma =>
    obtain ⟨K, Pr, P, Q⟩ := m
    simp only at HPR HS
    have hm := row6 HS.out.m
    simp only at hm
    obtain ⟨m0, m1, m2, m3, m4, m5, _⟩ := hm
    cases B1
    · obtain rfl : Pr = false := by have := HPR.out.1; simpa using this
      go_quiet ((go_at_call 13; exact quiet_same (HO1.out _)))
      go_wp2_with fail
      go_meet
      exact ⟨rfl, _, rfl⟩
    · cases B2
      · obtain rfl : Pr = false := by have := HPR.out.1; simpa using this
        go_quiet ((first | (go_at_call_of 13 (Value.int .i64 s3); exact quiet_same (HO1.out _)) | (go_at_call_of 13 (Value.int .i64 s1); exact quiet_same (HO2.out _))))
        go_wp2_with fail
        go_meet
        exact ⟨rfl, _, rfl⟩
      · obtain rfl : Pr = true := by have := HPR.out.1; simpa using this
        obtain rfl : K = 1 := HPR.out.2 rfl
        go_quiet ((first | (go_at_call_of 13 (Value.int .i64 s3); exact quiet_same (HO1.out _)) | (go_at_call_of 13 (Value.int .i64 s1); exact quiet_same (HO2.out _))))
        go_wp2_with fail
        go_meet
        exact ⟨rfl, _, rfl⟩
  case rest =>
    obtain ⟨rfl, q, rfl⟩ := hcut
    have hs : LpS w w.heap.size g A B C D m (w9.drewN q) := ⟨belowN HS.out.b0 q, HS.out.f, HS.out.m⟩
    generalize w9.drewN q = wa at *
    clear HS HO1 HO2
    obtain ⟨y0, y1, y2, y3, y4, y5, y6, y7⟩ := row8 hs.f
    have HS := Lib.hid hs
    clear hs
    have hlt : w.heap.size < wa.heap.size := heap_lt HS.out.f
    ((try dsimp only); repeat (first | go_values | go_skip | go_guarded | go_step | go_upon))
    have hq : LqS w w.heap.size g wa.heap.size (wa.heap.size + 1) (wa.heap.size + 1 + 1) A B C D m (World.alloc (World.alloc (World.alloc wa (.cells #[.int .u64 C.1, .int .u64 C.2, .int .u64 D.1, .int .u64 D.2, .int .u64 A.1, .int .u64 A.2, .int .u64 B.1, .int .u64 B.2] 24)) (.cells #[.int .u64 A.1, .int .u64 A.2, .int .u64 A.1, .int .u64 A.2, .int .u64 C.1, .int .u64 C.2, .int .u64 C.1, .int .u64 C.2] 24)) (.cells #[.int .u64 B.1, .int .u64 B.2, .int .u64 B.1, .int .u64 B.2, .int .u64 D.1, .int .u64 D.2, .int .u64 D.1, .int .u64 D.2] 24)) :=
      ⟨HS.out.keep (by repeat (first | exact Below.refl _ _ | refine belowN ?_ _ | refine Below.drew ?_ | refine Below.alloc ?_ (by first | exact Nat.le_refl _ | (simp; done) | (simp; omega) | omega) _)), alloc_old (alloc_old (alloc_new _ _)), alloc_old (alloc_at _ (by simp)), alloc_at _ (by simp)⟩
    generalize (World.alloc (World.alloc (World.alloc wa _) _) _) = wb at *
    have hlg : g < wa.heap.size := heap_lt HS.out.m
    generalize wa.heap.size = ge at *
    clear HS y0 y1 y2 y3 y4 y5 y6 y7
    go_loopg [13, 17, 18] 4 (fun k on l i wr => ∃ j : Nat, k + j = 4 ∧ i = .int .i64 j ∧ on = .int .i64 (cntF o j) ∧ l = .bool (lstF o p j) ∧ LqS w w.heap.size g ge (ge + 1) (ge + 1 + 1) A B C D m wr)
    case atStart => exact ⟨0, rfl, rfl, rfl, rfl, hq⟩
    case round =>
      obtain ⟨j, hkj, rfl, rfl, rfl, hS⟩ := hrel
      have hKJ := Lib.hid hkj
      clear hkj hq
      have hcr := cntF_range o j
      have HC1 : Hid (cntF o (j + 1) = if o j = true then cntF o j + 1 else cntF o j) := Lib.hid rfl
      have HL1 : Hid (lstF o p (j + 1) = if o j = true then lstF o p j || p j else lstF o p j) := Lib.hid rfl
      have hj4 : j ≤ 4 := by have := hKJ.out; omega
      by_cases hj : j < 4
      · obtain ⟨J1, J2, J3, J4, J5⟩ := HJ.out
        have K1 := Lib.hid (J1 j hj)
        have K2 := Lib.hid (J2 j hj)
        have K3 := Lib.hid (J3 j hj)
        have K4 := Lib.hid (J4 j hj)
        have K5 := Lib.hid (J5 j hj)
        have HEE := Lib.hid (fun w' (h : LqS w w.heap.size g ge (ge + 1) (ge + 1 + 1) A B C D m w') => And.intro (cell_at4 h.e j hj) (And.intro (cell_at4 h.f j hj) (cell_at4 h.t j hj)))
        clear J1 J2 J3 J4 J5 HJ
        generalize at4 C D A B j = e at *
        generalize at4 A A C C j = f at *
        generalize at4 B B D D j = t at *
        generalize N j = nm at *
        generalize hcn1 : cntF o (j + 1) = cn1 at *
        generalize cntF o j = cn at *
        generalize hls1 : lstF o p (j + 1) = ls1 at *
        generalize lstF o p j = ls at *
        have HN1 := Lib.hid (And.intro hcn1 hls1)
        clear hcn1 hls1
        generalize o j = ok at *
        generalize p j = pj at *
        go_upto_region 19 with (fail)
        go_cut [19, 20] (fun x y wx => x = .bool ok ∧ y = .int .i64 0 ∧ LqS w w.heap.size g ge (ge + 1) (ge + 1 + 1) A B C D m wx)
        case first =>
          as_aux_lemma =>
          have hSd : LqS w w.heap.size g ge (ge + 1) (ge + 1 + 1) A B C D m wr.drew := hS.keep (Below.refl _ _).drew
          refine start_ (n := 18) (S := fun w' => LqS w w.heap.size g ge (ge + 1) (ge + 1 + 1) A B C D m w') (ds := []) #[false, false, false, false, false, false, false, false, false, false, false, false, false, false, false, false, false, false] (by kernel_rfl) rfl rfl (hSd) (fun hHeld => ?_)
          refine pure_ (i := 0) (N := some 157) (v := ?_) (a' := ?_) #[true, false, false, false, false, false, false, false, false, false, false, false, false, false, false, false, false, false] rfl rfl (by kernel_rfl) (fun _ _ _ h => h) (Or.inl ⟨by rfl, ?_⟩) ?_ ?_
          rotate_left
          · intro w'
            go_simp
            with_reducible rfl
          rotate_left
          · simp only [Act.put, List.setIfInBounds_toArray, List.set_cons_zero, List.set_cons_succ, i64_w, i32_w]
            rfl
          refine pure_ (i := 1) (N := some 158) (v := ?_) (a' := ?_) #[true, true, false, false, false, false, false, false, false, false, false, false, false, false, false, false, false, false] rfl rfl (by kernel_rfl) (fun _ _ _ h => h) (Or.inl ⟨by rfl, ?_⟩) ?_ ?_
          rotate_left
          · intro w'
            go_simp
            with_reducible rfl
          rotate_left
          · simp only [Act.put, List.setIfInBounds_toArray, List.set_cons_zero, List.set_cons_succ, i64_w, i32_w]
            rfl
          refine pure_ (i := 2) (N := some 159) (v := ?_) (a' := ?_) #[true, true, true, false, false, false, false, false, false, false, false, false, false, false, false, false, false, false] rfl rfl (by kernel_rfl) (fun _ _ _ h => h) (Or.inl ⟨by rfl, ?_⟩) ?_ ?_
          rotate_left
          · intro w'
            go_simp
            with_reducible rfl
          rotate_left
          · simp only [Act.put, List.setIfInBounds_toArray, List.set_cons_zero, List.set_cons_succ, i64_w, i32_w]
            rfl
          refine take_ (i := 3) (N := some 160) (v := ?_) (a' := ?_) #[true, true, true, true, false, false, false, false, false, false, false, false, false, false, false, false, false, false] rfl rfl (by kernel_rfl) (fun _ _ _ h => h) (Or.inl ⟨by rfl, ?_⟩) hHeld ?_ ?_
          rotate_left
          · rintro w' hs
            obtain ⟨⟨q0, q1⟩, ⟨q2, q3⟩, ⟨q4, q5⟩⟩ := HEE.out _ hs
            clear hs
            go_simp
            with_reducible rfl
          rotate_left
          · simp only [Act.put, List.setIfInBounds_toArray, List.set_cons_zero, List.set_cons_succ, i64_w, i32_w]
            rfl
          refine pure_ (i := 4) (N := some 161) (v := ?_) (a' := ?_) #[true, true, true, true, true, false, false, false, false, false, false, false, false, false, false, false, false, false] rfl rfl (by kernel_rfl) (fun _ _ _ h => h) (Or.inl ⟨by rfl, ?_⟩) ?_ ?_
          rotate_left
          · intro w'
            go_simp
            with_reducible rfl
          rotate_left
          · simp only [Act.put, List.setIfInBounds_toArray, List.set_cons_zero, List.set_cons_succ, i64_w, i32_w]
            rfl
          refine pure_ (i := 5) (N := some 162) (v := ?_) (a' := ?_) #[true, true, true, true, true, true, false, false, false, false, false, false, false, false, false, false, false, false] rfl rfl (by kernel_rfl) (fun _ _ _ h => h) (Or.inl ⟨by rfl, ?_⟩) ?_ ?_
          rotate_left
          · intro w'
            go_simp
            with_reducible rfl
          rotate_left
          · simp only [Act.put, List.setIfInBounds_toArray, List.set_cons_zero, List.set_cons_succ, i64_w, i32_w]
            rfl
          refine pure_ (i := 6) (N := some 163) (v := ?_) (a' := ?_) #[true, true, true, true, true, true, true, false, false, false, false, false, false, false, false, false, false, false] rfl rfl (by kernel_rfl) (fun _ _ _ h => h) (Or.inl ⟨by rfl, ?_⟩) ?_ ?_
          rotate_left
          · intro w'
            go_simp
            with_reducible rfl
          rotate_left
          · simp only [Act.put, List.setIfInBounds_toArray, List.set_cons_zero, List.set_cons_succ, i64_w, i32_w]
            rfl
          refine take_ (i := 7) (N := some 164) (v := ?_) (a' := ?_) #[true, true, true, true, true, true, true, true, false, false, false, false, false, false, false, false, false, false] rfl rfl (by kernel_rfl) (fun _ _ _ h => h) (Or.inl ⟨by rfl, ?_⟩) hHeld ?_ ?_
          rotate_left
          · rintro w' hs
            obtain ⟨⟨q0, q1⟩, ⟨q2, q3⟩, ⟨q4, q5⟩⟩ := HEE.out _ hs
            clear hs
            go_simp
            with_reducible rfl
          rotate_left
          · simp only [Act.put, List.setIfInBounds_toArray, List.set_cons_zero, List.set_cons_succ, i64_w, i32_w]
            rfl
          refine pure_ (i := 8) (N := some 165) (v := ?_) (a' := ?_) #[true, true, true, true, true, true, true, true, true, false, false, false, false, false, false, false, false, false] rfl rfl (by kernel_rfl) (fun _ _ _ h => h) (Or.inl ⟨by rfl, ?_⟩) ?_ ?_
          rotate_left
          · intro w'
            go_simp
            with_reducible rfl
          rotate_left
          · simp only [Act.put, List.setIfInBounds_toArray, List.set_cons_zero, List.set_cons_succ, i64_w, i32_w]
            rfl
          refine pure_ (i := 9) (N := some 166) (v := ?_) (a' := ?_) #[true, true, true, true, true, true, true, true, true, true, false, false, false, false, false, false, false, false] rfl rfl (by kernel_rfl) (fun _ _ _ h => h) (Or.inl ⟨by rfl, ?_⟩) ?_ ?_
          rotate_left
          · intro w'
            go_simp
            with_reducible rfl
          rotate_left
          · simp only [Act.put, List.setIfInBounds_toArray, List.set_cons_zero, List.set_cons_succ, i64_w, i32_w]
            rfl
          refine pure_ (i := 10) (N := some 167) (v := ?_) (a' := ?_) #[true, true, true, true, true, true, true, true, true, true, true, false, false, false, false, false, false, false] rfl rfl (by kernel_rfl) (fun _ _ _ h => h) (Or.inl ⟨by rfl, ?_⟩) ?_ ?_
          rotate_left
          · intro w'
            go_simp
            with_reducible rfl
          rotate_left
          · simp only [Act.put, List.setIfInBounds_toArray, List.set_cons_zero, List.set_cons_succ, i64_w, i32_w]
            rfl
          refine take_ (i := 11) (N := some 168) (v := ?_) (a' := ?_) #[true, true, true, true, true, true, true, true, true, true, true, true, false, false, false, false, false, false] rfl rfl (by kernel_rfl) (fun _ _ _ h => h) (Or.inl ⟨by rfl, ?_⟩) hHeld ?_ ?_
          rotate_left
          · rintro w' hs
            obtain ⟨⟨q0, q1⟩, ⟨q2, q3⟩, ⟨q4, q5⟩⟩ := HEE.out _ hs
            clear hs
            go_simp
            with_reducible rfl
          rotate_left
          · simp only [Act.put, List.setIfInBounds_toArray, List.set_cons_zero, List.set_cons_succ, i64_w, i32_w]
            rfl
          refine one_ (i := 12) (N := some 169) #[true, true, true, true, true, true, true, true, true, true, true, true, true, false, false, false, false, false] rfl rfl (by kernel_rfl) (by decide) (fun K hK => ?_)
          refine goes_ Tryz.func14 (by kernel_rfl) rfl #[.agg #[.int .u64 f.1, .int .u64 f.2], .agg #[.int .u64 t.1, .int .u64 t.2], .agg #[.int .u64 e.1, .int .u64 e.2]] (by rfl) rfl rfl (by first | rfl | (simp [Act.eval]; done) | (simp [Act.eval, pt]; done) | (go_simp; rfl)) ?_
          with_reducible refine (K1.out _).mono ?_
          rintro e w' ⟨rfl, hb1⟩
          refine ⟨_, rfl, ?_⟩
          refine hK.out _ _ (by exact hHeld.keep hb1) (fun hHeld => ?_)
          clear hK K
          refine norm_ (a' := ?_) ?_ ?_
          rotate_left
          · show Act.put _ (some 169) _ = _
            simp only [Act.put, List.setIfInBounds_toArray, List.set_cons_zero, List.set_cons_succ, i64_w, i32_w]
            rfl
          refine pure_ (i := 13) (N := some 156) (v := ?_) (a' := ?_) #[true, true, true, true, true, true, true, true, true, true, true, true, true, true, false, false, false, false] rfl rfl (by kernel_rfl) (fun _ _ _ h => h) (Or.inl ⟨by rfl, ?_⟩) ?_ ?_
          rotate_left
          · intro w'
            go_simp
            with_reducible rfl
          rotate_left
          · simp only [Act.put, List.setIfInBounds_toArray, List.set_cons_zero, List.set_cons_succ, i64_w, i32_w]
            rfl
          refine pure_ (i := 14) (N := some 170) (v := ?_) (a' := ?_) #[true, true, true, true, true, true, true, true, true, true, true, true, true, true, true, false, false, false] rfl rfl (by kernel_rfl) (fun _ _ _ h => h) (Or.inl ⟨by rfl, ?_⟩) ?_ ?_
          rotate_left
          · intro w'
            go_simp
            with_reducible rfl
          rotate_left
          · simp only [Act.put, List.setIfInBounds_toArray, List.set_cons_zero, List.set_cons_succ, i64_w, i32_w]
            rfl
          refine pure_ (i := 15) (N := some 171) (v := ?_) (a' := ?_) #[true, true, true, true, true, true, true, true, true, true, true, true, true, true, true, true, false, false] rfl rfl (by kernel_rfl) (fun _ _ _ h => h) (Or.inl ⟨by rfl, ?_⟩) ?_ ?_
          rotate_left
          · intro w'
            go_simp
            with_reducible rfl
          rotate_left
          · simp only [Act.put, List.setIfInBounds_toArray, List.set_cons_zero, List.set_cons_succ, i64_w, i32_w]
            rfl
          refine pure_ (i := 16) (N := some 19) (v := ?_) (a' := ?_) #[true, true, true, true, true, true, true, true, true, true, true, true, true, true, true, true, true, false] rfl rfl (by kernel_rfl) (fun _ _ _ h => h) (Or.inl ⟨by rfl, ?_⟩) ?_ ?_
          rotate_left
          · intro w'
            go_simp
            with_reducible rfl
          rotate_left
          · simp only [Act.put, List.setIfInBounds_toArray, List.set_cons_zero, List.set_cons_succ, i64_w, i32_w]
            rfl
          refine pure_ (i := 17) (N := some 20) (v := ?_) (a' := ?_) #[true, true, true, true, true, true, true, true, true, true, true, true, true, true, true, true, true, true] rfl rfl (by kernel_rfl) (fun _ _ _ h => h) (Or.inl ⟨by rfl, ?_⟩) ?_ ?_
          rotate_left
          · intro w'
            go_simp
            with_reducible rfl
          rotate_left
          · simp only [Act.put, List.setIfInBounds_toArray, List.set_cons_zero, List.set_cons_succ, i64_w, i32_w]
            rfl
          refine done_ (by kernel_rfl) ?_
          go_wp2_with fail
          go_meet
          exact ⟨rfl, rfl, hHeld⟩
        case rest =>
        obtain ⟨rfl, rfl, hS2⟩ := hcut
        clear hS K1
        go_upto_region 20 with (fail)
        go_cut [21, 22] (fun x y wx => ∃ gn, x = .pointer (some ⟨gn, 0, none⟩) ∧ y = .int .i64 0 ∧ w.heap.size < gn ∧ LqS w w.heap.size g ge (ge + 1) (ge + 1 + 1) A B C D m wx ∧ wx.heap[gn]? = some (.cells #[.int .i64 nm.kind, .bool nm.proper, .int .u64 nm.P.1, .int .u64 nm.P.2, .int .u64 nm.Q.1, .int .u64 nm.Q.2] 29 (0, 0)))
        case first =>
          as_aux_lemma =>
          have hSe := hS2.keep (Below.refl _ _).drew
          clear hS2
          refine start_ (n := 23) (S := fun w' => LqS w w.heap.size g ge (ge + 1) (ge + 1 + 1) A B C D m w') (ds := [21]) #[false, false, false, false, false, false, false, false, false, false, false, false, false, false, false, false, false, false, false, false, false, false, false] (by kernel_rfl) rfl rfl (hSe) (fun hHeld => ?_)
          refine pure_ (i := 0) (N := some 173) (v := ?_) (a' := ?_) #[true, false, false, false, false, false, false, false, false, false, false, false, false, false, false, false, false, false, false, false, false, false, false] rfl rfl (by kernel_rfl) (fun _ _ _ h => h) (Or.inl ⟨by rfl, ?_⟩) ?_ ?_
          rotate_left
          · intro w'
            go_simp
            with_reducible rfl
          rotate_left
          · simp only [Act.put, List.setIfInBounds_toArray, List.set_cons_zero, List.set_cons_succ, i64_w, i32_w]
            rfl
          refine pure_ (i := 1) (N := some 174) (v := ?_) (a' := ?_) #[true, true, false, false, false, false, false, false, false, false, false, false, false, false, false, false, false, false, false, false, false, false, false] rfl rfl (by kernel_rfl) (fun _ _ _ h => h) (Or.inl ⟨by rfl, ?_⟩) ?_ ?_
          rotate_left
          · intro w'
            go_simp
            with_reducible rfl
          rotate_left
          · simp only [Act.put, List.setIfInBounds_toArray, List.set_cons_zero, List.set_cons_succ, i64_w, i32_w]
            rfl
          refine pure_ (i := 2) (N := some 175) (v := ?_) (a' := ?_) #[true, true, true, false, false, false, false, false, false, false, false, false, false, false, false, false, false, false, false, false, false, false, false] rfl rfl (by kernel_rfl) (fun _ _ _ h => h) (Or.inl ⟨by rfl, ?_⟩) ?_ ?_
          rotate_left
          · intro w'
            go_simp
            with_reducible rfl
          rotate_left
          · simp only [Act.put, List.setIfInBounds_toArray, List.set_cons_zero, List.set_cons_succ, i64_w, i32_w]
            rfl
          refine take_ (i := 3) (N := some 176) (v := ?_) (a' := ?_) #[true, true, true, true, false, false, false, false, false, false, false, false, false, false, false, false, false, false, false, false, false, false, false] rfl rfl (by kernel_rfl) (fun _ _ _ h => h) (Or.inl ⟨by rfl, ?_⟩) hHeld ?_ ?_
          rotate_left
          · rintro w' hs
            obtain ⟨⟨q0, q1⟩, ⟨q2, q3⟩, ⟨q4, q5⟩⟩ := HEE.out _ hs
            clear hs
            go_simp
            with_reducible rfl
          rotate_left
          · simp only [Act.put, List.setIfInBounds_toArray, List.set_cons_zero, List.set_cons_succ, i64_w, i32_w]
            rfl
          refine pure_ (i := 4) (N := some 177) (v := ?_) (a' := ?_) #[true, true, true, true, true, false, false, false, false, false, false, false, false, false, false, false, false, false, false, false, false, false, false] rfl rfl (by kernel_rfl) (fun _ _ _ h => h) (Or.inl ⟨by rfl, ?_⟩) ?_ ?_
          rotate_left
          · intro w'
            go_simp
            with_reducible rfl
          rotate_left
          · simp only [Act.put, List.setIfInBounds_toArray, List.set_cons_zero, List.set_cons_succ, i64_w, i32_w]
            rfl
          refine pure_ (i := 5) (N := some 178) (v := ?_) (a' := ?_) #[true, true, true, true, true, true, false, false, false, false, false, false, false, false, false, false, false, false, false, false, false, false, false] rfl rfl (by kernel_rfl) (fun _ _ _ h => h) (Or.inl ⟨by rfl, ?_⟩) ?_ ?_
          rotate_left
          · intro w'
            go_simp
            with_reducible rfl
          rotate_left
          · simp only [Act.put, List.setIfInBounds_toArray, List.set_cons_zero, List.set_cons_succ, i64_w, i32_w]
            rfl
          refine pure_ (i := 6) (N := some 179) (v := ?_) (a' := ?_) #[true, true, true, true, true, true, true, false, false, false, false, false, false, false, false, false, false, false, false, false, false, false, false] rfl rfl (by kernel_rfl) (fun _ _ _ h => h) (Or.inl ⟨by rfl, ?_⟩) ?_ ?_
          rotate_left
          · intro w'
            go_simp
            with_reducible rfl
          rotate_left
          · simp only [Act.put, List.setIfInBounds_toArray, List.set_cons_zero, List.set_cons_succ, i64_w, i32_w]
            rfl
          refine take_ (i := 7) (N := some 180) (v := ?_) (a' := ?_) #[true, true, true, true, true, true, true, true, false, false, false, false, false, false, false, false, false, false, false, false, false, false, false] rfl rfl (by kernel_rfl) (fun _ _ _ h => h) (Or.inl ⟨by rfl, ?_⟩) hHeld ?_ ?_
          rotate_left
          · rintro w' hs
            obtain ⟨⟨q0, q1⟩, ⟨q2, q3⟩, ⟨q4, q5⟩⟩ := HEE.out _ hs
            clear hs
            go_simp
            with_reducible rfl
          rotate_left
          · simp only [Act.put, List.setIfInBounds_toArray, List.set_cons_zero, List.set_cons_succ, i64_w, i32_w]
            rfl
          refine pure_ (i := 8) (N := some 181) (v := ?_) (a' := ?_) #[true, true, true, true, true, true, true, true, true, false, false, false, false, false, false, false, false, false, false, false, false, false, false] rfl rfl (by kernel_rfl) (fun _ _ _ h => h) (Or.inl ⟨by rfl, ?_⟩) ?_ ?_
          rotate_left
          · intro w'
            go_simp
            with_reducible rfl
          rotate_left
          · simp only [Act.put, List.setIfInBounds_toArray, List.set_cons_zero, List.set_cons_succ, i64_w, i32_w]
            rfl
          refine pure_ (i := 9) (N := some 182) (v := ?_) (a' := ?_) #[true, true, true, true, true, true, true, true, true, true, false, false, false, false, false, false, false, false, false, false, false, false, false] rfl rfl (by kernel_rfl) (fun _ _ _ h => h) (Or.inl ⟨by rfl, ?_⟩) ?_ ?_
          rotate_left
          · intro w'
            go_simp
            with_reducible rfl
          rotate_left
          · simp only [Act.put, List.setIfInBounds_toArray, List.set_cons_zero, List.set_cons_succ, i64_w, i32_w]
            rfl
          refine pure_ (i := 10) (N := some 183) (v := ?_) (a' := ?_) #[true, true, true, true, true, true, true, true, true, true, true, false, false, false, false, false, false, false, false, false, false, false, false] rfl rfl (by kernel_rfl) (fun _ _ _ h => h) (Or.inl ⟨by rfl, ?_⟩) ?_ ?_
          rotate_left
          · intro w'
            go_simp
            with_reducible rfl
          rotate_left
          · simp only [Act.put, List.setIfInBounds_toArray, List.set_cons_zero, List.set_cons_succ, i64_w, i32_w]
            rfl
          refine take_ (i := 11) (N := some 184) (v := ?_) (a' := ?_) #[true, true, true, true, true, true, true, true, true, true, true, true, false, false, false, false, false, false, false, false, false, false, false] rfl rfl (by kernel_rfl) (fun _ _ _ h => h) (Or.inl ⟨by rfl, ?_⟩) hHeld ?_ ?_
          rotate_left
          · rintro w' hs
            obtain ⟨⟨q0, q1⟩, ⟨q2, q3⟩, ⟨q4, q5⟩⟩ := HEE.out _ hs
            clear hs
            go_simp
            with_reducible rfl
          rotate_left
          · simp only [Act.put, List.setIfInBounds_toArray, List.set_cons_zero, List.set_cons_succ, i64_w, i32_w]
            rfl
          refine pure_ (i := 12) (N := some 185) (v := ?_) (a' := ?_) #[true, true, true, true, true, true, true, true, true, true, true, true, true, false, false, false, false, false, false, false, false, false, false] rfl rfl (by kernel_rfl) (fun _ _ _ h => h) (Or.inl ⟨by rfl, ?_⟩) ?_ ?_
          rotate_left
          · intro w'
            go_simp
            with_reducible rfl
          rotate_left
          · simp only [Act.put, List.setIfInBounds_toArray, List.set_cons_zero, List.set_cons_succ, i64_w, i32_w]
            rfl
          refine pure_ (i := 13) (N := some 186) (v := ?_) (a' := ?_) #[true, true, true, true, true, true, true, true, true, true, true, true, true, true, false, false, false, false, false, false, false, false, false] rfl rfl (by kernel_rfl) (fun _ _ _ h => h) (Or.inl ⟨by rfl, ?_⟩) ?_ ?_
          rotate_left
          · intro w'
            go_simp
            with_reducible rfl
          rotate_left
          · simp only [Act.put, List.setIfInBounds_toArray, List.set_cons_zero, List.set_cons_succ, i64_w, i32_w]
            rfl
          refine pure_ (i := 14) (N := some 187) (v := ?_) (a' := ?_) #[true, true, true, true, true, true, true, true, true, true, true, true, true, true, true, false, false, false, false, false, false, false, false] rfl rfl (by kernel_rfl) (fun _ _ _ h => h) (Or.inl ⟨by rfl, ?_⟩) ?_ ?_
          rotate_left
          · intro w'
            go_simp
            with_reducible rfl
          rotate_left
          · simp only [Act.put, List.setIfInBounds_toArray, List.set_cons_zero, List.set_cons_succ, i64_w, i32_w]
            rfl
          refine take_ (i := 15) (N := some 188) (v := ?_) (a' := ?_) #[true, true, true, true, true, true, true, true, true, true, true, true, true, true, true, true, false, false, false, false, false, false, false] rfl rfl (by kernel_rfl) (fun _ _ _ h => h) (Or.inl ⟨by rfl, ?_⟩) hHeld ?_ ?_
          rotate_left
          · rintro w' hs
            obtain ⟨⟨q0, q1⟩, ⟨q2, q3⟩, ⟨q4, q5⟩⟩ := HEE.out _ hs
            clear hs
            go_simp
            with_reducible rfl
          rotate_left
          · simp only [Act.put, List.setIfInBounds_toArray, List.set_cons_zero, List.set_cons_succ, i64_w, i32_w]
            rfl
          refine join_ (σ := Nat) 2 #[true, true, true, true, true, true, true, true, true, true, true, true, true, true, true, true, true, true, true, true, true, false, false] (fun s => [(189, .tuple #[.agg #[.int .i64 nm.kind, .bool nm.proper, .int .u64 nm.P.1, .int .u64 nm.P.2, .int .u64 nm.Q.1, .int .u64 nm.Q.2], .int .i64 0]), (172, .tuple #[.agg #[.int .i64 nm.kind, .bool nm.proper, .int .u64 nm.P.1, .int .u64 nm.P.2, .int .u64 nm.Q.1, .int .u64 nm.Q.2], .int .i64 0]), (190, .agg #[.int .i64 nm.kind, .bool nm.proper, .int .u64 nm.P.1, .int .u64 nm.P.2, .int .u64 nm.Q.1, .int .u64 nm.Q.2]), (191, .int .i64 0), (21, .pointer (some ⟨s, 0, none⟩))]) (fun s w' => w'.heap[s]? = some (.cells #[.int .i64 0, .bool false, .int .u64 0, .int .u64 0, .int .u64 0, .int .u64 0] 29 (0, 0)) ∧ ge + 1 + 1 < s ∧ g < s ∧ LqS w w.heap.size g ge (ge + 1) (ge + 1 + 1) A B C D m w') ?_ ?_
          rotate_left
          · intro J
            generalize hwc0 : wc.drew = wc0 at *
            refine two_ (i := 16) (j := 20) (Ni := some 189) (Nj := some 21) #[true, true, true, true, true, true, true, true, true, true, true, true, true, true, true, true, true, false, false, false, false, false, false] #[true, true, true, true, true, true, true, true, true, true, true, true, true, true, true, true, false, false, false, false, true, false, false] rfl rfl rfl rfl (by kernel_rfl) (by decide) (by decide) ?_ ?_
            · intro K hK
              refine goes_ Tryz.func10 (by kernel_rfl) rfl #[.agg #[.int .u64 f.1, .int .u64 f.2], .agg #[.int .u64 t.1, .int .u64 t.2], .agg #[.int .u64 e.1, .int .u64 e.2], .agg #[.int .u64 e.1, .int .u64 e.2]] (by rfl) rfl rfl (by first | rfl | (simp [Act.eval]; done) | (simp [Act.eval]; done) | (go_simp; rfl)) ?_
              with_reducible refine (K2.out _).mono ?_
              rintro e wc1 ⟨rfl, hb1⟩
              (try replace k7 := (hb1.block _ (heap_lt k7)).trans k7)
              refine ⟨_, rfl, ?_⟩
              refine hK.out _ _ (by exact hHeld.keep hb1) (fun hHeld => ?_)
              clear hK K
              refine norm_ (a' := ?_) ?_ ?_
              rotate_left
              · show Act.put _ (some 189) _ = _
                simp only [Act.put, List.setIfInBounds_toArray, List.set_cons_zero, List.set_cons_succ, i64_w, i32_w]
                rfl
              refine pure_ (i := 17) (N := some 172) (v := ?_) (a' := ?_) #[true, true, true, true, true, true, true, true, true, true, true, true, true, true, true, true, true, true, false, false, false, false, false] rfl rfl (by kernel_rfl) (fun _ _ _ h => h) (Or.inl ⟨by rfl, ?_⟩) ?_ ?_
              rotate_left
              · intro w'
                go_simp
                with_reducible rfl
              rotate_left
              · simp only [Act.put, List.setIfInBounds_toArray, List.set_cons_zero, List.set_cons_succ, i64_w, i32_w]
                rfl
              refine pure_ (i := 18) (N := some 190) (v := ?_) (a' := ?_) #[true, true, true, true, true, true, true, true, true, true, true, true, true, true, true, true, true, true, true, false, false, false, false] rfl rfl (by kernel_rfl) (fun _ _ _ h => h) (Or.inl ⟨by rfl, ?_⟩) ?_ ?_
              rotate_left
              · intro w'
                go_simp
                with_reducible rfl
              rotate_left
              · simp only [Act.put, List.setIfInBounds_toArray, List.set_cons_zero, List.set_cons_succ, i64_w, i32_w]
                rfl
              refine pure_ (i := 19) (N := some 191) (v := ?_) (a' := ?_) #[true, true, true, true, true, true, true, true, true, true, true, true, true, true, true, true, true, true, true, true, false, false, false] rfl rfl (by kernel_rfl) (fun _ _ _ h => h) (Or.inl ⟨by rfl, ?_⟩) ?_ ?_
              rotate_left
              · intro w'
                go_simp
                with_reducible rfl
              rotate_left
              · simp only [Act.put, List.setIfInBounds_toArray, List.set_cons_zero, List.set_cons_succ, i64_w, i32_w]
                rfl
              refine one_ (i := 20) (N := some 21) #[true, true, true, true, true, true, true, true, true, true, true, true, true, true, true, true, true, true, true, true, true, false, false] rfl rfl (by kernel_rfl) (by decide) ?_
              · intro K hK
                refine value_ (v := .pointer (some ⟨wc1.heap.size, 0, none⟩)) (w1 := wc1.alloc (.cells #[.int .i64 0, .bool false, .int .u64 0, .int .u64 0, .int .u64 0, .int .u64 0] 29)) (by rfl) rfl ?_ ?_
                · go_simp; (try rfl)
                obtain ⟨wc2, hw2, hb2, hr2⟩ : ∃ x, wc1.alloc (.cells #[.int .i64 0, .bool false, .int .u64 0, .int .u64 0, .int .u64 0, .int .u64 0] 29) = x ∧ Go.RowKit.Below wc1.heap.size wc1 x ∧ x.heap[wc1.heap.size]? = some (.cells #[.int .i64 0, .bool false, .int .u64 0, .int .u64 0, .int .u64 0, .int .u64 0] 29 (0, 0)) := ⟨_, rfl, (Go.RowKit.Below.refl _ _).alloc (Nat.le_refl _) _, alloc_new _ _⟩
                rw [hw2]
                have m7 : ge + 1 + 1 < wc1.heap.size := heap_lt hHeld.t
                have m8 : g < wc1.heap.size := heap_lt hHeld.s.m
                have k7 := hr2
                (try replace k7 := (hb2.block _ (heap_lt k7)).trans k7)
                refine hK.out _ _ (by exact hHeld.keep hb2) (fun hHeld => ?_)
                clear hK K
                refine norm_ (a' := ?_) ?_ ?_
                rotate_left
                · show Act.put _ (some 21) _ = _
                  simp only [Act.put, List.setIfInBounds_toArray, List.set_cons_zero, List.set_cons_succ, i64_w, i32_w]
                  rfl
                exact norm_ (by rfl) (J _ _ ⟨k7, m7, m8, hHeld⟩)
            · intro K hK
              refine value_ (v := .pointer (some ⟨wc0.heap.size, 0, none⟩)) (w1 := wc0.alloc (.cells #[.int .i64 0, .bool false, .int .u64 0, .int .u64 0, .int .u64 0, .int .u64 0] 29)) (by rfl) rfl ?_ ?_
              · go_simp; (try rfl)
              obtain ⟨wc1, hw1, hb1, hr1⟩ : ∃ x, wc0.alloc (.cells #[.int .i64 0, .bool false, .int .u64 0, .int .u64 0, .int .u64 0, .int .u64 0] 29) = x ∧ Go.RowKit.Below wc0.heap.size wc0 x ∧ x.heap[wc0.heap.size]? = some (.cells #[.int .i64 0, .bool false, .int .u64 0, .int .u64 0, .int .u64 0, .int .u64 0] 29 (0, 0)) := ⟨_, rfl, (Go.RowKit.Below.refl _ _).alloc (Nat.le_refl _) _, alloc_new _ _⟩
              rw [hw1]
              have m7 : ge + 1 + 1 < wc0.heap.size := heap_lt hHeld.t
              have m8 : g < wc0.heap.size := heap_lt hHeld.s.m
              have k7 := hr1
              (try replace k7 := (hb1.block _ (heap_lt k7)).trans k7)
              refine hK.out _ _ (by exact hHeld.keep hb1) (fun hHeld => ?_)
              clear hK K
              refine norm_ (a' := ?_) ?_ ?_
              rotate_left
              · show Act.put _ (some 21) _ = _
                simp only [Act.put, List.setIfInBounds_toArray, List.set_cons_zero, List.set_cons_succ, i64_w, i32_w]
                rfl
              refine one_ (i := 16) (N := some 189) #[true, true, true, true, true, true, true, true, true, true, true, true, true, true, true, true, true, false, false, false, true, false, false] rfl rfl (by kernel_rfl) (by decide) ?_
              · intro K hK
                refine goes_ Tryz.func10 (by kernel_rfl) rfl #[.agg #[.int .u64 f.1, .int .u64 f.2], .agg #[.int .u64 t.1, .int .u64 t.2], .agg #[.int .u64 e.1, .int .u64 e.2], .agg #[.int .u64 e.1, .int .u64 e.2]] (by rfl) rfl rfl (by first | rfl | (simp [Act.eval]; done) | (simp [Act.eval]; done) | (go_simp; rfl)) ?_
                with_reducible refine (K2.out _).mono ?_
                rintro e wc2 ⟨rfl, hb2⟩
                (try replace k7 := (hb2.block _ (heap_lt k7)).trans k7)
                refine ⟨_, rfl, ?_⟩
                refine hK.out _ _ (by exact hHeld.keep hb2) (fun hHeld => ?_)
                clear hK K
                refine norm_ (a' := ?_) ?_ ?_
                rotate_left
                · show Act.put _ (some 189) _ = _
                  simp only [Act.put, List.setIfInBounds_toArray, List.set_cons_zero, List.set_cons_succ, i64_w, i32_w]
                  rfl
                refine pure_ (i := 17) (N := some 172) (v := ?_) (a' := ?_) #[true, true, true, true, true, true, true, true, true, true, true, true, true, true, true, true, true, true, false, false, true, false, false] rfl rfl (by kernel_rfl) (fun _ _ _ h => h) (Or.inl ⟨by rfl, ?_⟩) ?_ ?_
                rotate_left
                · intro w'
                  go_simp
                  with_reducible rfl
                rotate_left
                · simp only [Act.put, List.setIfInBounds_toArray, List.set_cons_zero, List.set_cons_succ, i64_w, i32_w]
                  rfl
                refine pure_ (i := 18) (N := some 190) (v := ?_) (a' := ?_) #[true, true, true, true, true, true, true, true, true, true, true, true, true, true, true, true, true, true, true, false, true, false, false] rfl rfl (by kernel_rfl) (fun _ _ _ h => h) (Or.inl ⟨by rfl, ?_⟩) ?_ ?_
                rotate_left
                · intro w'
                  go_simp
                  with_reducible rfl
                rotate_left
                · simp only [Act.put, List.setIfInBounds_toArray, List.set_cons_zero, List.set_cons_succ, i64_w, i32_w]
                  rfl
                refine pure_ (i := 19) (N := some 191) (v := ?_) (a' := ?_) #[true, true, true, true, true, true, true, true, true, true, true, true, true, true, true, true, true, true, true, true, true, false, false] rfl rfl (by kernel_rfl) (fun _ _ _ h => h) (Or.inl ⟨by rfl, ?_⟩) ?_ ?_
                rotate_left
                · intro w'
                  go_simp
                  with_reducible rfl
                rotate_left
                · simp only [Act.put, List.setIfInBounds_toArray, List.set_cons_zero, List.set_cons_succ, i64_w, i32_w]
                  rfl
                exact norm_ (by rfl) (J _ _ ⟨k7, m7, m8, hHeld⟩)
          rintro gn wj ⟨k7, m7, m8, hHeld⟩
          have HJJ := Lib.hid (And.intro k7 (And.intro m7 (And.intro m8 hHeld)))
          clear k7 m7 m8
          refine norm_ (a' := ?_) ?_ ?_
          rotate_left
          · simp only [putAll, Act.put, List.setIfInBounds_toArray, List.set_cons_zero, List.set_cons_succ]
            rfl
          refine last_ (i := 21) (N := none) #[true, true, true, true, true, true, true, true, true, true, true, true, true, true, true, true, true, true, true, true, true, true, false] rfl rfl (by kernel_rfl) (by decide) (fun K hK => ?_)
          obtain ⟨z0, z1, z2, z3, z4, z5, z6, z7, z8, z9, z10, z11⟩ := row6 HJJ.out.1
          refine skip_ (w1 := ?_) (by rfl) rfl ?_ ?_
          rotate_left
          · go_simp
            rfl
          refine hK.out _ _ ?_
          clear hK K
          refine pure_ (i := 22) (N := some 22) (v := ?_) (a' := ?_) #[true, true, true, true, true, true, true, true, true, true, true, true, true, true, true, true, true, true, true, true, true, true, true] rfl rfl (by kernel_rfl) (fun _ _ _ h => h) (Or.inl ⟨by rfl, ?_⟩) ?_ ?_
          rotate_left
          · intro w'
            go_simp
            with_reducible rfl
          rotate_left
          · simp only [Act.put, List.setIfInBounds_toArray, List.set_cons_zero, List.set_cons_succ, i64_w, i32_w]
            rfl
          refine done_ (by kernel_rfl) ?_
          obtain ⟨k7, m7, m8, hHeld⟩ := HJJ.out
          have hs6 := hHeld.six (s := gn) (by omega) m8 (by omega) (by omega) m7 (.int .i64 nm.kind) (.bool nm.proper) (.int .u64 nm.P.1) (.int .u64 nm.P.2) (.int .u64 nm.Q.1) (.int .u64 nm.Q.2)
          have hn6 := heap_set_sixr k7 (.int .i64 nm.kind) (.bool nm.proper) (.int .u64 nm.P.1) (.int .u64 nm.P.2) (.int .u64 nm.Q.1) (.int .u64 nm.Q.2)
          have HQ := Lib.hid (And.intro hs6 hn6)
          clear k7 hHeld hs6 hn6 HJJ z0 z1 z2 z3 z4 z5 z6 z7 z8 z9 z10 z11 hSe
          go_wp2_with fail
          go_meet
          exact ⟨gn, rfl, rfl, by omega, HQ.out.1, HQ.out.2⟩
        case rest =>
        obtain ⟨gn, rfl, rfl, hgn, hS3, hrow⟩ := hcut
        clear hS2 K2
        obtain ⟨n0, n1, n2, n3, n4, n5, _⟩ := row6 hrow
        have HS3 := Lib.hid (And.intro hS3 hrow)
        clear hS3 hrow
        go_upto_region 21 with (fail)
        go_cut [213] (fun b wx => b = .bool false ∧ wx = wc)
        case first =>
          as_aux_lemma =>
          cases ok
          · obtain rfl : nm = ⟨0, false, (0, 0), (0, 0)⟩ := by have := K3.out; simpa using this
            go_wp2_with fail
            go_meet
            exact ⟨rfl, rfl⟩
          · obtain rfl : nm = ⟨1, false, zp e, (0, 0)⟩ := by have := K3.out; simpa using this
            go_wp2_with fail
            go_meet
            exact ⟨rfl, rfl⟩
        case rest =>
        obtain ⟨rfl, rfl⟩ := hcut
        cases ok
        · as_aux_lemma =>
          go_wp2_with fail
          go_roundg (gk - 1)
          case measure => have := hKJ.out; omega
          case rel => exact ⟨j + 1, by have := hKJ.out; omega, vint (by omega), by rw [HN1.out.1, HC1.out]; rfl, by rw [HN1.out.2, HL1.out]; rfl, HS3.out.1⟩
        · obtain rfl : nm = ⟨1, false, zp e, (0, 0)⟩ := by have := K3.out; simpa using this
          go_upto_region 25 with (fail)
          go_cut [17] (fun y wx => y = .bool (ls || pj) ∧ LqS w w.heap.size g ge (ge + 1) (ge + 1 + 1) A B C D m wx ∧ wx.heap[gn]? = some (.cells #[.int .i64 1, .bool false, .int .u64 (zp e).1, .int .u64 (zp e).2, .int .u64 0, .int .u64 0] 29 (0, 0)))
          case first =>
            have hSd : LqS w w.heap.size g ge (ge + 1) (ge + 1 + 1) A B C D m wc.drew := HS3.out.1.keep (Below.refl _ _).drew
            cases ls
            · as_aux_lemma =>
              obtain ⟨rp0, rp1, rp2, rp3, rp4, rp5, _⟩ := row6 hSd.s.m
              refine start_ (n := 11) (S := fun w' => LqS w w.heap.size g ge (ge + 1) (ge + 1 + 1) A B C D m w') (ds := []) #[false, false, false, false, false, false, false, false, false, false, false] (by kernel_rfl) rfl rfl (hSd) (fun hHeld => ?_)
              refine pure_ (i := 0) (N := some 217) (v := ?_) (a' := ?_) #[true, false, false, false, false, false, false, false, false, false, false] rfl rfl (by kernel_rfl) (fun _ _ _ h => h) (Or.inl ⟨by rfl, ?_⟩) ?_ ?_
              rotate_left
              · intro w'
                go_simp
                with_reducible rfl
              rotate_left
              · simp only [Act.put, List.setIfInBounds_toArray, List.set_cons_zero, List.set_cons_succ, i64_w, i32_w]
                rfl
              refine pure_ (i := 1) (N := some 218) (v := ?_) (a' := ?_) #[true, true, false, false, false, false, false, false, false, false, false] rfl rfl (by kernel_rfl) (fun _ _ _ h => h) (Or.inl ⟨by rfl, ?_⟩) ?_ ?_
              rotate_left
              · intro w'
                go_simp
                with_reducible rfl
              rotate_left
              · simp only [Act.put, List.setIfInBounds_toArray, List.set_cons_zero, List.set_cons_succ, i64_w, i32_w]
                rfl
              refine pure_ (i := 2) (N := some 219) (v := ?_) (a' := ?_) #[true, true, true, false, false, false, false, false, false, false, false] rfl rfl (by kernel_rfl) (fun _ _ _ h => h) (Or.inl ⟨by rfl, ?_⟩) ?_ ?_
              rotate_left
              · intro w'
                go_simp
                with_reducible rfl
              rotate_left
              · simp only [Act.put, List.setIfInBounds_toArray, List.set_cons_zero, List.set_cons_succ, i64_w, i32_w]
                rfl
              refine take_ (i := 3) (N := some 220) (v := ?_) (a' := ?_) #[true, true, true, true, false, false, false, false, false, false, false] rfl rfl (by kernel_rfl) (fun _ _ _ h => h) (Or.inl ⟨by rfl, ?_⟩) hHeld ?_ ?_
              rotate_left
              · rintro w' hs
                obtain ⟨⟨q0, q1⟩, _, _⟩ := HEE.out _ hs
                obtain ⟨p0, p1, p2, p3, p4, p5, _⟩ := row6 hs.s.m
                clear hs
                go_simp
                with_reducible rfl
              rotate_left
              · simp only [Act.put, List.setIfInBounds_toArray, List.set_cons_zero, List.set_cons_succ, i64_w, i32_w]
                rfl
              refine pure_ (i := 4) (N := some 221) (v := ?_) (a' := ?_) #[true, true, true, true, true, false, false, false, false, false, false] rfl rfl (by kernel_rfl) (fun _ _ _ h => h) (Or.inl ⟨by rfl, ?_⟩) ?_ ?_
              rotate_left
              · intro w'
                go_simp
                with_reducible rfl
              rotate_left
              · simp only [Act.put, List.setIfInBounds_toArray, List.set_cons_zero, List.set_cons_succ, i64_w, i32_w]
                rfl
              refine pure_ (i := 5) (N := some 222) (v := ?_) (a' := ?_) #[true, true, true, true, true, true, false, false, false, false, false] rfl rfl (by kernel_rfl) (fun _ _ _ h => h) (Or.inl ⟨by rfl, ?_⟩) ?_ ?_
              rotate_left
              · intro w'
                go_simp
                with_reducible rfl
              rotate_left
              · simp only [Act.put, List.setIfInBounds_toArray, List.set_cons_zero, List.set_cons_succ, i64_w, i32_w]
                rfl
              refine pure_ (i := 6) (N := some 223) (v := ?_) (a' := ?_) #[true, true, true, true, true, true, true, false, false, false, false] rfl rfl (by kernel_rfl) (fun _ _ _ h => h) (Or.inl ⟨by rfl, ?_⟩) ?_ ?_
              rotate_left
              · intro w'
                go_simp
                with_reducible rfl
              rotate_left
              · simp only [Act.put, List.setIfInBounds_toArray, List.set_cons_zero, List.set_cons_succ, i64_w, i32_w]
                rfl
              refine take_ (i := 7) (N := some 224) (v := ?_) (a' := ?_) #[true, true, true, true, true, true, true, true, false, false, false] rfl rfl (by kernel_rfl) (fun _ _ _ h => h) (Or.inl ⟨by rfl, ?_⟩) hHeld ?_ ?_
              rotate_left
              · rintro w' hs
                obtain ⟨⟨q0, q1⟩, _, _⟩ := HEE.out _ hs
                obtain ⟨p0, p1, p2, p3, p4, p5, _⟩ := row6 hs.s.m
                clear hs
                go_simp
                with_reducible rfl
              rotate_left
              · simp only [Act.put, List.setIfInBounds_toArray, List.set_cons_zero, List.set_cons_succ, i64_w, i32_w]
                rfl
              refine one_ (i := 8) (N := some 225) #[true, true, true, true, true, true, true, true, true, false, false] rfl rfl (by kernel_rfl) (by decide) (fun K hK => ?_)
              refine goes_ Tryz.func15 (by kernel_rfl) rfl #[.agg #[.int .u64 m.P.1, .int .u64 m.P.2], .agg #[.int .u64 e.1, .int .u64 e.2]] (by rfl) rfl rfl (by first | rfl | (simp [Act.eval]; done) | (simp [Act.eval]; done) | (go_simp; rfl)) ?_
              with_reducible refine (K4.out _).mono ?_
              rintro e w' ⟨rfl, hb1⟩
              refine ⟨_, rfl, ?_⟩
              refine hK.out _ _ (by exact hHeld.keep hb1) (fun hHeld => ?_)
              clear hK K
              refine norm_ (a' := ?_) ?_ ?_
              rotate_left
              · show Act.put _ (some 225) _ = _
                simp only [Act.put, List.setIfInBounds_toArray, List.set_cons_zero, List.set_cons_succ, i64_w, i32_w]
                rfl
              refine pure_ (i := 9) (N := some 226) (v := ?_) (a' := ?_) #[true, true, true, true, true, true, true, true, true, true, false] rfl rfl (by kernel_rfl) (fun _ _ _ h => h) (Or.inl ⟨by rfl, ?_⟩) ?_ ?_
              rotate_left
              · intro w'
                go_simp
                with_reducible rfl
              rotate_left
              · simp only [Act.put, List.setIfInBounds_toArray, List.set_cons_zero, List.set_cons_succ, i64_w, i32_w]
                rfl
              refine pure_ (i := 10) (N := some 17) (v := ?_) (a' := ?_) #[true, true, true, true, true, true, true, true, true, true, true] rfl rfl (by kernel_rfl) (fun _ _ _ h => h) (Or.inl ⟨by rfl, ?_⟩) ?_ ?_
              rotate_left
              · intro w'
                go_simp
                with_reducible rfl
              rotate_left
              · simp only [Act.put, List.setIfInBounds_toArray, List.set_cons_zero, List.set_cons_succ, i64_w, i32_w]
                rfl
              refine done_ (by kernel_rfl) ?_
              go_wp2_with fail
              go_meet
              exact ⟨rfl, hHeld, (hb1.block _ (heap_lt HS3.out.2)).trans HS3.out.2⟩
            · as_aux_lemma =>
              refine start_ (n := 11) (S := fun w' => LqS w w.heap.size g ge (ge + 1) (ge + 1 + 1) A B C D m w') (ds := []) #[false, false, false, false, false, false, false, false, false, false, false] (by kernel_rfl) rfl rfl (hSd) (fun hHeld => ?_)
              refine pure_ (i := 0) (N := some 217) (v := ?_) (a' := ?_) #[true, false, false, false, false, false, false, false, false, false, false] rfl rfl (by kernel_rfl) (fun _ _ _ h => h) (Or.inl ⟨by rfl, ?_⟩) ?_ ?_
              rotate_left
              · intro w'
                go_simp
                with_reducible rfl
              rotate_left
              · simp only [Act.put, List.setIfInBounds_toArray, List.set_cons_zero, List.set_cons_succ, i64_w, i32_w]
                rfl
              refine pure_ (i := 1) (N := some 218) (v := ?_) (a' := ?_) #[true, true, false, false, false, false, false, false, false, false, false] rfl rfl (by kernel_rfl) (fun _ _ _ h => h) (Or.inl ⟨by rfl, ?_⟩) ?_ ?_
              rotate_left
              · intro w'
                go_simp
                with_reducible rfl
              rotate_left
              · simp only [Act.put, List.setIfInBounds_toArray, List.set_cons_zero, List.set_cons_succ, i64_w, i32_w]
                rfl
              refine pure_ (i := 2) (N := some 219) (v := undef) (a' := ?_) #[true, true, true, false, false, false, false, false, false, false, false] rfl rfl (by kernel_rfl) (fun _ _ _ h => h) (Or.inr ⟨by first | rfl | (simp [Region.wanted, yielded]; done) | (go_simp; done), rfl⟩) ?_ ?_
              rotate_left
              · simp only [Act.put, List.setIfInBounds_toArray, List.set_cons_zero, List.set_cons_succ, i64_w, i32_w]
                rfl
              refine pure_ (i := 3) (N := some 220) (v := undef) (a' := ?_) #[true, true, true, true, false, false, false, false, false, false, false] rfl rfl (by kernel_rfl) (fun _ _ _ h => h) (Or.inr ⟨by first | rfl | (simp [Region.wanted, yielded]; done) | (go_simp; done), rfl⟩) ?_ ?_
              rotate_left
              · simp only [Act.put, List.setIfInBounds_toArray, List.set_cons_zero, List.set_cons_succ, i64_w, i32_w]
                rfl
              refine pure_ (i := 4) (N := some 221) (v := undef) (a' := ?_) #[true, true, true, true, true, false, false, false, false, false, false] rfl rfl (by kernel_rfl) (fun _ _ _ h => h) (Or.inr ⟨by first | rfl | (simp [Region.wanted, yielded]; done) | (go_simp; done), rfl⟩) ?_ ?_
              rotate_left
              · simp only [Act.put, List.setIfInBounds_toArray, List.set_cons_zero, List.set_cons_succ, i64_w, i32_w]
                rfl
              refine pure_ (i := 5) (N := some 222) (v := undef) (a' := ?_) #[true, true, true, true, true, true, false, false, false, false, false] rfl rfl (by kernel_rfl) (fun _ _ _ h => h) (Or.inr ⟨by first | rfl | (simp [Region.wanted, yielded]; done) | (go_simp; done), rfl⟩) ?_ ?_
              rotate_left
              · simp only [Act.put, List.setIfInBounds_toArray, List.set_cons_zero, List.set_cons_succ, i64_w, i32_w]
                rfl
              refine pure_ (i := 6) (N := some 223) (v := undef) (a' := ?_) #[true, true, true, true, true, true, true, false, false, false, false] rfl rfl (by kernel_rfl) (fun _ _ _ h => h) (Or.inr ⟨by first | rfl | (simp [Region.wanted, yielded]; done) | (go_simp; done), rfl⟩) ?_ ?_
              rotate_left
              · simp only [Act.put, List.setIfInBounds_toArray, List.set_cons_zero, List.set_cons_succ, i64_w, i32_w]
                rfl
              refine pure_ (i := 7) (N := some 224) (v := undef) (a' := ?_) #[true, true, true, true, true, true, true, true, false, false, false] rfl rfl (by kernel_rfl) (fun _ _ _ h => h) (Or.inr ⟨by first | rfl | (simp [Region.wanted, yielded]; done) | (go_simp; done), rfl⟩) ?_ ?_
              rotate_left
              · simp only [Act.put, List.setIfInBounds_toArray, List.set_cons_zero, List.set_cons_succ, i64_w, i32_w]
                rfl
              refine pure_ (i := 8) (N := some 225) (v := undef) (a' := ?_) #[true, true, true, true, true, true, true, true, true, false, false] rfl rfl (by kernel_rfl) (fun _ _ _ h => h) (Or.inr ⟨by first | rfl | (simp [Region.wanted, yielded]; done) | (go_simp; done), rfl⟩) ?_ ?_
              rotate_left
              · simp only [Act.put, List.setIfInBounds_toArray, List.set_cons_zero, List.set_cons_succ, i64_w, i32_w]
                rfl
              refine pure_ (i := 9) (N := some 226) (v := ?_) (a' := ?_) #[true, true, true, true, true, true, true, true, true, true, false] rfl rfl (by kernel_rfl) (fun _ _ _ h => h) (Or.inl ⟨by rfl, ?_⟩) ?_ ?_
              rotate_left
              · intro w'
                go_simp
                with_reducible rfl
              rotate_left
              · simp only [Act.put, List.setIfInBounds_toArray, List.set_cons_zero, List.set_cons_succ, i64_w, i32_w]
                rfl
              refine pure_ (i := 10) (N := some 17) (v := ?_) (a' := ?_) #[true, true, true, true, true, true, true, true, true, true, true] rfl rfl (by kernel_rfl) (fun _ _ _ h => h) (Or.inl ⟨by rfl, ?_⟩) ?_ ?_
              rotate_left
              · intro w'
                go_simp
                with_reducible rfl
              rotate_left
              · simp only [Act.put, List.setIfInBounds_toArray, List.set_cons_zero, List.set_cons_succ, i64_w, i32_w]
                rfl
              refine done_ (by kernel_rfl) ?_
              go_wp2_with fail
              go_meet
              exact ⟨rfl, hHeld, HS3.out.2⟩
          case rest =>
          obtain ⟨rfl, hS4, hrow4⟩ := hcut
          clear HS3 K4
          as_aux_lemma =>
          have hSd : LqS w w.heap.size g ge (ge + 1) (ge + 1 + 1) A B C D m wc.drew ∧ wc.drew.heap[gn]? = some (.cells #[.int .i64 1, .bool false, .int .u64 (zp e).1, .int .u64 (zp e).2, .int .u64 0, .int .u64 0] 29 (0, 0)) := ⟨hS4.keep (Below.refl _ _).drew, hrow4⟩
          clear hS4 hrow4
          ((try dsimp only); repeat (first | go_values | go_skip | go_guarded | go_step | go_upon))
          refine start_ (n := 8) (S := fun w' => LqS w w.heap.size g ge (ge + 1) (ge + 1 + 1) A B C D m w' ∧ w'.heap[gn]? = some (.cells #[.int .i64 1, .bool false, .int .u64 (zp e).1, .int .u64 (zp e).2, .int .u64 0, .int .u64 0] 29 (0, 0))) (ds := []) #[false, false, false, false, false, false, false, false] (by kernel_rfl) rfl rfl (hSd) (fun hHeld => ?_)
          refine pure_ (i := 0) (N := some 227) (v := ?_) (a' := ?_) #[true, false, false, false, false, false, false, false] rfl rfl (by kernel_rfl) (fun _ _ _ h => h) (Or.inl ⟨by rfl, ?_⟩) ?_ ?_
          rotate_left
          · intro w'
            go_simp
            with_reducible rfl
          rotate_left
          · simp only [Act.put, List.setIfInBounds_toArray, List.set_cons_zero, List.set_cons_succ, i64_w, i32_w]
            rfl
          refine take_ (i := 1) (N := some 228) (v := ?_) (a' := ?_) #[true, true, false, false, false, false, false, false] rfl rfl (by kernel_rfl) (fun _ _ _ h => h) (Or.inl ⟨by rfl, ?_⟩) hHeld ?_ ?_
          rotate_left
          · rintro w' ⟨hs, hr⟩
            obtain ⟨⟨q0, q1⟩, _, _⟩ := HEE.out _ hs
            obtain ⟨p0, p1, p2, p3, p4, p5, _⟩ := row6 hr
            clear hs hr
            go_simp
            with_reducible rfl
          rotate_left
          · simp only [Act.put, List.setIfInBounds_toArray, List.set_cons_zero, List.set_cons_succ, i64_w, i32_w]
            rfl
          refine pure_ (i := 2) (N := some 229) (v := ?_) (a' := ?_) #[true, true, true, false, false, false, false, false] rfl rfl (by kernel_rfl) (fun _ _ _ h => h) (Or.inl ⟨by rfl, ?_⟩) ?_ ?_
          rotate_left
          · intro w'
            go_simp
            with_reducible rfl
          rotate_left
          · simp only [Act.put, List.setIfInBounds_toArray, List.set_cons_zero, List.set_cons_succ, i64_w, i32_w]
            rfl
          refine pure_ (i := 3) (N := some 230) (v := ?_) (a' := ?_) #[true, true, true, true, false, false, false, false] rfl rfl (by kernel_rfl) (fun _ _ _ h => h) (Or.inl ⟨by rfl, ?_⟩) ?_ ?_
          rotate_left
          · intro w'
            go_simp
            with_reducible rfl
          rotate_left
          · simp only [Act.put, List.setIfInBounds_toArray, List.set_cons_zero, List.set_cons_succ, i64_w, i32_w]
            rfl
          refine pure_ (i := 4) (N := some 231) (v := ?_) (a' := ?_) #[true, true, true, true, true, false, false, false] rfl rfl (by kernel_rfl) (fun _ _ _ h => h) (Or.inl ⟨by rfl, ?_⟩) ?_ ?_
          rotate_left
          · intro w'
            go_simp
            with_reducible rfl
          rotate_left
          · simp only [Act.put, List.setIfInBounds_toArray, List.set_cons_zero, List.set_cons_succ, i64_w, i32_w]
            rfl
          refine take_ (i := 5) (N := some 232) (v := ?_) (a' := ?_) #[true, true, true, true, true, true, false, false] rfl rfl (by kernel_rfl) (fun _ _ _ h => h) (Or.inl ⟨by rfl, ?_⟩) hHeld ?_ ?_
          rotate_left
          · rintro w' ⟨hs, hr⟩
            obtain ⟨⟨q0, q1⟩, _, _⟩ := HEE.out _ hs
            obtain ⟨p0, p1, p2, p3, p4, p5, _⟩ := row6 hr
            clear hs hr
            go_simp
            with_reducible rfl
          rotate_left
          · simp only [Act.put, List.setIfInBounds_toArray, List.set_cons_zero, List.set_cons_succ, i64_w, i32_w]
            rfl
          refine one_ (i := 6) (N := some 233) #[true, true, true, true, true, true, true, false] rfl rfl (by kernel_rfl) (by decide) (fun K hK => ?_)
          refine goes_ Tryz.func15 (by kernel_rfl) rfl #[.agg #[.int .u64 (zp e).1, .int .u64 (zp e).2], .agg #[.int .u64 e.1, .int .u64 e.2]] (by rfl) rfl rfl (by first | rfl | (simp [Act.eval]; done) | (simp [Act.eval]; done) | (go_simp; rfl)) ?_
          with_reducible refine (K5.out _).mono ?_
          rintro e w' ⟨rfl, hb1⟩
          refine ⟨_, rfl, ?_⟩
          refine hK.out _ _ (by exact ⟨hHeld.1.keep hb1, (hb1.block _ (heap_lt hHeld.2)).trans hHeld.2⟩) (fun hHeld => ?_)
          clear hK K
          refine norm_ (a' := ?_) ?_ ?_
          rotate_left
          · show Act.put _ (some 233) _ = _
            simp only [Act.put, List.setIfInBounds_toArray, List.set_cons_zero, List.set_cons_succ, i64_w, i32_w]
            rfl
          refine pure_ (i := 7) (N := some 234) (v := ?_) (a' := ?_) #[true, true, true, true, true, true, true, true] rfl rfl (by kernel_rfl) (fun _ _ _ h => h) (Or.inl ⟨by rfl, ?_⟩) ?_ ?_
          rotate_left
          · intro w'
            go_simp
            with_reducible rfl
          rotate_left
          · simp only [Act.put, List.setIfInBounds_toArray, List.set_cons_zero, List.set_cons_succ, i64_w, i32_w]
            rfl
          refine done_ (by kernel_rfl) ?_
          generalize w' = wd at *
          have HS5 := Lib.hid hHeld.1
          clear hHeld hSd hb1 K5
          go_wp2_with fail
          go_roundg (gk - 1)
          case measure => have := hKJ.out; omega
          case rel => exact ⟨j + 1, by have := hKJ.out; omega, vint (by omega), by rw [HN1.out.1, HC1.out]; rfl, by rw [HN1.out.2, HL1.out]; rfl, HS5.out⟩
      · obtain rfl : j = 4 := by omega
        clear HJ HC1 HL1 hKJ hj hcr hj4
        have HS := Lib.hid hS
        clear hS
        by_cases hc0 : cntF o 4 = 0
        · as_aux_lemma =>
          have hk := HE.out.1 hc0
          have hcb : (cntF o 4 == 0) = true := beq_iff_eq.2 hc0
          clear HE hc0
          generalize cntF o 4 = cn at *
          generalize lstF o p 4 = ls at *
          obtain ⟨K, Pr, P, Q⟩ := m
          have hm := row6 HS.out.s.m
          simp only at hm hk
          obtain ⟨m0, m1, m2, m3, m4, m5, _⟩ := hm
          cases Pr
          · have hk2 : (K == 0) = true := hk
            clear hk
            go_wp2_with fail
            go_ret
            exact ⟨rfl, HS.out.s.b0⟩
          · have hk2 : (K == 0) = false := hk
            clear hk
            go_wp2_with fail
            go_ret
            exact ⟨rfl, HS.out.s.b0⟩
        · obtain ⟨k1, k2, k3, k4⟩ := HE.out.2.1 hc0
          have h2 := HE.out.2.2
          have hcb : (cntF o 4 == 0) = false := beq_eq_false_iff_ne.2 hc0
          rw [k3]
          clear HE hc0 k3
          generalize cntF o 4 = cn at *
          obtain ⟨K, Pr, P, Q⟩ := m
          simp only at k1 k2 k4 h2
          subst k2
          have hk0 : (K == 0) = false := beq_eq_false_iff_ne.2 k1
          have hm := row6 HS.out.s.m
          simp only at hm
          obtain ⟨m0, m1, m2, m3, m4, m5, _⟩ := hm
          have hf := row8 HS.out.s.f
          obtain ⟨y0, y1, y2, y3, y4, y5, y6, y7⟩ := hf
          by_cases hk2 : K = 2
          · as_aux_lemma =>
            obtain ⟨rfl, rfl, rfl, rfl, g1, g2, g3⟩ := h2 hk2
            subst hk2
            have G1 := Lib.hid g1
            have G2 := Lib.hid g2
            have G3 := Lib.hid g3
            clear g1 g2 g3 h2 k4 k1
            go_wp2_with fail
            refine (G1.out _).mono ?_
            rintro e w5 ⟨rfl, hb⟩
            have hs := HS.out.keep hb
            clear HS hb m0 m1 m2 m3 m4 m5 y0 y1 y2 y3 y4 y5 y6 y7
            obtain ⟨m0, m1, m2, m3, m4, m5, _⟩ := row6 hs.s.m
            obtain ⟨y0, y1, y2, y3, y4, y5, y6, y7⟩ := row8 hs.s.f
            have HS := Lib.hid hs
            clear hs
            go_wp2_with fail
            refine (G2.out _).mono ?_
            rintro e w6 ⟨rfl, hb⟩
            have hs := HS.out.keep hb
            clear HS hb m0 m1 m2 m3 m4 m5 y0 y1 y2 y3 y4 y5 y6 y7
            obtain ⟨m0, m1, m2, m3, m4, m5, _⟩ := row6 hs.s.m
            obtain ⟨y0, y1, y2, y3, y4, y5, y6, y7⟩ := row8 hs.s.f
            have HS := Lib.hid hs
            clear hs
            go_wp2_with fail
            refine (G3.out _).mono ?_
            rintro e w7 ⟨rfl, hb⟩
            have hs := HS.out.keep hb
            clear HS hb m0 m1 m2 m3 m4 m5 y0 y1 y2 y3 y4 y5 y6 y7
            have HS := Lib.hid hs
            clear hs
            go_wp2_with fail
            go_ret
            exact ⟨rfl, HS.out.s.b0⟩
          · as_aux_lemma =>
            obtain rfl : Q = (0, 0) := k4 hk2
            have hk2b : (K == 2) = false := beq_eq_false_iff_ne.2 hk2
            clear h2 k4 k1 hk2
            go_wp2_with fail
            go_ret
            exact ⟨rfl, HS.out.s.b0⟩
end Go.Proofs.YtggfppgjabembaaGreatDoor

namespace Go.Proofs.YtggfppgjabembaaGreatDoor
open Go.RowKit
set_option linter.unusedVariables false
set_option linter.unusedSimpArgs false
theorem meetR_pts (X s0 s1 t0 t1 : Pt) (P : Pt → Prop) (h0 : P (0, 0)) (h1 : P s0) (h2 : P s1) (h3 : P t0) (h4 : P t1) (hX : sideP s0 s1 t0 * sideP s0 s1 t1 < 0 → sideP t0 t1 s0 * sideP t0 t1 s1 < 0 → P X) :
    P (meetR X s0 s1 t0 t1).P ∧ P (meetR X s0 s1 t0 t1).Q := by
  have hl : P (loops s0 s1 t0 t1).P ∧ P (loops s0 s1 t0 t1).Q := by
    unfold loops touch apartM
    (repeat' split) <;> exact ⟨by assumption, by assumption⟩
  have hr : ∀ a b : Pt, P a → P b → P (riseR a b).1 ∧ P (riseR a b).2 := by
    intro a b ha hb
    unfold riseR; split
    · exact ⟨hb, ha⟩
    · exact ⟨ha, hb⟩
  have ha : ∀ r0 r1 q0 q1 : Pt, P r0 → P r1 → P q0 → P q1 → P (alongR r0 r1 q0 q1).P ∧ P (alongR r0 r1 q0 q1).Q := by
    intro r0 r1 q0 q1 a1 a2 a3 a4
    have l : P (lowR r0 q0) := by unfold lowR; split <;> assumption
    have u : P (highR r1 q1) := by unfold highR; split <;> assumption
    unfold alongR touch apartM
    (repeat' split) <;> exact ⟨by assumption, by assumption⟩
  unfold meetR
  split
  · exact hl
  · split
    · exact ha _ _ _ _ (hr _ _ h1 h2).1 (hr _ _ h1 h2).2 (hr _ _ h3 h4).1 (hr _ _ h3 h4).2
    · split
      · rename_i h; exact ⟨hX h.1 h.2, h0⟩
      · exact hl
theorem meetM_fin {a b c d : Pt} (fa : FinP a) (fb : FinP b) (fc : FinP c) (fd : FinP d) : FinP (meetM a b c d).P ∧ FinP (meetM a b c d).Q := by
  have z : ∀ p : Pt, FinP p → FinP (zp p) := fun p h => ⟨zed_fin h.1, zed_fin h.2⟩
  refine meetR_pts _ _ _ _ _ FinP (fin_of 0 0 (by decide)) (z _ fa) (z _ fb) (z _ fc) (z _ fd) (fun h1 h2 => ?_)
  obtain ⟨g1, g2⟩ := crossFit (zp a) (zp b) (zp c) (zp d) (z _ fa) (z _ fb) (z _ fc) (z _ fd) h1 h2
  exact ⟨(nearR_ok g1).2, (nearR_ok g2).2⟩
theorem meetM_law {a b c d : Pt} (fa : FinP a) (fb : FinP b) (fc : FinP c) (fd : FinP d) : MeetLaw (meetM a b c d) (zp a) (zp b) (zp c) (zp d) :=
  meet_law (good_zp fa.1 fa.2) (good_zp fb.1 fb.2) (good_zp fc.1 fc.2) (good_zp fd.1 fd.2)
theorem sideP_zp (a b c : Pt) : sideP (zp a) (zp b) (zp c) = sideP a b c := by unfold sideP; rw [pl_zp, pl_zp, pl_zp]
theorem btwP_zp (a b c : Pt) : btwP (zp a) (zp b) (zp c) = btwP a b c := by unfold btwP; rw [pl_zp, pl_zp, pl_zp]
theorem placeB_zp (a b : Pt) : placeB (zp a) b = placeB a b := by unfold placeB; rw [pl_zp]
theorem placeB_self (a : Pt) : placeB a a = true := decide_eq_true rfl
theorem meetM_point (f t e : Pt) (hf : FinP f) (ht : FinP t) (he : FinP e) : meetM f t e e = if btwP f t e = true then ⟨1, false, zp e, (0, 0)⟩ else ⟨0, false, (0, 0), (0, 0)⟩ := by
  have := meet_point (meetX (zp f) (zp t) (zp e) (zp e)) (zp f) (zp t) (zp e) (good_zp hf.1 hf.2) (good_zp ht.1 ht.2) (good_zp he.1 he.2)
  unfold meetM
  rw [this, btwP_zp]
  rfl
theorem at4_fin {a b c d : Pt} (fa : FinP a) (fb : FinP b) (fc : FinP c) (fd : FinP d) : ∀ j, FinP (at4 a b c d j)
  | 0 => fa
  | 1 => fb
  | 2 => fc
  | _ + 3 => fd
theorem lSegPred (a b c d : Pt) (w : World) (ha : PtU a) (hb : PtU b) (hc : PtU c) (hd : PtU d) :
    Calls Tryz.prog 3 #[fr a b c d] w fun e w' => e = .returned (.bool true) ∧ Below w.heap.size w w' := by
  have hSp := fun wz => lSpots a b c d wz ha hb hc hd
  have fA := spot_fin ha
  have fB := spot_fin hb
  have fC := spot_fin hc
  have fD := spot_fin hd
  generalize spot a = A at *
  generalize spot b = B at *
  generalize spot c = C at *
  generalize spot d = D at *
  obtain ⟨fP, fQ⟩ := meetM_fin fA fB fC fD
  have ML := meetM_law fA fB fC fD
  have fE := at4_fin fC fD fA fB
  have fF := at4_fin fA fA fC fC
  have fT := at4_fin fB fB fD fD
  have hM := fun wz => sMeetAny A B C D wz fA fB fC fD
  generalize meetM A B C D = m at *
  obtain ⟨l1, l2, l3, l4, l5⟩ := ML
  simp only [sideP_zp, btwP_zp] at l1 l2 l3 l4 l5
  let o : Nat → Bool := fun j => btwP (at4 A A C C j) (at4 B B D D j) (at4 C D A B j)
  let p : Nat → Bool := fun j => placeB m.P (at4 C D A B j)
  have hc4 : cntF o 4 = 0 ↔ (btwP A B C || btwP A B D || btwP C D A || btwP C D B) = false := by
    have e0 : o 0 = btwP A B C := rfl
    have e1 : o 1 = btwP A B D := rfl
    have e2 : o 2 = btwP C D A := rfl
    have e3 : o 3 = btwP C D B := rfl
    simp only [cntF, e0, e1, e2, e3]
    cases btwP A B C <;> cases btwP A B D <;> cases btwP C D A <;> cases btwP C D B <;> simp
  have hnone : cntF o 4 = 0 → (m.kind == 0) = !m.proper := by
    intro h
    have h0 := hc4.1 h
    cases hp : m.proper
    · exact beq_iff_eq.2 (l3 h0 hp)
    · exact beq_eq_false_iff_ne.2 (by rw [(l1 hp).1]; decide)
  have hsome : cntF o 4 ≠ 0 → m.kind ≠ 0 ∧ m.proper = false ∧ lstF o p 4 = true ∧ (m.kind ≠ 2 → m.Q = (0, 0)) := by
    intro h
    have h0 : (btwP A B C || btwP A B D || btwP C D A || btwP C D B) = true := by
      cases hx : (btwP A B C || btwP A B D || btwP C D A || btwP C D B)
      · exact absurd (hc4.2 hx) h
      · rfl
    obtain ⟨k1, k2, k3⟩ := l4 h0
    refine ⟨k1, ?_, ?_, k3⟩
    · cases hp : m.proper
      · rfl
      · have := (l1 hp).2
        rw [h0] at this
        cases this
    · have e0 : o 0 = btwP A B C := rfl
      have e1 : o 1 = btwP A B D := rfl
      have e2 : o 2 = btwP C D A := rfl
      have e3 : o 3 = btwP C D B := rfl
      have f0 : p 0 = placeB m.P C := rfl
      have f1 : p 1 = placeB m.P D := rfl
      have f2 : p 2 = placeB m.P A := rfl
      have f3 : p 3 = placeB m.P B := rfl
      simp only [lstF, e0, e1, e2, e3, f0, f1, f2, f3]
      rcases k2 with ⟨g, gp⟩ | ⟨g, gp⟩ | ⟨g, gp⟩ | ⟨g, gp⟩ <;> rw [g, gp, placeB_zp, placeB_zp, placeB_zp, placeB_zp] <;> simp [placeB_self]
      all_goals (repeat' split) <;> simp
  refine lSegPredIn a b c d A B C D m (sideP A B C) (sideP A B D) (sideP C D A) (sideP C D B) (oppB (sideP C D A) (sideP C D B)) (oppB (sideP A B C) (sideP A B D)) w hSp hM
    (fun wz => pOrient A B C wz fA fB fC) (fun wz => pOrient A B D wz fA fB fD) (fun wz => pOrient C D A wz fC fD fA) (fun wz => pOrient C D B wz fC fD fB)
    (fun wz => lOpposite _ _ wz (sideP_cases _ _ _) (sideP_cases _ _ _)) (fun wz => lOpposite _ _ wz (sideP_cases _ _ _) (sideP_cases _ _ _)) l2 (fun h => (l1 h).1)
    o p (fun j => meetM (at4 A A C C j) (at4 B B D D j) (at4 C D A B j) (at4 C D A B j))
    (fun j _ wz => pBetween _ _ _ wz (fF j) (fT j) (fE j)) (fun j _ wz => sMeetAny _ _ _ _ wz (fF j) (fT j) (fE j) (fE j)) (fun j _ => meetM_point _ _ _ (fF j) (fT j) (fE j))
    (fun j _ wz => lPlace _ _ wz fP (fE j)) (fun j _ wz => ?_) hnone hsome (fun h => ?_)
  · have := lPlace (zp (at4 C D A B j)) (at4 C D A B j) wz ⟨zed_fin (fE j).1, zed_fin (fE j).2⟩ (fE j)
    rw [placeB_zp, placeB_self] at this
    exact this
  · obtain ⟨g1, g2, g3, g4, g5, g6, g7⟩ := l5 h
    refine ⟨g6, g7, g4, g5, fun wz => ?_, fun wz => ?_, fun wz => ?_⟩
    · have := pOrderP m.P m.Q wz fP fQ
      have e : pcmpP m.P m.Q = -1 := by
        unfold pcmpP
        rcases pcmp_cases (pl m.P) (pl m.Q) with k | k | k <;> omega
      rw [e] at this
      exact this
    · have := pBetween A B m.Q wz fA fB fQ
      have e : btwP A B m.Q = true := by unfold btwP at g2 ⊢; rw [pl_zp, pl_zp] at g2; exact g2
      rw [e] at this
      exact this
    · have := pBetween C D m.Q wz fC fD fQ
      have e : btwP C D m.Q = true := by unfold btwP at g3 ⊢; rw [pl_zp, pl_zp] at g3; exact g3
      rw [e] at this
      exact this
end Go.Proofs.YtggfppgjabembaaGreatDoor

namespace Go.Proofs.YtggfppgjabembaaGreatDoor
open Go Go.ChangeShapes Go.WideShapes Go.ChangeAt Go.RowKit
set_option linter.unusedVariables false
set_option maxRecDepth 100000 in
theorem segPred_lifted (os : Os) (started : os.Started) (H : Type) (enc : TypeId × Value → H) :
    ReturnsInHanded {} Tryz.checked os 3 .any (fun w args => (Rows.segPredSpec.pre enc Tryz.prog Tryz.f3 [] false w args ∧ laidMetH Tryz.prog [("plumb/near.stays", Rows.laid_plumb_near_stays)] w) ∧ sizedMet enc Tryz.prog Tryz.f3 (OpenSpec.ofChange Rows.segPredSpec) false w args)
      (Rows.segPredSpec.post enc Tryz.prog Tryz.f3 false true false false) := by
  refine returnsInHanded_of_change_and (C := Tryz.checked) (X := fun w _ => laidMetH Tryz.prog [("plumb/near.stays", Rows.laid_plumb_near_stays)] w) (fun _ _ _ hh h => h.of_heap hh) row_own started (by kernel_rfl) Tryz.func3
    (ChangeSpec.witness_shaped (enc := enc) (C := Tryz.checked) (os := os) (X := fun w _ => laidMetH Tryz.prog [("plumb/near.stays", Rows.laid_plumb_near_stays)] w) false (World.doorLaid Tryz.prog 400 os) #[fr (0, 0) (0, 0) (0, 0) (0, 0)] 8 rfl (World.shaped_of_RefB (by kernel_rfl) (by kernel_rfl)) (by kernel_rfl) (by kernel_rfl) (by kernel_rfl) (door_met os _)) ?_
  intro W base args ds gs before hval0 hW _ _ _ _
  have hval : ∀ (j : Nat) t v, Tryz.f3.params[j]? = some t → args[j]? = some v → Value.okWide Tryz.prog W .any base t v := hval0
  have hW' := hW
  obtain ⟨p, q, hA0, hV, rfl, hfz, hnd⟩ := hW
  have hA : DataW.TrodAll enc Tryz.prog W 0 (fun _ => true) true Tryz.f3.params.toList args.toList ds p := hA0
  rw [Tryz.params3] at hA hval
  obtain ⟨v0, d0, hargs, hds, h0⟩ := trodAll_one hA
  obtain ⟨rfl, rfl⟩ := trodVars_none hV
  subst hargs hds
  obtain ⟨a, b, c, e, rfl, ua, ub, uc, ue⟩ := open_four (hval 0 26 v0 rfl rfl) h0
  simp only [List.append_nil] at hW'
  refine (lSegPred a b c e W ua ub uc ue).mono fun x W' ⟨hx, hb⟩ => ?_
  subst hx
  refine ⟨_, rfl, post_true rfl rfl rfl hW' hb (fun sp hsp => ?_)⟩
  rw [Tryz.params3]
  have hlt : ∀ x ∈ p, x.block < W.heap.size := fun x hx => hW'.lt x hx
  exact trodAll_mk1 (WideElems.Trod_stays row_laidOut (by kernel_rfl) (of_decide_eq_true (by kernel_rfl)) h0 (fun x hx => hb.same (hlt x hx)) hsp)
theorem segPred_said : Rows.SegPredSaid :=
  OpenClaim.holds_of_wide 3 Tryz.f3 rfl rfl rfl rfl rfl rfl rfl ⟨rfl, rfl, rfl, rfl, rfl⟩ rfl rfl rfl rfl rfl (by kernel_rfl) Tryz.func3 (by kernel_rfl)
    (of_decide_eq_true (by kernel_rfl)) (by unfold Func.isWrapper; first | (rw [if_pos (by decide +kernel)]; kernel_rfl) | (rw [if_neg (by decide +kernel)]; exact ⟨rfl, rfl⟩))
    (fun os started H enc _ => segPred_lifted os started H enc)
theorem segPred_holds : Rows.SegPredCardSaid :=
  Claim7.holds_tied_plain_at .later [] [.data] true (true, "80a292a554acde2cdd04e5bef36b3977b4b8f6b315eb70e2ed427cc397b18b81") true
    segPred_said (fun _ h => by cases h) (by kernel_rfl) (fun _ h => by cases h) segPred_row_tie rfl ⟨rfl, rfl⟩ (by kernel_rfl) rfl
    (fun f fn hf hfn => by
      obtain rfl : f = 3 := Option.some.inj ((show Tryz.prog.funcNamed "plumb/plumblaw23.SegPred" = some 3 by kernel_rfl).symm.trans hf) |>.symm
      obtain rfl : fn = Tryz.f3 := (Option.some.inj (Tryz.func3.symm.trans hfn)).symm
      exact ⟨by kernel_rfl, fun j t ht => by
        rw [Tryz.params3] at ht
        have hm : t ∈ [26] := by simpa using Array.mem_of_getElem? ht
        have hall : ([26].all fun u => !Tryz.prog.wantsStandIn u) = true := by kernel_rfl
        exact (show Tryz.prog.wantsStandIn t = false by simpa using List.all_eq_true.1 hall t hm)⟩)
    (by kernel_rfl)
end Go.Proofs.YtggfppgjabembaaGreatDoor
