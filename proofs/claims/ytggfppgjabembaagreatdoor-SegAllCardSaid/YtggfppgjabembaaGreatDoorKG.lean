/- Package seg: way, along (printed by gen_vec3.py). -/
import Derived.Test.YtggfppgjabembaaGreatDoorKA
import Derived.Test.YtggfppgjabembaaGreatDoorKF
namespace Go.Proofs.YtggfppgjabembaaGreatDoor
open Go.RowKit Go.Proofs.YtggfppgjabembaaGreatDoorW.PrintLast
set_option linter.unusedVariables false
set_option linter.unusedSimpArgs false
def turnR (a b c d : Pl) : Rat := (b.1 - a.1) * (d.2 - c.2) - (b.2 - a.2) * (d.1 - c.1)
def NearC (N E : Rat → Int) (L : World → Prop) : Prop := ∀ (q : Rat) (A B : Option Addr) (lo up : Nat) (w : World), RatIn lo up w A B q → up ≤ w.heap.size → Sz 30000 q → FitQ q → L w →
  Calls Tryz.prog 22 #[qv A B q, .int .i64 0] w fun e w' => e = .returned (.tuple #[.int .u64 (N q), .int .i64 (E q)]) ∧ Below w.heap.size w w'
def CrossC (cr : Pl → Pl → Pl → Pl → Pl) : Prop := ∀ (a b c d : Pt) (w : World), FinP a → FinP b → FinP c → FinP d → turnR (pl a) (pl b) (pl c) (pl d) ≠ 0 →
  Calls Tryz.prog 42 #[st a b, st c d] w fun e w' => ∃ A B C D, e = .returned (.tuple #[qv A B (cr (pl a) (pl b) (pl c) (pl d)).1, qv C D (cr (pl a) (pl b) (pl c) (pl d)).2]) ∧ RatFresh w.heap.size w' A B (cr (pl a) (pl b) (pl c) (pl d)).1 ∧ RatFresh w.heap.size w' C D (cr (pl a) (pl b) (pl c) (pl d)).2 ∧
    Sz 30000 (cr (pl a) (pl b) (pl c) (pl d)).1 ∧ Sz 30000 (cr (pl a) (pl b) (pl c) (pl d)).2 ∧ Below w.heap.size w w'
def FitC (cr : Pl → Pl → Pl → Pl → Pl) : Prop := ∀ (a b c d : Pt), FinP a → FinP b → FinP c → FinP d → sideP a b c * sideP a b d < 0 → sideP c d a * sideP c d b < 0 → FitQ (cr (pl a) (pl b) (pl c) (pl d)).1 ∧ FitQ (cr (pl a) (pl b) (pl c) (pl d)).2
theorem turn_ne {a b c d : Pl} (h : side3 a b c * side3 a b d < 0) : turnR a b c d ≠ 0 := by
  intro e
  have h1 : area2 a b d - area2 a b c = turnR a b c d := by unfold area2 turnR; grind
  rw [e] at h1
  have h2 : area2 a b d = area2 a b c := by grind
  unfold side3 at h
  rw [h2] at h
  rcases qsgn_cases (area2 a b c) with k | k | k <;> rw [k] at h <;> simp at h
theorem loops_is (s0 s1 t0 t1 : Pt) : (btwP s0 s1 t0 = true → loops s0 s1 t0 t1 = touch t0) ∧ (btwP s0 s1 t0 = false → btwP s0 s1 t1 = true → loops s0 s1 t0 t1 = touch t1) ∧ (btwP s0 s1 t0 = false → btwP s0 s1 t1 = false → btwP t0 t1 s0 = true → loops s0 s1 t0 t1 = touch s0) ∧
    (btwP s0 s1 t0 = false → btwP s0 s1 t1 = false → btwP t0 t1 s0 = false → btwP t0 t1 s1 = true → loops s0 s1 t0 t1 = touch s1) ∧ (btwP s0 s1 t0 = false → btwP s0 s1 t1 = false → btwP t0 t1 s0 = false → btwP t0 t1 s1 = false → loops s0 s1 t0 t1 = apartM) := by
  unfold btwP loops
  refine ⟨fun h => by simp [h], fun h h2 => by simp [h, h2], fun h h2 h3 => by simp [h, h2, h3], fun h h2 h3 h4 => by simp [h, h2, h3, h4], fun h h2 h3 h4 => by simp [h, h2, h3, h4]⟩
theorem prod_wrap {c d : Int} (hc : c = -1 ∨ c = 0 ∨ c = 1) (hd : d = -1 ∨ d = 0 ∨ d = 1) : wrap64 (c * d) = c * d := by
  rcases hc with rfl | rfl | rfl <;> rcases hd with rfl | rfl | rfl <;> (unfold wrap64; decide)
theorem rise_fin {a b : Pt} (ha : FinP a) (hb : FinP b) : FinP (riseR a b).1 ∧ FinP (riseR a b).2 := by
  unfold riseR; split
  · exact ⟨hb, ha⟩
  · exact ⟨ha, hb⟩
structure MeS (w0 : World) (n : Nat) (s0 s1 t0 t1 : Pt) (w : World) : Prop where
  b : Below n w0 w
  s : w.heap[n]? = some (.cells #[.int .u64 s0.1, .int .u64 s0.2, .int .u64 s1.1, .int .u64 s1.2] 80 (0, 0))
  t : w.heap[n + 1]? = some (.cells #[.int .u64 t0.1, .int .u64 t0.2, .int .u64 t1.1, .int .u64 t1.2] 80 (0, 0))
  r : w.heap[n + 1 + 1]? = some (.cells #[.int .i64 0, .bool false, .int .u64 0, .int .u64 0, .int .u64 0, .int .u64 0] 29 (0, 0))
theorem MeS.keep {w0 w w' : World} {n : Nat} {s0 s1 t0 t1 : Pt} (h : MeS w0 n s0 s1 t0 t1 w) (k : Below w.heap.size w w') : MeS w0 n s0 s1 t0 t1 w' :=
  ⟨h.b.trans (k.mono (Nat.le_of_lt (heap_lt h.s))), (k.block _ (heap_lt h.s)).trans h.s, (k.block _ (heap_lt h.t)).trans h.t, (k.block _ (heap_lt h.r)).trans h.r⟩
set_option maxRecDepth 100000 in
set_option maxHeartbeats 6400000 in
theorem sMeetIn (N E : Rat → Int) (L : World → Prop) (cr : Pl → Pl → Pl → Pl → Pl) (hL : ∀ w w', L w → Below w.heap.size w w' → L w') (hN : NearC N E L) (hX : CrossC cr) (hFt : FitC cr) :
    MeetC (fun s0 s1 t0 t1 => (N (cr (pl s0) (pl s1) (pl t0) (pl t1)).1, N (cr (pl s0) (pl s1) (pl t0) (pl t1)).2)) L := by
  intro s0 s1 t0 t1 w g0 g1 g2 g3 hLw
  have f0 : FinP s0 := ⟨g0.f1, g0.f2⟩
  have f1 : FinP s1 := ⟨g1.f1, g1.f2⟩
  have f2 : FinP t0 := ⟨g2.f1, g2.f2⟩
  have f3 : FinP t1 := ⟨g3.f1, g3.f2⟩
  have HR : Hid (∀ X, meetR X s0 s1 t0 t1 = if s0 = s1 ∨ t0 = t1 then loops s0 s1 t0 t1 else if sideP s0 s1 t0 = 0 ∧ sideP s0 s1 t1 = 0 then alongR (riseR s0 s1).1 (riseR s0 s1).2 (riseR t0 t1).1 (riseR t0 t1).2 else if sideP s0 s1 t0 * sideP s0 s1 t1 < 0 ∧ sideP t0 t1 s0 * sideP t0 t1 s1 < 0 then ⟨1, true, X, (0, 0)⟩ else loops s0 s1 t0 t1) := Lib.hid fun X => rfl
  have HG : Hid (∀ wz, (Calls Tryz.prog 70 #[st s0 s1, pt t0] wz fun e w' => e = .returned (.int .i64 (sideP s0 s1 t0)) ∧ Below wz.heap.size wz w') ∧ (Calls Tryz.prog 70 #[st s0 s1, pt t1] wz fun e w' => e = .returned (.int .i64 (sideP s0 s1 t1)) ∧ Below wz.heap.size wz w') ∧
    (Calls Tryz.prog 70 #[st t0 t1, pt s0] wz fun e w' => e = .returned (.int .i64 (sideP t0 t1 s0)) ∧ Below wz.heap.size wz w') ∧ (Calls Tryz.prog 70 #[st t0 t1, pt s1] wz fun e w' => e = .returned (.int .i64 (sideP t0 t1 s1)) ∧ Below wz.heap.size wz w')) :=
    Lib.hid fun wz => ⟨sSide s0 s1 t0 wz f0 f1 f2, sSide s0 s1 t1 wz f0 f1 f3, sSide t0 t1 s0 wz f2 f3 f0, sSide t0 t1 s1 wz f2 f3 f1⟩
  have HT : Hid (sideP s0 s1 t0 * sideP s0 s1 t1 < 0 → turnR (pl s0) (pl s1) (pl t0) (pl t1) ≠ 0) := Lib.hid turn_ne
  have HC1 := Lib.hid (And.intro (sideP_cases s0 s1 t0) (And.intro (sideP_cases s0 s1 t1) (And.intro (sideP_cases t0 t1 s0) (sideP_cases t0 t1 s1))))
  have HT2 : Hid (sideP s0 s1 t0 * sideP s0 s1 t1 < 0 → sideP t0 t1 s0 * sideP t0 t1 s1 < 0 → FitQ (cr (pl s0) (pl s1) (pl t0) (pl t1)).1 ∧ FitQ (cr (pl s0) (pl s1) (pl t0) (pl t1)).2) := Lib.hid (hFt s0 s1 t0 t1 f0 f1 f2 f3)
  have HN := Lib.hid hN
  have HX := Lib.hid hX
  have HL := Lib.hid (And.intro hL hLw)
  clear hN hX hL hLw
  generalize sideP s0 s1 t0 = c1 at *
  generalize sideP s0 s1 t1 = c2 at *
  generalize sideP t0 t1 s0 = c3 at *
  generalize sideP t0 t1 s1 = c4 at *
  have hS : MeS w w.heap.size s0 s1 t0 t1 (((w.alloc (.cells #[.int .u64 s0.1, .int .u64 s0.2, .int .u64 s1.1, .int .u64 s1.2] 80)).alloc (.cells #[.int .u64 t0.1, .int .u64 t0.2, .int .u64 t1.1, .int .u64 t1.2] 80)).alloc (.cells #[.int .i64 0, .bool false, .int .u64 0, .int .u64 0, .int .u64 0, .int .u64 0] 29)) := by
    obtain ⟨n1, n2, n3, n4, n5⟩ := three_new w (.cells #[.int .u64 s0.1, .int .u64 s0.2, .int .u64 s1.1, .int .u64 s1.2] 80) (.cells #[.int .u64 t0.1, .int .u64 t0.2, .int .u64 t1.1, .int .u64 t1.2] 80) (.cells #[.int .i64 0, .bool false, .int .u64 0, .int .u64 0, .int .u64 0, .int .u64 0] 29)
    exact ⟨n5, n1, n2, n3⟩
  unfold st at ⊢
  go_enter Tryz.func35, Tryz.ntmps35
  ((try dsimp only); repeat (first | go_values | go_skip | go_guarded | go_step | go_upon))
  generalize World.alloc (World.alloc (World.alloc w _) _) _ = w3 at *
  have hSd := hS.keep (Below.refl _ _).drew
  clear hS
  refine start_ (n := 10) (S := fun w' => MeS w w.heap.size s0 s1 t0 t1 w') (ds := []) (bt 10 0) (by kernel_rfl) rfl rfl (hSd) (fun hHeld => ?_)
  refine ld_ 0 20 ?_ hHeld ?_ ?_; rotate_left
  · rintro w' hs
    obtain ⟨q0, q1, q2, q3, _⟩ := row4f hs.s
    obtain ⟨r0, r1, r2, r3, _⟩ := row4f hs.t
    clear hs
    go_simp; with_reducible rfl
  refine pv_ 1 21 ?_
  refine ld_ 2 22 ?_ hHeld ?_ ?_; rotate_left
  · rintro w' hs
    obtain ⟨q0, q1, q2, q3, _⟩ := row4f hs.s
    obtain ⟨r0, r1, r2, r3, _⟩ := row4f hs.t
    clear hs
    go_simp; with_reducible rfl
  refine ld_ 4 24 ?_ hHeld ?_ ?_; rotate_left
  · rintro w' hs
    obtain ⟨q0, q1, q2, q3, _⟩ := row4f hs.s
    obtain ⟨r0, r1, r2, r3, _⟩ := row4f hs.t
    clear hs
    go_simp; with_reducible rfl
  refine pv_ 5 25 ?_
  refine ld_ 6 26 ?_ hHeld ?_ ?_; rotate_left
  · rintro w' hs
    obtain ⟨q0, q1, q2, q3, _⟩ := row4f hs.s
    obtain ⟨r0, r1, r2, r3, _⟩ := row4f hs.t
    clear hs
    go_simp; with_reducible rfl
  refine ca 3 23 Tryz.func70 rfl rfl (by kernel_rfl) (by decide) (by kernel_rfl) rfl #[st s0 s1, pt t0] (by rfl) rfl (by first | rfl | (simp [Act.eval]; done) | (simp [Act.eval, st, pt]; done) | (go_simp; rfl)) ?_
  with_reducible refine ((HG.out _).1).mono ?_
  rintro e w' ⟨rfl, hb1⟩
  refine ⟨_, rfl, (by first | (exact hHeld.keep hb2) | (exact hHeld.keep hb1)), fun hHeld => ?_⟩
  refine nn ?_
  refine ca 7 27 Tryz.func70 rfl rfl (by kernel_rfl) (by decide) (by kernel_rfl) rfl #[st s0 s1, pt t1] (by rfl) rfl (by first | rfl | (simp [Act.eval]; done) | (simp [Act.eval, st, pt]; done) | (go_simp; rfl)) ?_
  with_reducible refine ((HG.out _).2.1).mono ?_
  rintro e w' ⟨rfl, hb2⟩
  refine ⟨_, rfl, (by first | (exact hHeld.keep hb2) | (exact hHeld.keep hb1)), fun hHeld => ?_⟩
  refine nn ?_
  refine pv_ 8 6 ?_
  refine pv_ 9 7 ?_
  refine done_ (by kernel_rfl) ?_
  have hSe := hHeld.keep (Below.refl _ _).drew
  clear hHeld hSd hb1 hb2
  generalize w' = wa at *
  ((try dsimp only); repeat (first | go_values | go_skip | go_guarded | go_step | go_upon))
  refine start_ (n := 10) (S := fun w' => MeS w w.heap.size s0 s1 t0 t1 w') (ds := []) (bt 10 0) (by kernel_rfl) rfl rfl (hSe) (fun hHeld => ?_)
  refine ld_ 0 28 ?_ hHeld ?_ ?_; rotate_left
  · rintro w' hs
    obtain ⟨q0, q1, q2, q3, _⟩ := row4f hs.s
    obtain ⟨r0, r1, r2, r3, _⟩ := row4f hs.t
    clear hs
    go_simp; with_reducible rfl
  refine pv_ 1 29 ?_
  refine ld_ 2 30 ?_ hHeld ?_ ?_; rotate_left
  · rintro w' hs
    obtain ⟨q0, q1, q2, q3, _⟩ := row4f hs.s
    obtain ⟨r0, r1, r2, r3, _⟩ := row4f hs.t
    clear hs
    go_simp; with_reducible rfl
  refine ld_ 4 32 ?_ hHeld ?_ ?_; rotate_left
  · rintro w' hs
    obtain ⟨q0, q1, q2, q3, _⟩ := row4f hs.s
    obtain ⟨r0, r1, r2, r3, _⟩ := row4f hs.t
    clear hs
    go_simp; with_reducible rfl
  refine pv_ 5 33 ?_
  refine ld_ 6 34 ?_ hHeld ?_ ?_; rotate_left
  · rintro w' hs
    obtain ⟨q0, q1, q2, q3, _⟩ := row4f hs.s
    obtain ⟨r0, r1, r2, r3, _⟩ := row4f hs.t
    clear hs
    go_simp; with_reducible rfl
  refine ca 3 31 Tryz.func70 rfl rfl (by kernel_rfl) (by decide) (by kernel_rfl) rfl #[st t0 t1, pt s0] (by rfl) rfl (by first | rfl | (simp [Act.eval]; done) | (simp [Act.eval, st, pt]; done) | (go_simp; rfl)) ?_
  with_reducible refine ((HG.out _).2.2.1).mono ?_
  rintro e w' ⟨rfl, hb1⟩
  refine ⟨_, rfl, (by first | (exact hHeld.keep hb2) | (exact hHeld.keep hb1)), fun hHeld => ?_⟩
  refine nn ?_
  refine ca 7 35 Tryz.func70 rfl rfl (by kernel_rfl) (by decide) (by kernel_rfl) rfl #[st t0 t1, pt s1] (by rfl) rfl (by first | rfl | (simp [Act.eval]; done) | (simp [Act.eval, st, pt]; done) | (go_simp; rfl)) ?_
  with_reducible refine ((HG.out _).2.2.2).mono ?_
  rintro e w' ⟨rfl, hb2⟩
  refine ⟨_, rfl, (by first | (exact hHeld.keep hb2) | (exact hHeld.keep hb1)), fun hHeld => ?_⟩
  refine nn ?_
  refine pv_ 8 8 ?_
  refine pv_ 9 9 ?_
  refine done_ (by kernel_rfl) ?_
  have hS := hHeld
  clear hHeld hSe hb1 hb2 HG
  generalize w' = wb at *
  obtain ⟨a0, a1, a2, a3, _⟩ := row4f hS.s
  obtain ⟨b0, b1, b2, b3, _⟩ := row4f hS.t
  have HS := Lib.hid hS
  have hlt := heap_lt hS.t
  have hlt0 : w.heap.size < wb.heap.size := by omega
  clear hS
  have HLP := Lib.hid (loops_is s0 s1 t0 t1)
  have hx0 := run_index0
  have hx1 := run_index1
  --# ends
  by_cases hss : s0 = s1
  · have hbs : decide (s0 = s1) = true := decide_eq_true hss
    have HRR : Hid (∀ X, meetR X s0 s1 t0 t1 = loops s0 s1 t0 t1) := Lib.hid fun X => (HR.out X).trans (if_pos (Or.inl hss))
    clear hss HR
    ((try dsimp only); repeat (first | (with_reducible refine oper_eql_place rfl s0 s1 rfl rfl ?_) | (with_reducible refine oper_eql_place rfl t0 t1 rfl rfl ?_) | go_values | go_skip | go_guarded | go_step | go_upon))
    refine wp_loop_rounds 3 ?_
    rw [rounds_succ]
    ((try dsimp only); repeat (first | go_values | go_skip | go_guarded | go_step | go_upon))
    refine (sHolds s0 s1 t0 _ f0 f1 f2).mono ?_
    rintro e w0 ⟨rfl, hb⟩
    have hbx := hb.size
    rw [World.size_alloc] at hbx hb
    have hq := (hb.block _ (Nat.lt_succ_self _)).trans (alloc_new wb _)
    have hS := HS.out.keep (((Go.RowKit.Below.refl wb.heap.size wb).alloc (Nat.le_refl _) (.cells #[.int .u64 t0.1, .int .u64 t0.2] 77)).trans (hb.mono (Nat.le_succ _)))
    clear HS a0 a1 a2 a3 b0 b1 b2 b3 hlt hlt0
    obtain ⟨a0, a1, a2, a3, _⟩ := row4f hS.s
    obtain ⟨b0, b1, b2, b3, _⟩ := row4f hS.t
    have HS := Lib.hid hS
    have hlt := heap_lt hS.t
    have hlt0 : w.heap.size < w0.heap.size := by omega
    obtain ⟨q0, q1⟩ := row2 hq
    clear hb hbx hq
    have HB0 := Lib.hid (rfl : btwP s0 s1 t0 = btwP s0 s1 t0)
    generalize hbb0 : btwP s0 s1 t0 = v0
    have HX0 := Lib.hid hbb0
    clear hbb0 HB0
    cases v0
    · clear q0 q1
      ((try dsimp only); repeat (first | go_values | go_skip | go_guarded | go_step | go_upon))
      rw [rounds_succ]
      ((try dsimp only); repeat (first | go_values | go_skip | go_guarded | go_step | go_upon))
      refine (sHolds s0 s1 t1 _ f0 f1 f3).mono ?_
      rintro e w1 ⟨rfl, hb⟩
      have hbx := hb.size
      rw [World.size_alloc] at hbx hb
      have hq := (hb.block _ (Nat.lt_succ_self _)).trans (alloc_new w0 _)
      have hS := HS.out.keep (((Go.RowKit.Below.refl w0.heap.size w0).alloc (Nat.le_refl _) (.cells #[.int .u64 t1.1, .int .u64 t1.2] 77)).trans (hb.mono (Nat.le_succ _)))
      clear HS a0 a1 a2 a3 b0 b1 b2 b3 hlt hlt0
      obtain ⟨a0, a1, a2, a3, _⟩ := row4f hS.s
      obtain ⟨b0, b1, b2, b3, _⟩ := row4f hS.t
      have HS := Lib.hid hS
      have hlt := heap_lt hS.t
      have hlt0 : w.heap.size < w1.heap.size := by omega
      obtain ⟨q0, q1⟩ := row2 hq
      clear hb hbx hq
      have HB1 := Lib.hid (rfl : btwP s0 s1 t1 = btwP s0 s1 t1)
      generalize hbb1 : btwP s0 s1 t1 = v1
      have HX1 := Lib.hid hbb1
      clear hbb1 HB1
      cases v1
      · clear q0 q1
        ((try dsimp only); repeat (first | go_values | go_skip | go_guarded | go_step | go_upon))
        rw [rounds_succ]
        ((try dsimp only); repeat (first | go_values | go_skip | go_guarded | go_step | go_upon))
        refine wp_loop_rounds 3 ?_
        rw [rounds_succ]
        ((try dsimp only); repeat (first | go_values | go_skip | go_guarded | go_step | go_upon))
        refine (sHolds t0 t1 s0 _ f2 f3 f0).mono ?_
        rintro e w2 ⟨rfl, hb⟩
        have hbx := hb.size
        rw [World.size_alloc] at hbx hb
        have hq := (hb.block _ (Nat.lt_succ_self _)).trans (alloc_new w1 _)
        have hS := HS.out.keep (((Go.RowKit.Below.refl w1.heap.size w1).alloc (Nat.le_refl _) (.cells #[.int .u64 s0.1, .int .u64 s0.2] 77)).trans (hb.mono (Nat.le_succ _)))
        clear HS a0 a1 a2 a3 b0 b1 b2 b3 hlt hlt0
        obtain ⟨a0, a1, a2, a3, _⟩ := row4f hS.s
        obtain ⟨b0, b1, b2, b3, _⟩ := row4f hS.t
        have HS := Lib.hid hS
        have hlt := heap_lt hS.t
        have hlt0 : w.heap.size < w2.heap.size := by omega
        obtain ⟨q0, q1⟩ := row2 hq
        clear hb hbx hq
        have HB2 := Lib.hid (rfl : btwP t0 t1 s0 = btwP t0 t1 s0)
        generalize hbb2 : btwP t0 t1 s0 = v2
        have HX2 := Lib.hid hbb2
        clear hbb2 HB2
        cases v2
        · clear q0 q1
          ((try dsimp only); repeat (first | go_values | go_skip | go_guarded | go_step | go_upon))
          rw [rounds_succ]
          ((try dsimp only); repeat (first | go_values | go_skip | go_guarded | go_step | go_upon))
          refine (sHolds t0 t1 s1 _ f2 f3 f1).mono ?_
          rintro e w3 ⟨rfl, hb⟩
          have hbx := hb.size
          rw [World.size_alloc] at hbx hb
          have hq := (hb.block _ (Nat.lt_succ_self _)).trans (alloc_new w2 _)
          have hS := HS.out.keep (((Go.RowKit.Below.refl w2.heap.size w2).alloc (Nat.le_refl _) (.cells #[.int .u64 s1.1, .int .u64 s1.2] 77)).trans (hb.mono (Nat.le_succ _)))
          clear HS a0 a1 a2 a3 b0 b1 b2 b3 hlt hlt0
          obtain ⟨a0, a1, a2, a3, _⟩ := row4f hS.s
          obtain ⟨b0, b1, b2, b3, _⟩ := row4f hS.t
          have HS := Lib.hid hS
          have hlt := heap_lt hS.t
          have hlt0 : w.heap.size < w3.heap.size := by omega
          obtain ⟨q0, q1⟩ := row2 hq
          clear hb hbx hq
          have HB3 := Lib.hid (rfl : btwP t0 t1 s1 = btwP t0 t1 s1)
          generalize hbb3 : btwP t0 t1 s1 = v3
          have HX3 := Lib.hid hbb3
          clear hbb3 HB3
          cases v3
          · clear q0 q1
            ((try dsimp only); repeat (first | go_values | go_skip | go_guarded | go_step | go_upon))
            rw [rounds_succ]
            have hS := HS.out
            obtain ⟨z0, z1, z2, z3, z4, z5, z6, z7, z8, z9, z10, z11⟩ := row6 hS.r
            clear hS
            ((try dsimp only); repeat (first | go_values | go_skip | go_guarded | go_step | go_upon))
            refine bodyPost_ret (results_cell_row rfl _ _ (w.heap.size + 1 + 1) _ _ _ _ rfl (heap_set_sixr HS.out.r _ _ _ _ _ _) rfl rfl rfl) rfl ?_
            exact ⟨by rw [HRR.out, HLP.out.2.2.2.2 HX0.out HX1.out HX2.out HX3.out]; rfl, below_six (by omega) HS.out.b⟩
          · ((try dsimp only); repeat (first | go_values | go_skip | go_guarded | go_step | go_upon))
            refine (sTouch s1 _).mono ?_
            rintro e wf ⟨rfl, hb⟩
            have hS := HS.out.keep hb
            clear HS q0 q1 a0 a1 a2 a3 b0 b1 b2 b3 hlt hlt0
            obtain ⟨z0, z1, z2, z3, z4, z5, z6, z7, z8, z9, z10, z11⟩ := row6 hS.r
            have HS := Lib.hid hS
            clear hS hb
            unfold mv
            ((try dsimp only); repeat (first | go_values | go_skip | go_guarded | go_step | go_upon))
            refine bodyPost_ret (results_cell_row rfl _ _ (w.heap.size + 1 + 1) _ _ _ _ rfl (heap_set_sixr HS.out.r _ _ _ _ _ _) rfl rfl rfl) rfl ?_
            exact ⟨by rw [HRR.out, HLP.out.2.2.2.1 HX0.out HX1.out HX2.out HX3.out]; rfl, below_six (by omega) HS.out.b⟩
        · ((try dsimp only); repeat (first | go_values | go_skip | go_guarded | go_step | go_upon))
          refine (sTouch s0 _).mono ?_
          rintro e wf ⟨rfl, hb⟩
          have hS := HS.out.keep hb
          clear HS q0 q1 a0 a1 a2 a3 b0 b1 b2 b3 hlt hlt0
          obtain ⟨z0, z1, z2, z3, z4, z5, z6, z7, z8, z9, z10, z11⟩ := row6 hS.r
          have HS := Lib.hid hS
          clear hS hb
          unfold mv
          ((try dsimp only); repeat (first | go_values | go_skip | go_guarded | go_step | go_upon))
          refine bodyPost_ret (results_cell_row rfl _ _ (w.heap.size + 1 + 1) _ _ _ _ rfl (heap_set_sixr HS.out.r _ _ _ _ _ _) rfl rfl rfl) rfl ?_
          exact ⟨by rw [HRR.out, HLP.out.2.2.1 HX0.out HX1.out HX2.out]; rfl, below_six (by omega) HS.out.b⟩
      · ((try dsimp only); repeat (first | go_values | go_skip | go_guarded | go_step | go_upon))
        refine (sTouch t1 _).mono ?_
        rintro e wf ⟨rfl, hb⟩
        have hS := HS.out.keep hb
        clear HS q0 q1 a0 a1 a2 a3 b0 b1 b2 b3 hlt hlt0
        obtain ⟨z0, z1, z2, z3, z4, z5, z6, z7, z8, z9, z10, z11⟩ := row6 hS.r
        have HS := Lib.hid hS
        clear hS hb
        unfold mv
        ((try dsimp only); repeat (first | go_values | go_skip | go_guarded | go_step | go_upon))
        refine bodyPost_ret (results_cell_row rfl _ _ (w.heap.size + 1 + 1) _ _ _ _ rfl (heap_set_sixr HS.out.r _ _ _ _ _ _) rfl rfl rfl) rfl ?_
        exact ⟨by rw [HRR.out, HLP.out.2.1 HX0.out HX1.out]; rfl, below_six (by omega) HS.out.b⟩
    · ((try dsimp only); repeat (first | go_values | go_skip | go_guarded | go_step | go_upon))
      refine (sTouch t0 _).mono ?_
      rintro e wf ⟨rfl, hb⟩
      have hS := HS.out.keep hb
      clear HS q0 q1 a0 a1 a2 a3 b0 b1 b2 b3 hlt hlt0
      obtain ⟨z0, z1, z2, z3, z4, z5, z6, z7, z8, z9, z10, z11⟩ := row6 hS.r
      have HS := Lib.hid hS
      clear hS hb
      unfold mv
      ((try dsimp only); repeat (first | go_values | go_skip | go_guarded | go_step | go_upon))
      refine bodyPost_ret (results_cell_row rfl _ _ (w.heap.size + 1 + 1) _ _ _ _ rfl (heap_set_sixr HS.out.r _ _ _ _ _ _) rfl rfl rfl) rfl ?_
      exact ⟨by rw [HRR.out, HLP.out.1 HX0.out]; rfl, below_six (by omega) HS.out.b⟩
  · have hbs : decide (s0 = s1) = false := decide_eq_false hss
    by_cases htt : t0 = t1
    · have hbt : decide (t0 = t1) = true := decide_eq_true htt
      have HRR : Hid (∀ X, meetR X s0 s1 t0 t1 = loops s0 s1 t0 t1) := Lib.hid fun X => (HR.out X).trans (if_pos (Or.inr htt))
      clear hss htt HR
      ((try dsimp only); repeat (first | (with_reducible refine oper_eql_place rfl s0 s1 rfl rfl ?_) | (with_reducible refine oper_eql_place rfl t0 t1 rfl rfl ?_) | go_values | go_skip | go_guarded | go_step | go_upon))
      refine wp_loop_rounds 3 ?_
      rw [rounds_succ]
      ((try dsimp only); repeat (first | go_values | go_skip | go_guarded | go_step | go_upon))
      refine (sHolds s0 s1 t0 _ f0 f1 f2).mono ?_
      rintro e w0 ⟨rfl, hb⟩
      have hbx := hb.size
      rw [World.size_alloc] at hbx hb
      have hq := (hb.block _ (Nat.lt_succ_self _)).trans (alloc_new wb _)
      have hS := HS.out.keep (((Go.RowKit.Below.refl wb.heap.size wb).alloc (Nat.le_refl _) (.cells #[.int .u64 t0.1, .int .u64 t0.2] 77)).trans (hb.mono (Nat.le_succ _)))
      clear HS a0 a1 a2 a3 b0 b1 b2 b3 hlt hlt0
      obtain ⟨a0, a1, a2, a3, _⟩ := row4f hS.s
      obtain ⟨b0, b1, b2, b3, _⟩ := row4f hS.t
      have HS := Lib.hid hS
      have hlt := heap_lt hS.t
      have hlt0 : w.heap.size < w0.heap.size := by omega
      obtain ⟨q0, q1⟩ := row2 hq
      clear hb hbx hq
      have HB0 := Lib.hid (rfl : btwP s0 s1 t0 = btwP s0 s1 t0)
      generalize hbb0 : btwP s0 s1 t0 = v0
      have HX0 := Lib.hid hbb0
      clear hbb0 HB0
      cases v0
      · clear q0 q1
        ((try dsimp only); repeat (first | go_values | go_skip | go_guarded | go_step | go_upon))
        rw [rounds_succ]
        ((try dsimp only); repeat (first | go_values | go_skip | go_guarded | go_step | go_upon))
        refine (sHolds s0 s1 t1 _ f0 f1 f3).mono ?_
        rintro e w1 ⟨rfl, hb⟩
        have hbx := hb.size
        rw [World.size_alloc] at hbx hb
        have hq := (hb.block _ (Nat.lt_succ_self _)).trans (alloc_new w0 _)
        have hS := HS.out.keep (((Go.RowKit.Below.refl w0.heap.size w0).alloc (Nat.le_refl _) (.cells #[.int .u64 t1.1, .int .u64 t1.2] 77)).trans (hb.mono (Nat.le_succ _)))
        clear HS a0 a1 a2 a3 b0 b1 b2 b3 hlt hlt0
        obtain ⟨a0, a1, a2, a3, _⟩ := row4f hS.s
        obtain ⟨b0, b1, b2, b3, _⟩ := row4f hS.t
        have HS := Lib.hid hS
        have hlt := heap_lt hS.t
        have hlt0 : w.heap.size < w1.heap.size := by omega
        obtain ⟨q0, q1⟩ := row2 hq
        clear hb hbx hq
        have HB1 := Lib.hid (rfl : btwP s0 s1 t1 = btwP s0 s1 t1)
        generalize hbb1 : btwP s0 s1 t1 = v1
        have HX1 := Lib.hid hbb1
        clear hbb1 HB1
        cases v1
        · clear q0 q1
          ((try dsimp only); repeat (first | go_values | go_skip | go_guarded | go_step | go_upon))
          rw [rounds_succ]
          ((try dsimp only); repeat (first | go_values | go_skip | go_guarded | go_step | go_upon))
          refine wp_loop_rounds 3 ?_
          rw [rounds_succ]
          ((try dsimp only); repeat (first | go_values | go_skip | go_guarded | go_step | go_upon))
          refine (sHolds t0 t1 s0 _ f2 f3 f0).mono ?_
          rintro e w2 ⟨rfl, hb⟩
          have hbx := hb.size
          rw [World.size_alloc] at hbx hb
          have hq := (hb.block _ (Nat.lt_succ_self _)).trans (alloc_new w1 _)
          have hS := HS.out.keep (((Go.RowKit.Below.refl w1.heap.size w1).alloc (Nat.le_refl _) (.cells #[.int .u64 s0.1, .int .u64 s0.2] 77)).trans (hb.mono (Nat.le_succ _)))
          clear HS a0 a1 a2 a3 b0 b1 b2 b3 hlt hlt0
          obtain ⟨a0, a1, a2, a3, _⟩ := row4f hS.s
          obtain ⟨b0, b1, b2, b3, _⟩ := row4f hS.t
          have HS := Lib.hid hS
          have hlt := heap_lt hS.t
          have hlt0 : w.heap.size < w2.heap.size := by omega
          obtain ⟨q0, q1⟩ := row2 hq
          clear hb hbx hq
          have HB2 := Lib.hid (rfl : btwP t0 t1 s0 = btwP t0 t1 s0)
          generalize hbb2 : btwP t0 t1 s0 = v2
          have HX2 := Lib.hid hbb2
          clear hbb2 HB2
          cases v2
          · clear q0 q1
            ((try dsimp only); repeat (first | go_values | go_skip | go_guarded | go_step | go_upon))
            rw [rounds_succ]
            ((try dsimp only); repeat (first | go_values | go_skip | go_guarded | go_step | go_upon))
            refine (sHolds t0 t1 s1 _ f2 f3 f1).mono ?_
            rintro e w3 ⟨rfl, hb⟩
            have hbx := hb.size
            rw [World.size_alloc] at hbx hb
            have hq := (hb.block _ (Nat.lt_succ_self _)).trans (alloc_new w2 _)
            have hS := HS.out.keep (((Go.RowKit.Below.refl w2.heap.size w2).alloc (Nat.le_refl _) (.cells #[.int .u64 s1.1, .int .u64 s1.2] 77)).trans (hb.mono (Nat.le_succ _)))
            clear HS a0 a1 a2 a3 b0 b1 b2 b3 hlt hlt0
            obtain ⟨a0, a1, a2, a3, _⟩ := row4f hS.s
            obtain ⟨b0, b1, b2, b3, _⟩ := row4f hS.t
            have HS := Lib.hid hS
            have hlt := heap_lt hS.t
            have hlt0 : w.heap.size < w3.heap.size := by omega
            obtain ⟨q0, q1⟩ := row2 hq
            clear hb hbx hq
            have HB3 := Lib.hid (rfl : btwP t0 t1 s1 = btwP t0 t1 s1)
            generalize hbb3 : btwP t0 t1 s1 = v3
            have HX3 := Lib.hid hbb3
            clear hbb3 HB3
            cases v3
            · clear q0 q1
              ((try dsimp only); repeat (first | go_values | go_skip | go_guarded | go_step | go_upon))
              rw [rounds_succ]
              have hS := HS.out
              obtain ⟨z0, z1, z2, z3, z4, z5, z6, z7, z8, z9, z10, z11⟩ := row6 hS.r
              clear hS
              ((try dsimp only); repeat (first | go_values | go_skip | go_guarded | go_step | go_upon))
              refine bodyPost_ret (results_cell_row rfl _ _ (w.heap.size + 1 + 1) _ _ _ _ rfl (heap_set_sixr HS.out.r _ _ _ _ _ _) rfl rfl rfl) rfl ?_
              exact ⟨by rw [HRR.out, HLP.out.2.2.2.2 HX0.out HX1.out HX2.out HX3.out]; rfl, below_six (by omega) HS.out.b⟩
            · ((try dsimp only); repeat (first | go_values | go_skip | go_guarded | go_step | go_upon))
              refine (sTouch s1 _).mono ?_
              rintro e wf ⟨rfl, hb⟩
              have hS := HS.out.keep hb
              clear HS q0 q1 a0 a1 a2 a3 b0 b1 b2 b3 hlt hlt0
              obtain ⟨z0, z1, z2, z3, z4, z5, z6, z7, z8, z9, z10, z11⟩ := row6 hS.r
              have HS := Lib.hid hS
              clear hS hb
              unfold mv
              ((try dsimp only); repeat (first | go_values | go_skip | go_guarded | go_step | go_upon))
              refine bodyPost_ret (results_cell_row rfl _ _ (w.heap.size + 1 + 1) _ _ _ _ rfl (heap_set_sixr HS.out.r _ _ _ _ _ _) rfl rfl rfl) rfl ?_
              exact ⟨by rw [HRR.out, HLP.out.2.2.2.1 HX0.out HX1.out HX2.out HX3.out]; rfl, below_six (by omega) HS.out.b⟩
          · ((try dsimp only); repeat (first | go_values | go_skip | go_guarded | go_step | go_upon))
            refine (sTouch s0 _).mono ?_
            rintro e wf ⟨rfl, hb⟩
            have hS := HS.out.keep hb
            clear HS q0 q1 a0 a1 a2 a3 b0 b1 b2 b3 hlt hlt0
            obtain ⟨z0, z1, z2, z3, z4, z5, z6, z7, z8, z9, z10, z11⟩ := row6 hS.r
            have HS := Lib.hid hS
            clear hS hb
            unfold mv
            ((try dsimp only); repeat (first | go_values | go_skip | go_guarded | go_step | go_upon))
            refine bodyPost_ret (results_cell_row rfl _ _ (w.heap.size + 1 + 1) _ _ _ _ rfl (heap_set_sixr HS.out.r _ _ _ _ _ _) rfl rfl rfl) rfl ?_
            exact ⟨by rw [HRR.out, HLP.out.2.2.1 HX0.out HX1.out HX2.out]; rfl, below_six (by omega) HS.out.b⟩
        · ((try dsimp only); repeat (first | go_values | go_skip | go_guarded | go_step | go_upon))
          refine (sTouch t1 _).mono ?_
          rintro e wf ⟨rfl, hb⟩
          have hS := HS.out.keep hb
          clear HS q0 q1 a0 a1 a2 a3 b0 b1 b2 b3 hlt hlt0
          obtain ⟨z0, z1, z2, z3, z4, z5, z6, z7, z8, z9, z10, z11⟩ := row6 hS.r
          have HS := Lib.hid hS
          clear hS hb
          unfold mv
          ((try dsimp only); repeat (first | go_values | go_skip | go_guarded | go_step | go_upon))
          refine bodyPost_ret (results_cell_row rfl _ _ (w.heap.size + 1 + 1) _ _ _ _ rfl (heap_set_sixr HS.out.r _ _ _ _ _ _) rfl rfl rfl) rfl ?_
          exact ⟨by rw [HRR.out, HLP.out.2.1 HX0.out HX1.out]; rfl, below_six (by omega) HS.out.b⟩
      · ((try dsimp only); repeat (first | go_values | go_skip | go_guarded | go_step | go_upon))
        refine (sTouch t0 _).mono ?_
        rintro e wf ⟨rfl, hb⟩
        have hS := HS.out.keep hb
        clear HS q0 q1 a0 a1 a2 a3 b0 b1 b2 b3 hlt hlt0
        obtain ⟨z0, z1, z2, z3, z4, z5, z6, z7, z8, z9, z10, z11⟩ := row6 hS.r
        have HS := Lib.hid hS
        clear hS hb
        unfold mv
        ((try dsimp only); repeat (first | go_values | go_skip | go_guarded | go_step | go_upon))
        refine bodyPost_ret (results_cell_row rfl _ _ (w.heap.size + 1 + 1) _ _ _ _ rfl (heap_set_sixr HS.out.r _ _ _ _ _ _) rfl rfl rfl) rfl ?_
        exact ⟨by rw [HRR.out, HLP.out.1 HX0.out]; rfl, below_six (by omega) HS.out.b⟩
    · have hbt : decide (t0 = t1) = false := decide_eq_false htt
      have HR2 := Lib.hid fun X => (HR.out X).trans (if_neg (show ¬ (s0 = s1 ∨ t0 = t1) from fun h => h.elim hss htt))
      have hw1 := prod_wrap HC1.out.1 HC1.out.2.1
      have hw2 := prod_wrap HC1.out.2.2.1 HC1.out.2.2.2
      clear hss htt HR
      by_cases hc1 : c1 = 0
      · subst hc1
        by_cases hc2 : c2 = 0
        · subst hc2
          have HRR : Hid (∀ X, meetR X s0 s1 t0 t1 = alongR (riseR s0 s1).1 (riseR s0 s1).2 (riseR t0 t1).1 (riseR t0 t1).2) := Lib.hid fun X => (HR2.out X).trans (if_pos ⟨rfl, rfl⟩)
          have HRi := Lib.hid (fun wz => And.intro (sRising s0 s1 wz f0 f1) (sRising t0 t1 wz f2 f3))
          have HAl := Lib.hid (fun wz => sAlong _ _ _ _ wz (rise_fin f0 f1).1 (rise_fin f0 f1).2 (rise_fin f2 f3).1 (rise_fin f2 f3).2)
          clear HR2 hw1 hw2
          ((try dsimp only); repeat (first | (with_reducible refine oper_eql_place rfl s0 s1 rfl rfl ?_) | (with_reducible refine oper_eql_place rfl t0 t1 rfl rfl ?_) | go_values | go_skip | go_guarded | go_step | go_upon))
          have hSd := HS.out.keep (Below.refl _ _).drew
          clear HS a0 a1 a2 a3 b0 b1 b2 b3
          refine start_ (n := 6) (S := fun w' => MeS w w.heap.size s0 s1 t0 t1 w') (ds := [5]) (bt 6 0) (by kernel_rfl) rfl rfl (hSd) (fun hHeld => ?_)
          refine ld_ 0 56 ?_ hHeld ?_ ?_; rotate_left
          · rintro w' hs
            obtain ⟨q0, q1, q2, q3, _⟩ := row4f hs.s
            obtain ⟨r0, r1, r2, r3, _⟩ := row4f hs.t
            clear hs
            go_simp; with_reducible rfl
          refine ld_ 2 58 ?_ hHeld ?_ ?_; rotate_left
          · rintro w' hs
            obtain ⟨q0, q1, q2, q3, _⟩ := row4f hs.s
            obtain ⟨r0, r1, r2, r3, _⟩ := row4f hs.t
            clear hs
            go_simp; with_reducible rfl
          refine ca 1 57 Tryz.func72 rfl rfl (by kernel_rfl) (by decide) (by kernel_rfl) rfl #[st s0 s1] (by rfl) rfl (by first | rfl | (simp [Act.eval]; done) | (simp [Act.eval, st, pt]; done) | (go_simp; rfl)) ?_
          with_reducible refine ((HRi.out _).1).mono ?_
          rintro e w' ⟨rfl, hb1⟩
          refine ⟨_, rfl, (by first | (exact hHeld.keep hb3) | (exact hHeld.keep hb2) | (exact hHeld.keep hb1)), fun hHeld => ?_⟩
          refine nn ?_
          refine ca 3 59 Tryz.func72 rfl rfl (by kernel_rfl) (by decide) (by kernel_rfl) rfl #[st t0 t1] (by rfl) rfl (by first | rfl | (simp [Act.eval]; done) | (simp [Act.eval, st, pt]; done) | (go_simp; rfl)) ?_
          with_reducible refine ((HRi.out _).2).mono ?_
          rintro e w' ⟨rfl, hb2⟩
          refine ⟨_, rfl, (by first | (exact hHeld.keep hb3) | (exact hHeld.keep hb2) | (exact hHeld.keep hb1)), fun hHeld => ?_⟩
          refine nn ?_
          refine ca 4 60 Tryz.func71 rfl rfl (by kernel_rfl) (by decide) (by kernel_rfl) rfl #[st (riseR s0 s1).1 (riseR s0 s1).2, st (riseR t0 t1).1 (riseR t0 t1).2] (by rfl) rfl (by first | rfl | (simp [Act.eval]; done) | (simp [Act.eval, st, pt]; done) | (go_simp; rfl)) ?_
          with_reducible refine (HAl.out _).mono ?_
          rintro e w' ⟨rfl, hb3⟩
          unfold mv
          refine ⟨_, rfl, (by first | (exact hHeld.keep hb3) | (exact hHeld.keep hb2) | (exact hHeld.keep hb1)), fun hHeld => ?_⟩
          refine nn ?_
          refine last_ (i := 5) (N := none) (bt 6 63) rfl rfl (by kernel_rfl) (by decide) (fun K hK => ?_)
          have HZ := Lib.hid hHeld
          obtain ⟨z0, z1, z2, z3, z4, z5, z6, z7, z8, z9, z10, z11⟩ := row6 hHeld.r
          clear hHeld
          refine skip_ (w1 := ?_) (by rfl) rfl ?_ ?_
          rotate_left
          · go_simp
            rfl
          refine hK.out _ _ ?_
          clear hK K
          refine done_ (by kernel_rfl) ?_
          ((try dsimp only); repeat (first | go_values | go_skip | go_guarded | go_step | go_upon))
          refine bodyPost_ret (results_cell_row rfl _ _ (w.heap.size + 1 + 1) _ _ _ _ rfl (heap_set_sixr HZ.out.r _ _ _ _ _ _) rfl rfl rfl) rfl ?_
          exact ⟨by rw [HRR.out]; rfl, below_six (by omega) HZ.out.b⟩
        · have hcb : (c2 == 0) = false := beq_eq_false_iff_ne.2 hc2
          have HRR : Hid (∀ X, meetR X s0 s1 t0 t1 = loops s0 s1 t0 t1) := Lib.hid fun X => ((HR2.out X).trans (if_neg (fun h => hc2 h.2))).trans (if_neg (fun h => by have := h.1; rw [Int.zero_mul] at this; omega))
          clear hc2 HR2 hw1 hw2
          ((try dsimp only); repeat (first | (with_reducible refine oper_eql_place rfl s0 s1 rfl rfl ?_) | (with_reducible refine oper_eql_place rfl t0 t1 rfl rfl ?_) | go_values | go_skip | go_guarded | go_step | go_upon))
          refine wp_loop_rounds 3 ?_
          rw [rounds_succ]
          ((try dsimp only); repeat (first | go_values | go_skip | go_guarded | go_step | go_upon))
          refine (sHolds s0 s1 t0 _ f0 f1 f2).mono ?_
          rintro e w0 ⟨rfl, hb⟩
          have hbx := hb.size
          rw [World.size_alloc] at hbx hb
          have hq := (hb.block _ (Nat.lt_succ_self _)).trans (alloc_new wb _)
          have hS := HS.out.keep (((Go.RowKit.Below.refl wb.heap.size wb).alloc (Nat.le_refl _) (.cells #[.int .u64 t0.1, .int .u64 t0.2] 77)).trans (hb.mono (Nat.le_succ _)))
          clear HS a0 a1 a2 a3 b0 b1 b2 b3 hlt hlt0
          obtain ⟨a0, a1, a2, a3, _⟩ := row4f hS.s
          obtain ⟨b0, b1, b2, b3, _⟩ := row4f hS.t
          have HS := Lib.hid hS
          have hlt := heap_lt hS.t
          have hlt0 : w.heap.size < w0.heap.size := by omega
          obtain ⟨q0, q1⟩ := row2 hq
          clear hb hbx hq
          have HB0 := Lib.hid (rfl : btwP s0 s1 t0 = btwP s0 s1 t0)
          generalize hbb0 : btwP s0 s1 t0 = v0
          have HX0 := Lib.hid hbb0
          clear hbb0 HB0
          cases v0
          · clear q0 q1
            ((try dsimp only); repeat (first | go_values | go_skip | go_guarded | go_step | go_upon))
            rw [rounds_succ]
            ((try dsimp only); repeat (first | go_values | go_skip | go_guarded | go_step | go_upon))
            refine (sHolds s0 s1 t1 _ f0 f1 f3).mono ?_
            rintro e w1 ⟨rfl, hb⟩
            have hbx := hb.size
            rw [World.size_alloc] at hbx hb
            have hq := (hb.block _ (Nat.lt_succ_self _)).trans (alloc_new w0 _)
            have hS := HS.out.keep (((Go.RowKit.Below.refl w0.heap.size w0).alloc (Nat.le_refl _) (.cells #[.int .u64 t1.1, .int .u64 t1.2] 77)).trans (hb.mono (Nat.le_succ _)))
            clear HS a0 a1 a2 a3 b0 b1 b2 b3 hlt hlt0
            obtain ⟨a0, a1, a2, a3, _⟩ := row4f hS.s
            obtain ⟨b0, b1, b2, b3, _⟩ := row4f hS.t
            have HS := Lib.hid hS
            have hlt := heap_lt hS.t
            have hlt0 : w.heap.size < w1.heap.size := by omega
            obtain ⟨q0, q1⟩ := row2 hq
            clear hb hbx hq
            have HB1 := Lib.hid (rfl : btwP s0 s1 t1 = btwP s0 s1 t1)
            generalize hbb1 : btwP s0 s1 t1 = v1
            have HX1 := Lib.hid hbb1
            clear hbb1 HB1
            cases v1
            · clear q0 q1
              ((try dsimp only); repeat (first | go_values | go_skip | go_guarded | go_step | go_upon))
              rw [rounds_succ]
              ((try dsimp only); repeat (first | go_values | go_skip | go_guarded | go_step | go_upon))
              refine wp_loop_rounds 3 ?_
              rw [rounds_succ]
              ((try dsimp only); repeat (first | go_values | go_skip | go_guarded | go_step | go_upon))
              refine (sHolds t0 t1 s0 _ f2 f3 f0).mono ?_
              rintro e w2 ⟨rfl, hb⟩
              have hbx := hb.size
              rw [World.size_alloc] at hbx hb
              have hq := (hb.block _ (Nat.lt_succ_self _)).trans (alloc_new w1 _)
              have hS := HS.out.keep (((Go.RowKit.Below.refl w1.heap.size w1).alloc (Nat.le_refl _) (.cells #[.int .u64 s0.1, .int .u64 s0.2] 77)).trans (hb.mono (Nat.le_succ _)))
              clear HS a0 a1 a2 a3 b0 b1 b2 b3 hlt hlt0
              obtain ⟨a0, a1, a2, a3, _⟩ := row4f hS.s
              obtain ⟨b0, b1, b2, b3, _⟩ := row4f hS.t
              have HS := Lib.hid hS
              have hlt := heap_lt hS.t
              have hlt0 : w.heap.size < w2.heap.size := by omega
              obtain ⟨q0, q1⟩ := row2 hq
              clear hb hbx hq
              have HB2 := Lib.hid (rfl : btwP t0 t1 s0 = btwP t0 t1 s0)
              generalize hbb2 : btwP t0 t1 s0 = v2
              have HX2 := Lib.hid hbb2
              clear hbb2 HB2
              cases v2
              · clear q0 q1
                ((try dsimp only); repeat (first | go_values | go_skip | go_guarded | go_step | go_upon))
                rw [rounds_succ]
                ((try dsimp only); repeat (first | go_values | go_skip | go_guarded | go_step | go_upon))
                refine (sHolds t0 t1 s1 _ f2 f3 f1).mono ?_
                rintro e w3 ⟨rfl, hb⟩
                have hbx := hb.size
                rw [World.size_alloc] at hbx hb
                have hq := (hb.block _ (Nat.lt_succ_self _)).trans (alloc_new w2 _)
                have hS := HS.out.keep (((Go.RowKit.Below.refl w2.heap.size w2).alloc (Nat.le_refl _) (.cells #[.int .u64 s1.1, .int .u64 s1.2] 77)).trans (hb.mono (Nat.le_succ _)))
                clear HS a0 a1 a2 a3 b0 b1 b2 b3 hlt hlt0
                obtain ⟨a0, a1, a2, a3, _⟩ := row4f hS.s
                obtain ⟨b0, b1, b2, b3, _⟩ := row4f hS.t
                have HS := Lib.hid hS
                have hlt := heap_lt hS.t
                have hlt0 : w.heap.size < w3.heap.size := by omega
                obtain ⟨q0, q1⟩ := row2 hq
                clear hb hbx hq
                have HB3 := Lib.hid (rfl : btwP t0 t1 s1 = btwP t0 t1 s1)
                generalize hbb3 : btwP t0 t1 s1 = v3
                have HX3 := Lib.hid hbb3
                clear hbb3 HB3
                cases v3
                · clear q0 q1
                  ((try dsimp only); repeat (first | go_values | go_skip | go_guarded | go_step | go_upon))
                  rw [rounds_succ]
                  have hS := HS.out
                  obtain ⟨z0, z1, z2, z3, z4, z5, z6, z7, z8, z9, z10, z11⟩ := row6 hS.r
                  clear hS
                  ((try dsimp only); repeat (first | go_values | go_skip | go_guarded | go_step | go_upon))
                  refine bodyPost_ret (results_cell_row rfl _ _ (w.heap.size + 1 + 1) _ _ _ _ rfl (heap_set_sixr HS.out.r _ _ _ _ _ _) rfl rfl rfl) rfl ?_
                  exact ⟨by rw [HRR.out, HLP.out.2.2.2.2 HX0.out HX1.out HX2.out HX3.out]; rfl, below_six (by omega) HS.out.b⟩
                · ((try dsimp only); repeat (first | go_values | go_skip | go_guarded | go_step | go_upon))
                  refine (sTouch s1 _).mono ?_
                  rintro e wf ⟨rfl, hb⟩
                  have hS := HS.out.keep hb
                  clear HS q0 q1 a0 a1 a2 a3 b0 b1 b2 b3 hlt hlt0
                  obtain ⟨z0, z1, z2, z3, z4, z5, z6, z7, z8, z9, z10, z11⟩ := row6 hS.r
                  have HS := Lib.hid hS
                  clear hS hb
                  unfold mv
                  ((try dsimp only); repeat (first | go_values | go_skip | go_guarded | go_step | go_upon))
                  refine bodyPost_ret (results_cell_row rfl _ _ (w.heap.size + 1 + 1) _ _ _ _ rfl (heap_set_sixr HS.out.r _ _ _ _ _ _) rfl rfl rfl) rfl ?_
                  exact ⟨by rw [HRR.out, HLP.out.2.2.2.1 HX0.out HX1.out HX2.out HX3.out]; rfl, below_six (by omega) HS.out.b⟩
              · ((try dsimp only); repeat (first | go_values | go_skip | go_guarded | go_step | go_upon))
                refine (sTouch s0 _).mono ?_
                rintro e wf ⟨rfl, hb⟩
                have hS := HS.out.keep hb
                clear HS q0 q1 a0 a1 a2 a3 b0 b1 b2 b3 hlt hlt0
                obtain ⟨z0, z1, z2, z3, z4, z5, z6, z7, z8, z9, z10, z11⟩ := row6 hS.r
                have HS := Lib.hid hS
                clear hS hb
                unfold mv
                ((try dsimp only); repeat (first | go_values | go_skip | go_guarded | go_step | go_upon))
                refine bodyPost_ret (results_cell_row rfl _ _ (w.heap.size + 1 + 1) _ _ _ _ rfl (heap_set_sixr HS.out.r _ _ _ _ _ _) rfl rfl rfl) rfl ?_
                exact ⟨by rw [HRR.out, HLP.out.2.2.1 HX0.out HX1.out HX2.out]; rfl, below_six (by omega) HS.out.b⟩
            · ((try dsimp only); repeat (first | go_values | go_skip | go_guarded | go_step | go_upon))
              refine (sTouch t1 _).mono ?_
              rintro e wf ⟨rfl, hb⟩
              have hS := HS.out.keep hb
              clear HS q0 q1 a0 a1 a2 a3 b0 b1 b2 b3 hlt hlt0
              obtain ⟨z0, z1, z2, z3, z4, z5, z6, z7, z8, z9, z10, z11⟩ := row6 hS.r
              have HS := Lib.hid hS
              clear hS hb
              unfold mv
              ((try dsimp only); repeat (first | go_values | go_skip | go_guarded | go_step | go_upon))
              refine bodyPost_ret (results_cell_row rfl _ _ (w.heap.size + 1 + 1) _ _ _ _ rfl (heap_set_sixr HS.out.r _ _ _ _ _ _) rfl rfl rfl) rfl ?_
              exact ⟨by rw [HRR.out, HLP.out.2.1 HX0.out HX1.out]; rfl, below_six (by omega) HS.out.b⟩
          · ((try dsimp only); repeat (first | go_values | go_skip | go_guarded | go_step | go_upon))
            refine (sTouch t0 _).mono ?_
            rintro e wf ⟨rfl, hb⟩
            have hS := HS.out.keep hb
            clear HS q0 q1 a0 a1 a2 a3 b0 b1 b2 b3 hlt hlt0
            obtain ⟨z0, z1, z2, z3, z4, z5, z6, z7, z8, z9, z10, z11⟩ := row6 hS.r
            have HS := Lib.hid hS
            clear hS hb
            unfold mv
            ((try dsimp only); repeat (first | go_values | go_skip | go_guarded | go_step | go_upon))
            refine bodyPost_ret (results_cell_row rfl _ _ (w.heap.size + 1 + 1) _ _ _ _ rfl (heap_set_sixr HS.out.r _ _ _ _ _ _) rfl rfl rfl) rfl ?_
            exact ⟨by rw [HRR.out, HLP.out.1 HX0.out]; rfl, below_six (by omega) HS.out.b⟩
      · have hcb : (c1 == 0) = false := beq_eq_false_iff_ne.2 hc1
        obtain ⟨m1, hm1⟩ : ∃ m, c1 * c2 = m := ⟨_, rfl⟩
        obtain ⟨m2, hm2⟩ : ∃ m, c3 * c4 = m := ⟨_, rfl⟩
        rw [hm1] at HR2 HT HT2 hw1
        rw [hm2] at HR2 HT2 hw2
        have HM := Lib.hid (And.intro hm1 hm2)
        have HR3 := Lib.hid fun X => (HR2.out X).trans (if_neg (fun h => hc1 h.1))
        clear hc1 HR2
        by_cases h1 : m1 < 0
        · by_cases h2 : m2 < 0
          · have HRR : Hid (∀ X, meetR X s0 s1 t0 t1 = ⟨1, true, X, (0, 0)⟩) := Lib.hid fun X => (HR3.out X).trans (if_pos ⟨h1, h2⟩)
            have ht := HT.out h1
            have hft := HT2.out h1 h2
            rw [← hm1] at h1 hw1
            rw [← hm2] at h2 hw2
            clear hm1 hm2 HR3
            have hw1' : wrap64 (c1 * c2) < 0 := by omega
            have hw2' : wrap64 (c3 * c4) < 0 := by omega
            clear hw1 hw2 h1 h2
            ((try dsimp only); repeat (first | (with_reducible refine oper_eql_place rfl s0 s1 rfl rfl ?_) | (with_reducible refine oper_eql_place rfl t0 t1 rfl rfl ?_) | go_values | go_skip | go_guarded | go_step | go_upon))
            refine (HX.out s0 s1 t0 t1 _ f0 f1 f2 f3 ht).mono ?_
            rintro e wc ⟨A, B, C, D, rfl, fx, fy, sx, sy, hb⟩
            have hS := HS.out.keep hb
            clear HS hb ht a0 a1 a2 a3 b0 b1 b2 b3 hlt hlt0
            generalize hcr : cr (pl s0) (pl s1) (pl t0) (pl t1) = x at *
            have HFT := Lib.hid hft
            clear hft
            have hk2 : ∀ o1 o2, Keep 0 wc.heap.size wc ((wc.alloc o1).alloc o2) := fun o1 o2 => ((Keep.refl _ _ _).alloc (Nat.le_refl _) _).alloc (by rw [World.size_alloc]; omega) _
            have hbl : ∀ o1 o2, Below wc.heap.size wc ((wc.alloc o1).alloc o2) := fun o1 o2 => ((Go.RowKit.Below.refl _ _).alloc (Nat.le_refl _) _).alloc (by rw [World.size_alloc]; omega) _
            have HX1 := Lib.hid (fun o1 o2 => HN.out x.1 A B 0 wc.heap.size ((wc.alloc o1).alloc o2) ((fx.ins.wide (Nat.zero_le _) (Nat.le_refl _)).keep (hk2 o1 o2)) (by rw [World.size_alloc, World.size_alloc]; omega) sx HFT.out.1 (HL.out.1 _ _ HL.out.2 (hS.b.trans ((hbl o1 o2).mono (Nat.le_of_lt (heap_lt hS.s))))))
            have HX2 := Lib.hid (fun o1 o2 wz (hz : Below ((wc.alloc o1).alloc o2).heap.size ((wc.alloc o1).alloc o2) wz) => HN.out x.2 C D 0 wc.heap.size wz (((fy.ins.wide (Nat.zero_le _) (Nat.le_refl _)).keep (hk2 o1 o2)).keep (Keep.of hz (by rw [World.size_alloc, World.size_alloc]; omega))) (by have := hz.size; rw [World.size_alloc, World.size_alloc] at this; omega) sy HFT.out.2 (HL.out.1 _ _ HL.out.2 ((hS.b.trans ((hbl o1 o2).mono (Nat.le_of_lt (heap_lt hS.s)))).trans (hz.mono (by rw [World.size_alloc, World.size_alloc]; have := heap_lt hS.s; omega)))))
            have HS := Lib.hid (And.intro hS hbl)
            have HB2 := Lib.hid (fun o1 o2 => two_blocks wc o1 o2)
            have HCR := Lib.hid hcr
            clear hS hbl hk2 fx fy sx sy hcr
            unfold qv at *
            ((try dsimp only); repeat (first | go_values | go_skip | go_guarded | go_step | go_upon))
            refine (HX1.out _ _).mono ?_
            rintro e wd ⟨rfl, hb⟩
            have hy := (hb.block (wc.heap.size + 1) (by rw [World.size_alloc, World.size_alloc]; omega)).trans (HB2.out _ _).2
            obtain ⟨y0, y1, y2, _⟩ := row3 hy
            have HBD := Lib.hid hb
            clear hb hy
            ((try dsimp only); repeat (first | go_values | go_skip | go_guarded | go_step | go_upon))
            refine (HX2.out _ _ _ HBD.out).mono ?_
            rintro e we ⟨rfl, hb⟩
            have hS := ((HS.out.1.keep (HS.out.2 _ _)).keep HBD.out).keep hb
            obtain ⟨z0, z1, z2, z3, z4, z5, z6, z7, z8, z9, z10, z11⟩ := row6 hS.r
            have HZ := Lib.hid hS
            clear hS hb HS HBD y0 y1 y2
            ((try dsimp only); repeat (first | go_values | go_skip | go_guarded | go_step | go_upon))
            refine bodyPost_ret (results_cell_row rfl _ _ (w.heap.size + 1 + 1) _ _ _ _ rfl (heap_set_sixr HZ.out.r _ _ _ _ _ _) rfl rfl rfl) rfl ?_
            exact ⟨by rw [HRR.out, HCR.out]; rfl, below_six (by omega) HZ.out.b⟩
          · have HRR : Hid (∀ X, meetR X s0 s1 t0 t1 = loops s0 s1 t0 t1) := Lib.hid fun X => (HR3.out X).trans (if_neg (fun h => h2 h.2))
            rw [← hm1] at h1 hw1
            rw [← hm2] at h2 hw2
            clear hm1 hm2 HR3
            have hw1' : wrap64 (c1 * c2) < 0 := by omega
            have hw2' : ¬ wrap64 (c3 * c4) < 0 := by omega
            clear hw1 hw2 h1 h2
            ((try dsimp only); repeat (first | (with_reducible refine oper_eql_place rfl s0 s1 rfl rfl ?_) | (with_reducible refine oper_eql_place rfl t0 t1 rfl rfl ?_) | go_values | go_skip | go_guarded | go_step | go_upon))
            refine wp_loop_rounds 3 ?_
            rw [rounds_succ]
            ((try dsimp only); repeat (first | go_values | go_skip | go_guarded | go_step | go_upon))
            refine (sHolds s0 s1 t0 _ f0 f1 f2).mono ?_
            rintro e w0 ⟨rfl, hb⟩
            have hbx := hb.size
            rw [World.size_alloc] at hbx hb
            have hq := (hb.block _ (Nat.lt_succ_self _)).trans (alloc_new wb _)
            have hS := HS.out.keep (((Go.RowKit.Below.refl wb.heap.size wb).alloc (Nat.le_refl _) (.cells #[.int .u64 t0.1, .int .u64 t0.2] 77)).trans (hb.mono (Nat.le_succ _)))
            clear HS a0 a1 a2 a3 b0 b1 b2 b3 hlt hlt0
            obtain ⟨a0, a1, a2, a3, _⟩ := row4f hS.s
            obtain ⟨b0, b1, b2, b3, _⟩ := row4f hS.t
            have HS := Lib.hid hS
            have hlt := heap_lt hS.t
            have hlt0 : w.heap.size < w0.heap.size := by omega
            obtain ⟨q0, q1⟩ := row2 hq
            clear hb hbx hq
            have HB0 := Lib.hid (rfl : btwP s0 s1 t0 = btwP s0 s1 t0)
            generalize hbb0 : btwP s0 s1 t0 = v0
            have HX0 := Lib.hid hbb0
            clear hbb0 HB0
            cases v0
            · clear q0 q1
              ((try dsimp only); repeat (first | go_values | go_skip | go_guarded | go_step | go_upon))
              rw [rounds_succ]
              ((try dsimp only); repeat (first | go_values | go_skip | go_guarded | go_step | go_upon))
              refine (sHolds s0 s1 t1 _ f0 f1 f3).mono ?_
              rintro e w1 ⟨rfl, hb⟩
              have hbx := hb.size
              rw [World.size_alloc] at hbx hb
              have hq := (hb.block _ (Nat.lt_succ_self _)).trans (alloc_new w0 _)
              have hS := HS.out.keep (((Go.RowKit.Below.refl w0.heap.size w0).alloc (Nat.le_refl _) (.cells #[.int .u64 t1.1, .int .u64 t1.2] 77)).trans (hb.mono (Nat.le_succ _)))
              clear HS a0 a1 a2 a3 b0 b1 b2 b3 hlt hlt0
              obtain ⟨a0, a1, a2, a3, _⟩ := row4f hS.s
              obtain ⟨b0, b1, b2, b3, _⟩ := row4f hS.t
              have HS := Lib.hid hS
              have hlt := heap_lt hS.t
              have hlt0 : w.heap.size < w1.heap.size := by omega
              obtain ⟨q0, q1⟩ := row2 hq
              clear hb hbx hq
              have HB1 := Lib.hid (rfl : btwP s0 s1 t1 = btwP s0 s1 t1)
              generalize hbb1 : btwP s0 s1 t1 = v1
              have HX1 := Lib.hid hbb1
              clear hbb1 HB1
              cases v1
              · clear q0 q1
                ((try dsimp only); repeat (first | go_values | go_skip | go_guarded | go_step | go_upon))
                rw [rounds_succ]
                ((try dsimp only); repeat (first | go_values | go_skip | go_guarded | go_step | go_upon))
                refine wp_loop_rounds 3 ?_
                rw [rounds_succ]
                ((try dsimp only); repeat (first | go_values | go_skip | go_guarded | go_step | go_upon))
                refine (sHolds t0 t1 s0 _ f2 f3 f0).mono ?_
                rintro e w2 ⟨rfl, hb⟩
                have hbx := hb.size
                rw [World.size_alloc] at hbx hb
                have hq := (hb.block _ (Nat.lt_succ_self _)).trans (alloc_new w1 _)
                have hS := HS.out.keep (((Go.RowKit.Below.refl w1.heap.size w1).alloc (Nat.le_refl _) (.cells #[.int .u64 s0.1, .int .u64 s0.2] 77)).trans (hb.mono (Nat.le_succ _)))
                clear HS a0 a1 a2 a3 b0 b1 b2 b3 hlt hlt0
                obtain ⟨a0, a1, a2, a3, _⟩ := row4f hS.s
                obtain ⟨b0, b1, b2, b3, _⟩ := row4f hS.t
                have HS := Lib.hid hS
                have hlt := heap_lt hS.t
                have hlt0 : w.heap.size < w2.heap.size := by omega
                obtain ⟨q0, q1⟩ := row2 hq
                clear hb hbx hq
                have HB2 := Lib.hid (rfl : btwP t0 t1 s0 = btwP t0 t1 s0)
                generalize hbb2 : btwP t0 t1 s0 = v2
                have HX2 := Lib.hid hbb2
                clear hbb2 HB2
                cases v2
                · clear q0 q1
                  ((try dsimp only); repeat (first | go_values | go_skip | go_guarded | go_step | go_upon))
                  rw [rounds_succ]
                  ((try dsimp only); repeat (first | go_values | go_skip | go_guarded | go_step | go_upon))
                  refine (sHolds t0 t1 s1 _ f2 f3 f1).mono ?_
                  rintro e w3 ⟨rfl, hb⟩
                  have hbx := hb.size
                  rw [World.size_alloc] at hbx hb
                  have hq := (hb.block _ (Nat.lt_succ_self _)).trans (alloc_new w2 _)
                  have hS := HS.out.keep (((Go.RowKit.Below.refl w2.heap.size w2).alloc (Nat.le_refl _) (.cells #[.int .u64 s1.1, .int .u64 s1.2] 77)).trans (hb.mono (Nat.le_succ _)))
                  clear HS a0 a1 a2 a3 b0 b1 b2 b3 hlt hlt0
                  obtain ⟨a0, a1, a2, a3, _⟩ := row4f hS.s
                  obtain ⟨b0, b1, b2, b3, _⟩ := row4f hS.t
                  have HS := Lib.hid hS
                  have hlt := heap_lt hS.t
                  have hlt0 : w.heap.size < w3.heap.size := by omega
                  obtain ⟨q0, q1⟩ := row2 hq
                  clear hb hbx hq
                  have HB3 := Lib.hid (rfl : btwP t0 t1 s1 = btwP t0 t1 s1)
                  generalize hbb3 : btwP t0 t1 s1 = v3
                  have HX3 := Lib.hid hbb3
                  clear hbb3 HB3
                  cases v3
                  · clear q0 q1
                    ((try dsimp only); repeat (first | go_values | go_skip | go_guarded | go_step | go_upon))
                    rw [rounds_succ]
                    have hS := HS.out
                    obtain ⟨z0, z1, z2, z3, z4, z5, z6, z7, z8, z9, z10, z11⟩ := row6 hS.r
                    clear hS
                    ((try dsimp only); repeat (first | go_values | go_skip | go_guarded | go_step | go_upon))
                    refine bodyPost_ret (results_cell_row rfl _ _ (w.heap.size + 1 + 1) _ _ _ _ rfl (heap_set_sixr HS.out.r _ _ _ _ _ _) rfl rfl rfl) rfl ?_
                    exact ⟨by rw [HRR.out, HLP.out.2.2.2.2 HX0.out HX1.out HX2.out HX3.out]; rfl, below_six (by omega) HS.out.b⟩
                  · ((try dsimp only); repeat (first | go_values | go_skip | go_guarded | go_step | go_upon))
                    refine (sTouch s1 _).mono ?_
                    rintro e wf ⟨rfl, hb⟩
                    have hS := HS.out.keep hb
                    clear HS q0 q1 a0 a1 a2 a3 b0 b1 b2 b3 hlt hlt0
                    obtain ⟨z0, z1, z2, z3, z4, z5, z6, z7, z8, z9, z10, z11⟩ := row6 hS.r
                    have HS := Lib.hid hS
                    clear hS hb
                    unfold mv
                    ((try dsimp only); repeat (first | go_values | go_skip | go_guarded | go_step | go_upon))
                    refine bodyPost_ret (results_cell_row rfl _ _ (w.heap.size + 1 + 1) _ _ _ _ rfl (heap_set_sixr HS.out.r _ _ _ _ _ _) rfl rfl rfl) rfl ?_
                    exact ⟨by rw [HRR.out, HLP.out.2.2.2.1 HX0.out HX1.out HX2.out HX3.out]; rfl, below_six (by omega) HS.out.b⟩
                · ((try dsimp only); repeat (first | go_values | go_skip | go_guarded | go_step | go_upon))
                  refine (sTouch s0 _).mono ?_
                  rintro e wf ⟨rfl, hb⟩
                  have hS := HS.out.keep hb
                  clear HS q0 q1 a0 a1 a2 a3 b0 b1 b2 b3 hlt hlt0
                  obtain ⟨z0, z1, z2, z3, z4, z5, z6, z7, z8, z9, z10, z11⟩ := row6 hS.r
                  have HS := Lib.hid hS
                  clear hS hb
                  unfold mv
                  ((try dsimp only); repeat (first | go_values | go_skip | go_guarded | go_step | go_upon))
                  refine bodyPost_ret (results_cell_row rfl _ _ (w.heap.size + 1 + 1) _ _ _ _ rfl (heap_set_sixr HS.out.r _ _ _ _ _ _) rfl rfl rfl) rfl ?_
                  exact ⟨by rw [HRR.out, HLP.out.2.2.1 HX0.out HX1.out HX2.out]; rfl, below_six (by omega) HS.out.b⟩
              · ((try dsimp only); repeat (first | go_values | go_skip | go_guarded | go_step | go_upon))
                refine (sTouch t1 _).mono ?_
                rintro e wf ⟨rfl, hb⟩
                have hS := HS.out.keep hb
                clear HS q0 q1 a0 a1 a2 a3 b0 b1 b2 b3 hlt hlt0
                obtain ⟨z0, z1, z2, z3, z4, z5, z6, z7, z8, z9, z10, z11⟩ := row6 hS.r
                have HS := Lib.hid hS
                clear hS hb
                unfold mv
                ((try dsimp only); repeat (first | go_values | go_skip | go_guarded | go_step | go_upon))
                refine bodyPost_ret (results_cell_row rfl _ _ (w.heap.size + 1 + 1) _ _ _ _ rfl (heap_set_sixr HS.out.r _ _ _ _ _ _) rfl rfl rfl) rfl ?_
                exact ⟨by rw [HRR.out, HLP.out.2.1 HX0.out HX1.out]; rfl, below_six (by omega) HS.out.b⟩
            · ((try dsimp only); repeat (first | go_values | go_skip | go_guarded | go_step | go_upon))
              refine (sTouch t0 _).mono ?_
              rintro e wf ⟨rfl, hb⟩
              have hS := HS.out.keep hb
              clear HS q0 q1 a0 a1 a2 a3 b0 b1 b2 b3 hlt hlt0
              obtain ⟨z0, z1, z2, z3, z4, z5, z6, z7, z8, z9, z10, z11⟩ := row6 hS.r
              have HS := Lib.hid hS
              clear hS hb
              unfold mv
              ((try dsimp only); repeat (first | go_values | go_skip | go_guarded | go_step | go_upon))
              refine bodyPost_ret (results_cell_row rfl _ _ (w.heap.size + 1 + 1) _ _ _ _ rfl (heap_set_sixr HS.out.r _ _ _ _ _ _) rfl rfl rfl) rfl ?_
              exact ⟨by rw [HRR.out, HLP.out.1 HX0.out]; rfl, below_six (by omega) HS.out.b⟩
        · have HRR : Hid (∀ X, meetR X s0 s1 t0 t1 = loops s0 s1 t0 t1) := Lib.hid fun X => (HR3.out X).trans (if_neg (fun h => h1 h.1))
          rw [← hm1] at h1 hw1
          clear hm1 hm2 HR3
          have hw1' : ¬ wrap64 (c1 * c2) < 0 := by omega
          clear hw1 hw2 h1
          ((try dsimp only); repeat (first | (with_reducible refine oper_eql_place rfl s0 s1 rfl rfl ?_) | (with_reducible refine oper_eql_place rfl t0 t1 rfl rfl ?_) | go_values | go_skip | go_guarded | go_step | go_upon))
          refine wp_loop_rounds 3 ?_
          rw [rounds_succ]
          ((try dsimp only); repeat (first | go_values | go_skip | go_guarded | go_step | go_upon))
          refine (sHolds s0 s1 t0 _ f0 f1 f2).mono ?_
          rintro e w0 ⟨rfl, hb⟩
          have hbx := hb.size
          rw [World.size_alloc] at hbx hb
          have hq := (hb.block _ (Nat.lt_succ_self _)).trans (alloc_new wb _)
          have hS := HS.out.keep (((Go.RowKit.Below.refl wb.heap.size wb).alloc (Nat.le_refl _) (.cells #[.int .u64 t0.1, .int .u64 t0.2] 77)).trans (hb.mono (Nat.le_succ _)))
          clear HS a0 a1 a2 a3 b0 b1 b2 b3 hlt hlt0
          obtain ⟨a0, a1, a2, a3, _⟩ := row4f hS.s
          obtain ⟨b0, b1, b2, b3, _⟩ := row4f hS.t
          have HS := Lib.hid hS
          have hlt := heap_lt hS.t
          have hlt0 : w.heap.size < w0.heap.size := by omega
          obtain ⟨q0, q1⟩ := row2 hq
          clear hb hbx hq
          have HB0 := Lib.hid (rfl : btwP s0 s1 t0 = btwP s0 s1 t0)
          generalize hbb0 : btwP s0 s1 t0 = v0
          have HX0 := Lib.hid hbb0
          clear hbb0 HB0
          cases v0
          · clear q0 q1
            ((try dsimp only); repeat (first | go_values | go_skip | go_guarded | go_step | go_upon))
            rw [rounds_succ]
            ((try dsimp only); repeat (first | go_values | go_skip | go_guarded | go_step | go_upon))
            refine (sHolds s0 s1 t1 _ f0 f1 f3).mono ?_
            rintro e w1 ⟨rfl, hb⟩
            have hbx := hb.size
            rw [World.size_alloc] at hbx hb
            have hq := (hb.block _ (Nat.lt_succ_self _)).trans (alloc_new w0 _)
            have hS := HS.out.keep (((Go.RowKit.Below.refl w0.heap.size w0).alloc (Nat.le_refl _) (.cells #[.int .u64 t1.1, .int .u64 t1.2] 77)).trans (hb.mono (Nat.le_succ _)))
            clear HS a0 a1 a2 a3 b0 b1 b2 b3 hlt hlt0
            obtain ⟨a0, a1, a2, a3, _⟩ := row4f hS.s
            obtain ⟨b0, b1, b2, b3, _⟩ := row4f hS.t
            have HS := Lib.hid hS
            have hlt := heap_lt hS.t
            have hlt0 : w.heap.size < w1.heap.size := by omega
            obtain ⟨q0, q1⟩ := row2 hq
            clear hb hbx hq
            have HB1 := Lib.hid (rfl : btwP s0 s1 t1 = btwP s0 s1 t1)
            generalize hbb1 : btwP s0 s1 t1 = v1
            have HX1 := Lib.hid hbb1
            clear hbb1 HB1
            cases v1
            · clear q0 q1
              ((try dsimp only); repeat (first | go_values | go_skip | go_guarded | go_step | go_upon))
              rw [rounds_succ]
              ((try dsimp only); repeat (first | go_values | go_skip | go_guarded | go_step | go_upon))
              refine wp_loop_rounds 3 ?_
              rw [rounds_succ]
              ((try dsimp only); repeat (first | go_values | go_skip | go_guarded | go_step | go_upon))
              refine (sHolds t0 t1 s0 _ f2 f3 f0).mono ?_
              rintro e w2 ⟨rfl, hb⟩
              have hbx := hb.size
              rw [World.size_alloc] at hbx hb
              have hq := (hb.block _ (Nat.lt_succ_self _)).trans (alloc_new w1 _)
              have hS := HS.out.keep (((Go.RowKit.Below.refl w1.heap.size w1).alloc (Nat.le_refl _) (.cells #[.int .u64 s0.1, .int .u64 s0.2] 77)).trans (hb.mono (Nat.le_succ _)))
              clear HS a0 a1 a2 a3 b0 b1 b2 b3 hlt hlt0
              obtain ⟨a0, a1, a2, a3, _⟩ := row4f hS.s
              obtain ⟨b0, b1, b2, b3, _⟩ := row4f hS.t
              have HS := Lib.hid hS
              have hlt := heap_lt hS.t
              have hlt0 : w.heap.size < w2.heap.size := by omega
              obtain ⟨q0, q1⟩ := row2 hq
              clear hb hbx hq
              have HB2 := Lib.hid (rfl : btwP t0 t1 s0 = btwP t0 t1 s0)
              generalize hbb2 : btwP t0 t1 s0 = v2
              have HX2 := Lib.hid hbb2
              clear hbb2 HB2
              cases v2
              · clear q0 q1
                ((try dsimp only); repeat (first | go_values | go_skip | go_guarded | go_step | go_upon))
                rw [rounds_succ]
                ((try dsimp only); repeat (first | go_values | go_skip | go_guarded | go_step | go_upon))
                refine (sHolds t0 t1 s1 _ f2 f3 f1).mono ?_
                rintro e w3 ⟨rfl, hb⟩
                have hbx := hb.size
                rw [World.size_alloc] at hbx hb
                have hq := (hb.block _ (Nat.lt_succ_self _)).trans (alloc_new w2 _)
                have hS := HS.out.keep (((Go.RowKit.Below.refl w2.heap.size w2).alloc (Nat.le_refl _) (.cells #[.int .u64 s1.1, .int .u64 s1.2] 77)).trans (hb.mono (Nat.le_succ _)))
                clear HS a0 a1 a2 a3 b0 b1 b2 b3 hlt hlt0
                obtain ⟨a0, a1, a2, a3, _⟩ := row4f hS.s
                obtain ⟨b0, b1, b2, b3, _⟩ := row4f hS.t
                have HS := Lib.hid hS
                have hlt := heap_lt hS.t
                have hlt0 : w.heap.size < w3.heap.size := by omega
                obtain ⟨q0, q1⟩ := row2 hq
                clear hb hbx hq
                have HB3 := Lib.hid (rfl : btwP t0 t1 s1 = btwP t0 t1 s1)
                generalize hbb3 : btwP t0 t1 s1 = v3
                have HX3 := Lib.hid hbb3
                clear hbb3 HB3
                cases v3
                · clear q0 q1
                  ((try dsimp only); repeat (first | go_values | go_skip | go_guarded | go_step | go_upon))
                  rw [rounds_succ]
                  have hS := HS.out
                  obtain ⟨z0, z1, z2, z3, z4, z5, z6, z7, z8, z9, z10, z11⟩ := row6 hS.r
                  clear hS
                  ((try dsimp only); repeat (first | go_values | go_skip | go_guarded | go_step | go_upon))
                  refine bodyPost_ret (results_cell_row rfl _ _ (w.heap.size + 1 + 1) _ _ _ _ rfl (heap_set_sixr HS.out.r _ _ _ _ _ _) rfl rfl rfl) rfl ?_
                  exact ⟨by rw [HRR.out, HLP.out.2.2.2.2 HX0.out HX1.out HX2.out HX3.out]; rfl, below_six (by omega) HS.out.b⟩
                · ((try dsimp only); repeat (first | go_values | go_skip | go_guarded | go_step | go_upon))
                  refine (sTouch s1 _).mono ?_
                  rintro e wf ⟨rfl, hb⟩
                  have hS := HS.out.keep hb
                  clear HS q0 q1 a0 a1 a2 a3 b0 b1 b2 b3 hlt hlt0
                  obtain ⟨z0, z1, z2, z3, z4, z5, z6, z7, z8, z9, z10, z11⟩ := row6 hS.r
                  have HS := Lib.hid hS
                  clear hS hb
                  unfold mv
                  ((try dsimp only); repeat (first | go_values | go_skip | go_guarded | go_step | go_upon))
                  refine bodyPost_ret (results_cell_row rfl _ _ (w.heap.size + 1 + 1) _ _ _ _ rfl (heap_set_sixr HS.out.r _ _ _ _ _ _) rfl rfl rfl) rfl ?_
                  exact ⟨by rw [HRR.out, HLP.out.2.2.2.1 HX0.out HX1.out HX2.out HX3.out]; rfl, below_six (by omega) HS.out.b⟩
              · ((try dsimp only); repeat (first | go_values | go_skip | go_guarded | go_step | go_upon))
                refine (sTouch s0 _).mono ?_
                rintro e wf ⟨rfl, hb⟩
                have hS := HS.out.keep hb
                clear HS q0 q1 a0 a1 a2 a3 b0 b1 b2 b3 hlt hlt0
                obtain ⟨z0, z1, z2, z3, z4, z5, z6, z7, z8, z9, z10, z11⟩ := row6 hS.r
                have HS := Lib.hid hS
                clear hS hb
                unfold mv
                ((try dsimp only); repeat (first | go_values | go_skip | go_guarded | go_step | go_upon))
                refine bodyPost_ret (results_cell_row rfl _ _ (w.heap.size + 1 + 1) _ _ _ _ rfl (heap_set_sixr HS.out.r _ _ _ _ _ _) rfl rfl rfl) rfl ?_
                exact ⟨by rw [HRR.out, HLP.out.2.2.1 HX0.out HX1.out HX2.out]; rfl, below_six (by omega) HS.out.b⟩
            · ((try dsimp only); repeat (first | go_values | go_skip | go_guarded | go_step | go_upon))
              refine (sTouch t1 _).mono ?_
              rintro e wf ⟨rfl, hb⟩
              have hS := HS.out.keep hb
              clear HS q0 q1 a0 a1 a2 a3 b0 b1 b2 b3 hlt hlt0
              obtain ⟨z0, z1, z2, z3, z4, z5, z6, z7, z8, z9, z10, z11⟩ := row6 hS.r
              have HS := Lib.hid hS
              clear hS hb
              unfold mv
              ((try dsimp only); repeat (first | go_values | go_skip | go_guarded | go_step | go_upon))
              refine bodyPost_ret (results_cell_row rfl _ _ (w.heap.size + 1 + 1) _ _ _ _ rfl (heap_set_sixr HS.out.r _ _ _ _ _ _) rfl rfl rfl) rfl ?_
              exact ⟨by rw [HRR.out, HLP.out.2.1 HX0.out HX1.out]; rfl, below_six (by omega) HS.out.b⟩
          · ((try dsimp only); repeat (first | go_values | go_skip | go_guarded | go_step | go_upon))
            refine (sTouch t0 _).mono ?_
            rintro e wf ⟨rfl, hb⟩
            have hS := HS.out.keep hb
            clear HS q0 q1 a0 a1 a2 a3 b0 b1 b2 b3 hlt hlt0
            obtain ⟨z0, z1, z2, z3, z4, z5, z6, z7, z8, z9, z10, z11⟩ := row6 hS.r
            have HS := Lib.hid hS
            clear hS hb
            unfold mv
            ((try dsimp only); repeat (first | go_values | go_skip | go_guarded | go_step | go_upon))
            refine bodyPost_ret (results_cell_row rfl _ _ (w.heap.size + 1 + 1) _ _ _ _ rfl (heap_set_sixr HS.out.r _ _ _ _ _ _) rfl rfl rfl) rfl ?_
            exact ⟨by rw [HRR.out, HLP.out.1 HX0.out]; rfl, below_six (by omega) HS.out.b⟩
end Go.Proofs.YtggfppgjabembaaGreatDoor

namespace Go.Proofs.YtggfppgjabembaaGreatDoor
open Go.RowKit Go.Proofs.YtggfppgjabembaaGreatDoorW.PrintLast
set_option linter.unusedVariables false
set_option linter.unusedSimpArgs false
set_option maxRecDepth 100000 in
set_option maxHeartbeats 1600000 in
theorem sSub (A B C D : Option Addr) (lo up m n : Nat) (p q : Rat) (w : World) (hp : RatIn lo up w A B p) (hq : RatIn lo up w C D q) (hu : up ≤ w.heap.size) (hs : Sz m p) (ht : Sz n q) (hmn : m + n + 1 ≤ 262144) :
    Calls Tryz.prog 80 #[qv A B p, qv C D q] w fun e w' => ∃ E F, e = .returned (qv E F (p - q)) ∧ RatFresh w.heap.size w' E F (p - q) ∧ Below w.heap.size w w' := by
  obtain ⟨h1, h2, h3, h4, h5⟩ := three_new w (.cells #[.bool (decide (p.num < 0)), .slice A (qn p).length (qn p).length, .slice B (qd p).length (qd p).length] 45) (.cells #[.bool (decide (q.num < 0)), .slice C (qn q).length (qn q).length, .slice D (qd q).length (qd q).length] 45) (.cells #[.bool false, .slice none 0 0, .slice none 0 0] 45)
  have HC := Lib.hid (rSubQ A B C D lo up m n p q _ (hp.keep (Keep.of h5 hu)) (hq.keep (Keep.of h5 hu)) (by omega) hs ht hmn)
  clear hp hq hs ht h1 h2
  generalize p - q = r at *
  unfold qv at *
  go_enter Tryz.func80, Tryz.ntmps80
  ((try dsimp only); repeat (first | go_values | go_skip | go_guarded | go_step | go_upon))
  generalize World.alloc (World.alloc (World.alloc w _) _) _ = w3 at *
  refine HC.out.mono ?_
  rintro e w4 ⟨E, F, rfl, hf, hb⟩
  have hs4 := hb.size
  have hr := (hb.block (w.heap.size + 2) (by omega)).trans h3
  have hlt : w.heap.size + 1 + 1 < w4.heap.size := by omega
  obtain ⟨d0, d1, d2, g0, g1, g2⟩ := row3 (g := w.heap.size + 1 + 1) hr
  have HF := Lib.hid (And.intro hr (And.intro hf (And.intro (h5.trans (hb.mono (by omega))) h4)))
  clear hr hf hb h3 h5
  ((try dsimp only); repeat (first | go_values | go_skip | go_guarded | go_step | go_upon))
  obtain ⟨r1, r2, r3, r4⟩ := HF.out
  refine bodyPost_ret (results_cell_row rfl _ _ (w.heap.size + 2) _ _ _ _ rfl (alloc_old (heap_set_three r1 _ _ _)) rfl rfl rfl) rfl ?_
  have f1 := rat_three (x := .bool (decide (r.num < 0))) (y := .slice E (qn r).length (qn r).length) (z := .slice F (qd r).length (qd r).length) (show w.heap.size + 2 < w3.heap.size by omega) r2
  exact ⟨E, F, rfl, (f1.keep (up := _) ((Keep.refl _ _ _).alloc (Nat.le_refl _) _) (Nat.le_refl _)).wide (by omega), (below_three (by omega) r3).alloc (by rw [three_size]; omega) _⟩
set_option maxRecDepth 100000 in
set_option maxHeartbeats 1600000 in
theorem sMul (A B C D : Option Addr) (lo up m n : Nat) (p q : Rat) (w : World) (hp : RatIn lo up w A B p) (hq : RatIn lo up w C D q) (hu : up ≤ w.heap.size) (hs : Sz m p) (ht : Sz n q) (hmn : m + n + 1 ≤ 262144) :
    Calls Tryz.prog 81 #[qv A B p, qv C D q] w fun e w' => ∃ E F, e = .returned (qv E F (p * q)) ∧ RatFresh w.heap.size w' E F (p * q) ∧ Below w.heap.size w w' := by
  obtain ⟨h1, h2, h3, h4, h5⟩ := three_new w (.cells #[.bool (decide (p.num < 0)), .slice A (qn p).length (qn p).length, .slice B (qd p).length (qd p).length] 45) (.cells #[.bool (decide (q.num < 0)), .slice C (qn q).length (qn q).length, .slice D (qd q).length (qd q).length] 45) (.cells #[.bool false, .slice none 0 0, .slice none 0 0] 45)
  have HC := Lib.hid (rMulQ A B C D lo up m n p q _ (hp.keep (Keep.of h5 hu)) (hq.keep (Keep.of h5 hu)) (by omega) hs ht hmn)
  clear hp hq hs ht h1 h2
  generalize p * q = r at *
  unfold qv at *
  go_enter Tryz.func81, Tryz.ntmps81
  ((try dsimp only); repeat (first | go_values | go_skip | go_guarded | go_step | go_upon))
  generalize World.alloc (World.alloc (World.alloc w _) _) _ = w3 at *
  refine HC.out.mono ?_
  rintro e w4 ⟨E, F, rfl, hf, hb⟩
  have hs4 := hb.size
  have hr := (hb.block (w.heap.size + 2) (by omega)).trans h3
  have hlt : w.heap.size + 1 + 1 < w4.heap.size := by omega
  obtain ⟨d0, d1, d2, g0, g1, g2⟩ := row3 (g := w.heap.size + 1 + 1) hr
  have HF := Lib.hid (And.intro hr (And.intro hf (And.intro (h5.trans (hb.mono (by omega))) h4)))
  clear hr hf hb h3 h5
  ((try dsimp only); repeat (first | go_values | go_skip | go_guarded | go_step | go_upon))
  obtain ⟨r1, r2, r3, r4⟩ := HF.out
  refine bodyPost_ret (results_cell_row rfl _ _ (w.heap.size + 2) _ _ _ _ rfl (alloc_old (heap_set_three r1 _ _ _)) rfl rfl rfl) rfl ?_
  have f1 := rat_three (x := .bool (decide (r.num < 0))) (y := .slice E (qn r).length (qn r).length) (z := .slice F (qd r).length (qd r).length) (show w.heap.size + 2 < w3.heap.size by omega) r2
  exact ⟨E, F, rfl, (f1.keep (up := _) ((Keep.refl _ _ _).alloc (Nat.le_refl _) _) (Nat.le_refl _)).wide (by omega), (below_three (by omega) r3).alloc (by rw [three_size]; omega) _⟩
set_option maxRecDepth 100000 in
set_option maxHeartbeats 1600000 in
theorem sAdd (A B C D : Option Addr) (lo up m n : Nat) (p q : Rat) (w : World) (hp : RatIn lo up w A B p) (hq : RatIn lo up w C D q) (hu : up ≤ w.heap.size) (hs : Sz m p) (ht : Sz n q) (hmn : m + n + 1 ≤ 262144) :
    Calls Tryz.prog 105 #[qv A B p, qv C D q] w fun e w' => ∃ E F, e = .returned (qv E F (p + q)) ∧ RatFresh w.heap.size w' E F (p + q) ∧ Below w.heap.size w w' := by
  obtain ⟨h1, h2, h3, h4, h5⟩ := three_new w (.cells #[.bool (decide (p.num < 0)), .slice A (qn p).length (qn p).length, .slice B (qd p).length (qd p).length] 45) (.cells #[.bool (decide (q.num < 0)), .slice C (qn q).length (qn q).length, .slice D (qd q).length (qd q).length] 45) (.cells #[.bool false, .slice none 0 0, .slice none 0 0] 45)
  have HC := Lib.hid (rAddQ A B C D lo up m n p q _ (hp.keep (Keep.of h5 hu)) (hq.keep (Keep.of h5 hu)) (by omega) hs ht hmn)
  clear hp hq hs ht h1 h2
  generalize p + q = r at *
  unfold qv at *
  go_enter Tryz.func105, Tryz.ntmps105
  ((try dsimp only); repeat (first | go_values | go_skip | go_guarded | go_step | go_upon))
  generalize World.alloc (World.alloc (World.alloc w _) _) _ = w3 at *
  refine HC.out.mono ?_
  rintro e w4 ⟨E, F, rfl, hf, hb⟩
  have hs4 := hb.size
  have hr := (hb.block (w.heap.size + 2) (by omega)).trans h3
  have hlt : w.heap.size + 1 + 1 < w4.heap.size := by omega
  obtain ⟨d0, d1, d2, g0, g1, g2⟩ := row3 (g := w.heap.size + 1 + 1) hr
  have HF := Lib.hid (And.intro hr (And.intro hf (And.intro (h5.trans (hb.mono (by omega))) h4)))
  clear hr hf hb h3 h5
  ((try dsimp only); repeat (first | go_values | go_skip | go_guarded | go_step | go_upon))
  obtain ⟨r1, r2, r3, r4⟩ := HF.out
  refine bodyPost_ret (results_cell_row rfl _ _ (w.heap.size + 2) _ _ _ _ rfl (alloc_old (heap_set_three r1 _ _ _)) rfl rfl rfl) rfl ?_
  have f1 := rat_three (x := .bool (decide (r.num < 0))) (y := .slice E (qn r).length (qn r).length) (z := .slice F (qd r).length (qd r).length) (show w.heap.size + 2 < w3.heap.size by omega) r2
  exact ⟨E, F, rfl, (f1.keep (up := _) ((Keep.refl _ _ _).alloc (Nat.le_refl _) _) (Nat.le_refl _)).wide (by omega), (below_three (by omega) r3).alloc (by rw [three_size]; omega) _⟩
set_option maxRecDepth 100000 in
set_option maxHeartbeats 1600000 in
theorem sVector (p : Pt) (w : World) (fp : FinP p) : Calls Tryz.prog 61 #[pt p] w fun e w' => ∃ E F G H, e = .returned (pv E F G H (pl p)) ∧ PlFresh w.heap.size w' E F G H (pl p) ∧ Below w.heap.size w w' := by
  have HV1 := Lib.hid (fun wz => vValue p.1 wz fp.1)
  have HV2 := Lib.hid (fun wz => vValue p.2 wz fp.2)
  have hk : ∀ o1 o2, Keep 0 w.heap.size w ((w.alloc o1).alloc o2) := fun o1 o2 => ((Keep.refl _ _ _).alloc (Nat.le_refl _) _).alloc (by rw [World.size_alloc]; omega) _
  obtain ⟨n1, n2⟩ := two_blocks w (.cells #[.int .u64 p.1, .int .u64 p.2] 77) (.cells #[.bool false, .slice none 0 0, .slice none 0 0, .bool false, .slice none 0 0, .slice none 0 0] 89)
  have hbw : Below w.heap.size w ((w.alloc (.cells #[.int .u64 p.1, .int .u64 p.2] 77)).alloc (.cells #[.bool false, .slice none 0 0, .slice none 0 0, .bool false, .slice none 0 0, .slice none 0 0] 89)) := (by repeat (first | exact Below.refl _ _ | refine belowN ?_ _ | refine Below.drew ?_ | refine Below.alloc ?_ (by first | exact Nat.le_refl _ | (simp; done) | (simp; omega) | omega) _))
  have hsz : ((w.alloc (.cells #[.int .u64 p.1, .int .u64 p.2] 77)).alloc (.cells #[.bool false, .slice none 0 0, .slice none 0 0, .bool false, .slice none 0 0, .slice none 0 0] 89)).heap.size = w.heap.size + 2 := by simp only [World.size_alloc]
  have HP : Hid (pl p = (fval p.1, fval p.2)) := Lib.hid rfl
  rw [HP.out]
  generalize fval p.1 = z1 at *
  generalize fval p.2 = z2 at *
  unfold pv pt
  unfold qv at *
  go_enter Tryz.func61, Tryz.ntmps61
  ((try dsimp only); repeat (first | go_values | go_skip | go_guarded | go_step | go_upon))
  generalize World.alloc (World.alloc w _) _ = w2 at *
  refine (HV1.out w2).mono ?_
  rintro e w3 ⟨E, F, rfl, hf, hb⟩
  have s3 := hb.size
  obtain ⟨b0, b1⟩ := row2 ((hb.block w.heap.size (by omega)).trans n1)
  have HA := Lib.hid (And.intro ((hb.block (w.heap.size + 1) (by omega)).trans n2) (And.intro hf (hbw.trans (hb.mono (by omega)))))
  have t1 : w.heap.size < w3.heap.size := by omega
  clear hb hf n1 n2 hbw hk
  ((try dsimp only); repeat (first | go_values | go_skip | go_guarded | go_step | go_upon))
  refine (HV2.out _).mono ?_
  rintro e w4 ⟨E2, F2, rfl, hf, hb⟩
  have s4 := hb.size
  rw [World.size_alloc] at s4 hb hf
  obtain ⟨c0, c1, c2, _⟩ := row3 ((hb.block w3.heap.size (by omega)).trans (alloc_new w3 _))
  have hrow := (hb.block (w.heap.size + 1) (by omega)).trans (alloc_old HA.out.1)
  obtain ⟨d0, d1, d2, d3, d4, d5, g0, g1, g2, g3, g4, g5⟩ := row6 hrow
  have hk45 : Keep w2.heap.size w3.heap.size w3 w4 := fun i h1 h2 => (hb.block i (by omega)).trans (Below.heap_alloc w3 _ i h2)
  have HB := Lib.hid (And.intro hrow (And.intro hf (And.intro (HA.out.2.1.keep hk45 (Nat.le_refl _)) ((HA.out.2.2.alloc (by omega) _).trans (hb.mono (by omega))))))
  have t3 : w3.heap.size < w4.heap.size := by omega
  have t4 : w.heap.size + 1 < w4.heap.size := by omega
  clear hb hf hk45 hrow HA b0 b1
  ((try dsimp only); repeat (first | go_values | go_skip | go_guarded | go_step | go_upon))
  obtain ⟨hrow, hf2, hf1, hbw⟩ := HB.out
  obtain ⟨hr, hk, hbl⟩ := six_new hrow (by omega) (.bool (decide (z1.num < 0))) (.slice E (qn z1).length (qn z1).length) (.slice F (qd z1).length (qd z1).length) (.bool (decide (z2.num < 0))) (.slice E2 (qn z2).length (qn z2).length) (.slice F2 (qd z2).length (qd z2).length) hbw
  refine bodyPost_ret (results_cell_row rfl _ _ (w.heap.size + 1) _ _ _ _ rfl (alloc_old hr) rfl rfl rfl) rfl ?_
  refine ⟨E, F, E2, F2, rfl, ⟨?_, ?_⟩, hbl.alloc (by rw [sixSet_size]; omega) _⟩
  · refine (RatFresh.keep (up := (sixSet (w.heap.size + 1) 0 _ _ _ _ _ _ w4).heap.size) (RatFresh.keep hf1 (hk _ (by omega) _) (Nat.le_refl _)) ((Keep.refl _ _ _).alloc (Nat.le_refl _) _) (Nat.le_of_eq rfl)).wide (by omega)
  · refine (RatFresh.keep (up := (sixSet (w.heap.size + 1) 0 _ _ _ _ _ _ w4).heap.size) (RatFresh.keep hf2 (hk _ (by omega) _) (Nat.le_refl _)) ((Keep.refl _ _ _).alloc (Nat.le_refl _) _) (Nat.le_of_eq rfl)).wide (by omega)
end Go.Proofs.YtggfppgjabembaaGreatDoor

namespace Go.Proofs.YtggfppgjabembaaGreatDoor
open Go.RowKit Go.Proofs.YtggfppgjabembaaGreatDoorW.PrintLast
set_option linter.unusedVariables false
set_option linter.unusedSimpArgs false
structure VecS (w0 : World) (n : Nat) (R : Obj) (A B C D A2 B2 C2 D2 : Option Addr) (x y : Pl) (w : World) : Prop where
  b : Below n w0 w
  s1 : Six w n 0 A B C D x
  s2 : Six w (n + 1) 0 A2 B2 C2 D2 y
  r : w.heap[n + 2]? = some R
theorem VecS.keep {w0 w w' : World} {n : Nat} {R : Obj} {A B C D A2 B2 C2 D2 : Option Addr} {x y : Pl} (h : VecS w0 n R A B C D A2 B2 C2 D2 x y w) (k : Below w.heap.size w w') : VecS w0 n R A B C D A2 B2 C2 D2 x y w' :=
  have e := heap_lt h.r
  ⟨h.b.trans (k.mono (by omega)), h.s1.keep k (by omega), h.s2.keep k (by omega), (k.block _ e).trans h.r⟩
set_option maxRecDepth 100000 in
set_option maxHeartbeats 3200000 in
theorem vMinus (A B C D A2 B2 C2 D2 : Option Addr) (lo up m n : Nat) (x y : Pl) (w : World) (hp : PlIn lo up w A B C D x) (hq : PlIn lo up w A2 B2 C2 D2 y) (hu : up ≤ w.heap.size) (hs : PSz m x) (ht : PSz n y) (hmn : m + n + 1 ≤ 262144) :
    Calls Tryz.prog 62 #[pv A B C D x, pv A2 B2 C2 D2 y] w fun e w' => ∃ E F G H, e = .returned (pv E F G H (x.1 - y.1, x.2 - y.2)) ∧ PlFresh w.heap.size w' E F G H (x.1 - y.1, x.2 - y.2) ∧ Below w.heap.size w w' := by
  obtain ⟨h1, h2, h3, h4, h5⟩ := three_new w (.cells #[.bool (decide (x.1.num < 0)), .slice A (qn x.1).length (qn x.1).length, .slice B (qd x.1).length (qd x.1).length, .bool (decide (x.2.num < 0)), .slice C (qn x.2).length (qn x.2).length, .slice D (qd x.2).length (qd x.2).length] 89) (.cells #[.bool (decide (y.1.num < 0)), .slice A2 (qn y.1).length (qn y.1).length, .slice B2 (qd y.1).length (qd y.1).length, .bool (decide (y.2.num < 0)), .slice C2 (qn y.2).length (qn y.2).length, .slice D2 (qd y.2).length (qd y.2).length] 89) (.cells #[.bool false, .slice none 0 0, .slice none 0 0, .bool false, .slice none 0 0, .slice none 0 0] 89)
  have HC : Hid (∀ wz, Below w.heap.size w wz → _ ∧ _) := Lib.hid (fun wz (hz : Below w.heap.size w wz) => And.intro (sSub A B A2 B2 lo up m n x.1 y.1 wz (hp.h1.keep (Keep.of hz hu)) (hq.h1.keep (Keep.of hz hu)) (Nat.le_trans hu hz.size) hs.1 ht.1 hmn) (sSub C D C2 D2 lo up m n x.2 y.2 wz (hp.h2.keep (Keep.of hz hu)) (hq.h2.keep (Keep.of hz hu)) (Nat.le_trans hu hz.size) hs.2 ht.2 hmn))
  clear hp hq hs ht
  generalize x.1 - y.1 = z1 at *
  generalize x.2 - y.2 = z2 at *
  unfold pv
  go_enter Tryz.func62, Tryz.ntmps62
  ((try dsimp only); repeat (first | go_values | go_skip | go_guarded | go_step | go_upon))
  generalize World.alloc (World.alloc (World.alloc w _) _) _ = w3 at *
  have hS : VecS w w.heap.size (.cells #[.bool false, .slice none 0 0, .slice none 0 0, .bool false, .slice none 0 0, .slice none 0 0] 89 (0, 0)) A B C D A2 B2 C2 D2 x y w3.drew := ⟨h5.drew, (Six.row h1 : Six w3 _ 0 _ _ _ _ _).keep (Below.refl w3.heap.size w3).drew (by omega), (Six.row h2 : Six w3 _ 0 _ _ _ _ _).keep (Below.refl w3.heap.size w3).drew (by omega), h3⟩
  clear h1 h2 h3 h5
  refine start_ (n := 12) (S := fun w' => VecS w w.heap.size (.cells #[.bool false, .slice none 0 0, .slice none 0 0, .bool false, .slice none 0 0, .slice none 0 0] 89 (0, 0)) A B C D A2 B2 C2 D2 x y w') (ds := [11]) (bt 12 0) (by kernel_rfl) rfl rfl (hS) (fun hHeld => ?_)
  refine pv_ 0 5 ?_
  refine ld_ 1 6 ?_ hHeld ?_ ?_; rotate_left
  · rintro w' ⟨_, ⟨q0, q1, q2, q3, q4, q5⟩, ⟨r0, r1, r2, r3, r4, r5⟩, _⟩
    go_simp; with_reducible rfl
  refine pv_ 2 7 ?_
  refine ld_ 3 8 ?_ hHeld ?_ ?_; rotate_left
  · rintro w' ⟨_, ⟨q0, q1, q2, q3, q4, q5⟩, ⟨r0, r1, r2, r3, r4, r5⟩, _⟩
    go_simp; with_reducible rfl
  refine pv_ 5 10 ?_
  refine ld_ 6 11 ?_ hHeld ?_ ?_; rotate_left
  · rintro w' ⟨_, ⟨q0, q1, q2, q3, q4, q5⟩, ⟨r0, r1, r2, r3, r4, r5⟩, _⟩
    go_simp; with_reducible rfl
  refine pv_ 7 12 ?_
  refine ld_ 8 13 ?_ hHeld ?_ ?_; rotate_left
  · rintro w' ⟨_, ⟨q0, q1, q2, q3, q4, q5⟩, ⟨r0, r1, r2, r3, r4, r5⟩, _⟩
    go_simp; with_reducible rfl
  refine ca 4 9 Tryz.func80 rfl rfl (by kernel_rfl) (by decide) (by kernel_rfl) rfl #[qv A B x.1, qv A2 B2 y.1] (by rfl) rfl (by first | rfl | (simp [Act.eval]; done) | (simp [Act.eval, qv]; done) | (go_simp; rfl)) ?_
  with_reducible refine ((HC.out _ hHeld.b).1).mono ?_
  rintro e w' ⟨E, F, rfl, hf1, hb1⟩
  unfold qv
  refine ⟨_, rfl, (by first | (exact hHeld.keep hb2) | (exact hHeld.keep hb1)), fun hHeld => ?_⟩
  refine nn ?_
  refine ca 9 14 Tryz.func80 rfl rfl (by kernel_rfl) (by decide) (by kernel_rfl) rfl #[qv C D x.2, qv C2 D2 y.2] (by rfl) rfl (by first | rfl | (simp [Act.eval]; done) | (simp [Act.eval, qv]; done) | (go_simp; rfl)) ?_
  with_reducible refine ((HC.out _ hHeld.b).2).mono ?_
  rintro e w' ⟨E2, F2, rfl, hf2, hb2⟩
  unfold qv
  refine ⟨_, rfl, (by first | (exact hHeld.keep hb2) | (exact hHeld.keep hb1)), fun hHeld => ?_⟩
  refine nn ?_
  refine pv_ 10 15 ?_
  refine last_ (i := 11) (N := none) (bt 12 4095) rfl rfl (by kernel_rfl) (by decide) (fun K hK => ?_)
  have hsz := heap_lt hHeld.r
  have HZ := Lib.hid (And.intro hHeld.r (And.intro hHeld.b (And.intro (hf1.keep (Keep.of hb2 (Nat.le_refl _)) (Nat.le_refl _)) hf2)))
  obtain ⟨d0, d1, d2, d3, d4, d5, g0, g1, g2, g3, g4, g5⟩ := row6 hHeld.r
  have HS1 := Lib.hid hb1.size
  have HS2 := Lib.hid hb2.size
  clear hHeld hf1 hf2 hb1 hb2
  refine skip_ (w1 := ?_) (by rfl) rfl ?_ ?_
  rotate_left
  · go_simp
    rfl
  refine hK.out _ _ ?_
  clear hK K
  refine done_ (by kernel_rfl) ?_
  ((try dsimp only); repeat (first | go_values | go_skip | go_guarded | go_step | go_upon))
  obtain ⟨k1, k2, k3, k4⟩ := HZ.out
  have u1 := HS1.out
  have u2 := HS2.out
  obtain ⟨hr, hk, hbl⟩ := six_new k1 (show w.heap.size ≤ w.heap.size + 2 by omega) (.bool (decide (z1.num < 0))) (.slice E (qn z1).length (qn z1).length) (.slice F (qd z1).length (qd z1).length) (.bool (decide (z2.num < 0))) (.slice E2 (qn z2).length (qn z2).length) (.slice F2 (qd z2).length (qd z2).length) k2
  refine bodyPost_ret (results_cell_row rfl _ _ (w.heap.size + 2) _ _ _ _ rfl hr rfl rfl rfl) rfl ?_
  have h4' : w3.drew.heap.size = w.heap.size + 3 := h4
  exact ⟨E, F, E2, F2, rfl, ⟨(k3.off k1 (by decide) (fun i h => sixSet_other i h)).wide (by omega), (k4.off k1 (by decide) (fun i h => sixSet_other i h)).wide (by omega)⟩, hbl⟩
set_option maxRecDepth 100000 in
set_option maxHeartbeats 3200000 in
theorem vTurn (A B C D A2 B2 C2 D2 : Option Addr) (lo up m n : Nat) (x y : Pl) (w : World) (hp : PlIn lo up w A B C D x) (hq : PlIn lo up w A2 B2 C2 D2 y) (hu : up ≤ w.heap.size) (hs : PSz m x) (ht : PSz n y) (hmn : 2 * (m + n) + 1 ≤ 262144) :
    Calls Tryz.prog 41 #[pv A B C D x, pv A2 B2 C2 D2 y] w fun e w' => ∃ E F, e = .returned (qv E F (x.1 * y.2 - x.2 * y.1)) ∧ RatFresh w.heap.size w' E F (x.1 * y.2 - x.2 * y.1) ∧ Below w.heap.size w w' := by
  obtain ⟨h1, h2, h3, h4, h5⟩ := three_new w (.cells #[.bool (decide (x.1.num < 0)), .slice A (qn x.1).length (qn x.1).length, .slice B (qd x.1).length (qd x.1).length, .bool (decide (x.2.num < 0)), .slice C (qn x.2).length (qn x.2).length, .slice D (qd x.2).length (qd x.2).length] 89) (.cells #[.bool (decide (y.1.num < 0)), .slice A2 (qn y.1).length (qn y.1).length, .slice B2 (qd y.1).length (qd y.1).length, .bool (decide (y.2.num < 0)), .slice C2 (qn y.2).length (qn y.2).length, .slice D2 (qd y.2).length (qd y.2).length] 89) (.cells #[.bool false, .slice none 0 0, .slice none 0 0] 45)
  have HC : Hid (∀ wz, Below w.heap.size w wz → _ ∧ _) := Lib.hid (fun wz (hz : Below w.heap.size w wz) => And.intro (sMul A B C2 D2 lo up m n x.1 y.2 wz (hp.h1.keep (Keep.of hz hu)) (hq.h2.keep (Keep.of hz hu)) (Nat.le_trans hu hz.size) hs.1 ht.2 (by omega)) (sMul C D A2 B2 lo up m n x.2 y.1 wz (hp.h2.keep (Keep.of hz hu)) (hq.h1.keep (Keep.of hz hu)) (Nat.le_trans hu hz.size) hs.2 ht.1 (by omega)))
  have HSz := Lib.hid (And.intro (hs.1.mul ht.2) (hs.2.mul ht.1))
  clear hp hq hs ht
  generalize x.1 * y.2 = z1 at *
  generalize x.2 * y.1 = z2 at *
  have HD := Lib.hid (fun (E F E2 F2 : Option Addr) (up wz) (h1 : RatIn 0 up wz E F z1) (h2 : RatIn 0 up wz E2 F2 z2) (hz : up ≤ wz.heap.size) => sSub E F E2 F2 0 up (m + n) (m + n) z1 z2 wz h1 h2 hz HSz.out.1 HSz.out.2 (by omega))
  generalize z1 - z2 = r at *
  unfold pv
  go_enter Tryz.func41, Tryz.ntmps41
  ((try dsimp only); repeat (first | go_values | go_skip | go_guarded | go_step | go_upon))
  generalize World.alloc (World.alloc (World.alloc w _) _) _ = w3 at *
  have hS : VecS w w.heap.size (.cells #[.bool false, .slice none 0 0, .slice none 0 0] 45 (0, 0)) A B C D A2 B2 C2 D2 x y w3.drew := ⟨h5.drew, (Six.row h1 : Six w3 _ 0 _ _ _ _ _).keep (Below.refl w3.heap.size w3).drew (by omega), (Six.row h2 : Six w3 _ 0 _ _ _ _ _).keep (Below.refl w3.heap.size w3).drew (by omega), h3⟩
  clear h1 h2 h3 h5
  refine start_ (n := 12) (S := fun w' => VecS w w.heap.size (.cells #[.bool false, .slice none 0 0, .slice none 0 0] 45 (0, 0)) A B C D A2 B2 C2 D2 x y w') (ds := [11]) (bt 12 0) (by kernel_rfl) rfl rfl (hS) (fun hHeld => ?_)
  refine pv_ 0 5 ?_
  refine ld_ 1 6 ?_ hHeld ?_ ?_; rotate_left
  · rintro w' ⟨_, ⟨q0, q1, q2, q3, q4, q5⟩, ⟨r0, r1, r2, r3, r4, r5⟩, _⟩
    go_simp; with_reducible rfl
  refine pv_ 2 7 ?_
  refine ld_ 3 8 ?_ hHeld ?_ ?_; rotate_left
  · rintro w' ⟨_, ⟨q0, q1, q2, q3, q4, q5⟩, ⟨r0, r1, r2, r3, r4, r5⟩, _⟩
    go_simp; with_reducible rfl
  refine pv_ 5 10 ?_
  refine ld_ 6 11 ?_ hHeld ?_ ?_; rotate_left
  · rintro w' ⟨_, ⟨q0, q1, q2, q3, q4, q5⟩, ⟨r0, r1, r2, r3, r4, r5⟩, _⟩
    go_simp; with_reducible rfl
  refine pv_ 7 12 ?_
  refine ld_ 8 13 ?_ hHeld ?_ ?_; rotate_left
  · rintro w' ⟨_, ⟨q0, q1, q2, q3, q4, q5⟩, ⟨r0, r1, r2, r3, r4, r5⟩, _⟩
    go_simp; with_reducible rfl
  refine ca 4 9 Tryz.func81 rfl rfl (by kernel_rfl) (by decide) (by kernel_rfl) rfl #[qv A B x.1, qv C2 D2 y.2] (by rfl) rfl (by first | rfl | (simp [Act.eval]; done) | (simp [Act.eval, qv]; done) | (go_simp; rfl)) ?_
  with_reducible refine ((HC.out _ hHeld.b).1).mono ?_
  rintro e w' ⟨E, F, rfl, hf1, hb1⟩
  unfold qv
  refine ⟨_, rfl, (by first | (exact hHeld.keep hb3) | (exact hHeld.keep hb2) | (exact hHeld.keep hb1)), fun hHeld => ?_⟩
  refine nn ?_
  refine ca 9 14 Tryz.func81 rfl rfl (by kernel_rfl) (by decide) (by kernel_rfl) rfl #[qv C D x.2, qv A2 B2 y.1] (by rfl) rfl (by first | rfl | (simp [Act.eval]; done) | (simp [Act.eval, qv]; done) | (go_simp; rfl)) ?_
  with_reducible refine ((HC.out _ hHeld.b).2).mono ?_
  rintro e w' ⟨E2, F2, rfl, hf2, hb2⟩
  unfold qv
  refine ⟨_, rfl, (by first | (exact hHeld.keep hb3) | (exact hHeld.keep hb2) | (exact hHeld.keep hb1)), fun hHeld => ?_⟩
  refine nn ?_
  refine ca 10 15 Tryz.func80 rfl rfl (by kernel_rfl) (by decide) (by kernel_rfl) rfl #[qv E F z1, qv E2 F2 z2] (by rfl) rfl (by first | rfl | (simp [Act.eval]; done) | (simp [Act.eval, qv]; done) | (go_simp; rfl)) ?_
  with_reducible refine (HD.out E F E2 F2 _ _ (((hf1.ins.keep (Keep.of hb2 (Nat.le_refl _))).wide (Nat.zero_le _) hb2.size)) (hf2.ins.wide (Nat.zero_le _) (Nat.le_refl _)) (Nat.le_refl _)).mono ?_
  rintro e w' ⟨E3, F3, rfl, hf3, hb3⟩
  unfold qv
  refine ⟨_, rfl, (by first | (exact hHeld.keep hb3) | (exact hHeld.keep hb2) | (exact hHeld.keep hb1)), fun hHeld => ?_⟩
  refine nn ?_
  refine last_ (i := 11) (N := none) (bt 12 4095) rfl rfl (by kernel_rfl) (by decide) (fun K hK => ?_)
  have HZ := Lib.hid (And.intro hHeld.r (And.intro hHeld.b hf3))
  obtain ⟨d0, d1, d2, g0, g1, g2⟩ := row3 hHeld.r
  have HS1 := Lib.hid hb1.size
  have HS2 := Lib.hid hb2.size
  clear hHeld hf1 hf2 hf3 hb1 hb2 hb3
  refine skip_ (w1 := ?_) (by rfl) rfl ?_ ?_
  rotate_left
  · go_simp
    rfl
  refine hK.out _ _ ?_
  clear hK K
  refine done_ (by kernel_rfl) ?_
  ((try dsimp only); repeat (first | go_values | go_skip | go_guarded | go_step | go_upon))
  obtain ⟨k1, k2, k3⟩ := HZ.out
  have u1 := HS1.out
  have u2 := HS2.out
  refine bodyPost_ret (results_cell_row rfl _ _ (w.heap.size + 2) _ _ _ _ rfl (heap_set_three k1 _ _ _) rfl rfl rfl) rfl ?_
  have h4' : w3.drew.heap.size = w.heap.size + 3 := h4
  exact ⟨E3, F3, rfl, (rat_three (by omega) k3).wide (by omega), below_three (by omega) k2⟩
end Go.Proofs.YtggfppgjabembaaGreatDoor

namespace Go.Proofs.YtggfppgjabembaaGreatDoor
open Go.RowKit Go.Proofs.YtggfppgjabembaaGreatDoorW.PrintLast
set_option linter.unusedVariables false
set_option linter.unusedSimpArgs false
structure WayS (w0 : World) (n : Nat) (s0 s1 : Pt) (w : World) : Prop where
  b : Below n w0 w
  s : w.heap[n]? = some (.cells #[.int .u64 s0.1, .int .u64 s0.2, .int .u64 s1.1, .int .u64 s1.2] 80 (0, 0))
  r : w.heap[n + 1]? = some (.cells #[.bool false, .slice none 0 0, .slice none 0 0, .bool false, .slice none 0 0, .slice none 0 0] 89 (0, 0))
theorem WayS.keep {w0 w w' : World} {n : Nat} {s0 s1 : Pt} (h : WayS w0 n s0 s1 w) (k : Below w.heap.size w w') : WayS w0 n s0 s1 w' :=
  ⟨h.b.trans (k.mono (Nat.le_of_lt (heap_lt h.s))), (k.block _ (heap_lt h.s)).trans h.s, (k.block _ (heap_lt h.r)).trans h.r⟩
set_option maxRecDepth 100000 in
set_option maxHeartbeats 3200000 in
theorem sWay (s0 s1 : Pt) (w : World) (f0 : FinP s0) (f1 : FinP s1) :
    Calls Tryz.prog 40 #[st s0 s1] w fun e w' => ∃ E F G H, e = .returned (pv E F G H ((pl s1).1 - (pl s0).1, (pl s1).2 - (pl s0).2)) ∧ PlFresh w.heap.size w' E F G H ((pl s1).1 - (pl s0).1, (pl s1).2 - (pl s0).2) ∧ Below w.heap.size w w' := by
  obtain ⟨h1, h2⟩ := two_blocks w (.cells #[.int .u64 s0.1, .int .u64 s0.2, .int .u64 s1.1, .int .u64 s1.2] 80) (.cells #[.bool false, .slice none 0 0, .slice none 0 0, .bool false, .slice none 0 0, .slice none 0 0] 89)
  have hbw : Below w.heap.size w ((w.alloc (.cells #[.int .u64 s0.1, .int .u64 s0.2, .int .u64 s1.1, .int .u64 s1.2] 80)).alloc (.cells #[.bool false, .slice none 0 0, .slice none 0 0, .bool false, .slice none 0 0, .slice none 0 0] 89)) := (by repeat (first | exact Below.refl _ _ | refine belowN ?_ _ | refine Below.drew ?_ | refine Below.alloc ?_ (by first | exact Nat.le_refl _ | (simp; done) | (simp; omega) | omega) _))
  have h4 : ((w.alloc (.cells #[.int .u64 s0.1, .int .u64 s0.2, .int .u64 s1.1, .int .u64 s1.2] 80)).alloc (.cells #[.bool false, .slice none 0 0, .slice none 0 0, .bool false, .slice none 0 0, .slice none 0 0] 89)).heap.size = w.heap.size + 2 := by simp only [World.size_alloc]
  have HV := Lib.hid (fun wz => And.intro (sVector s1 wz f1) (sVector s0 wz f0))
  have HM := Lib.hid (fun (A B C D A2 B2 C2 D2 : Option Addr) (up : Nat) (wz : World) (hp : PlIn 0 up wz A B C D (pl s1)) (hq : PlIn 0 up wz A2 B2 C2 D2 (pl s0)) (hu : up ≤ wz.heap.size) => vMinus A B C D A2 B2 C2 D2 0 up 1075 1075 (pl s1) (pl s0) wz hp hq hu (pl_sz f1) (pl_sz f0) (by omega))
  generalize hzz : (((pl s1).1 - (pl s0).1, (pl s1).2 - (pl s0).2) : Pl) = z at *
  clear hzz
  unfold st
  unfold pt at HV
  go_enter Tryz.func40, Tryz.ntmps40
  ((try dsimp only); repeat (first | go_values | go_skip | go_guarded | go_step | go_upon))
  generalize World.alloc (World.alloc w _) _ = w2 at *
  have hS : WayS w w.heap.size s0 s1 w2.drew := ⟨hbw.drew, h1, h2⟩
  clear h1 h2 hbw
  refine start_ (n := 8) (S := fun w' => WayS w w.heap.size s0 s1 w') (ds := [7]) (bt 8 0) (by kernel_rfl) rfl rfl (hS) (fun hHeld => ?_)
  refine pv_ 0 3 ?_
  refine ld_ 1 4 ?_ hHeld ?_ ?_; rotate_left
  · rintro w' hs
    obtain ⟨q0, q1, q2, q3, _⟩ := row4f hs.s
    clear hs
    go_simp; with_reducible rfl
  refine pv_ 3 6 ?_
  refine ld_ 4 7 ?_ hHeld ?_ ?_; rotate_left
  · rintro w' hs
    obtain ⟨q0, q1, q2, q3, _⟩ := row4f hs.s
    clear hs
    go_simp; with_reducible rfl
  refine ca 2 5 Tryz.func61 rfl rfl (by kernel_rfl) (by decide) (by kernel_rfl) rfl #[.agg #[.int .u64 s1.1, .int .u64 s1.2]] (by rfl) rfl (by first | rfl | (simp [Act.eval]; done) | (simp [Act.eval, pv]; done) | (go_simp; rfl)) ?_
  with_reducible refine ((HV.out _).1).mono ?_
  rintro e w' ⟨E, F, G, I, rfl, hf1, hb1⟩
  refine ⟨_, rfl, (by first | (exact hHeld.keep hb3) | (exact hHeld.keep hb2) | (exact hHeld.keep hb1)), fun hHeld => ?_⟩
  refine nn ?_
  refine ca 5 8 Tryz.func61 rfl rfl (by kernel_rfl) (by decide) (by kernel_rfl) rfl #[.agg #[.int .u64 s0.1, .int .u64 s0.2]] (by rfl) rfl (by first | rfl | (simp [Act.eval]; done) | (simp [Act.eval, pv]; done) | (go_simp; rfl)) ?_
  with_reducible refine ((HV.out _).2).mono ?_
  rintro e w' ⟨E2, F2, G2, I2, rfl, hf2, hb2⟩
  refine ⟨_, rfl, (by first | (exact hHeld.keep hb3) | (exact hHeld.keep hb2) | (exact hHeld.keep hb1)), fun hHeld => ?_⟩
  refine nn ?_
  refine ca 6 9 Tryz.func62 rfl rfl (by kernel_rfl) (by decide) (by kernel_rfl) rfl #[pv E F G I (pl s1), pv E2 F2 G2 I2 (pl s0)] (by rfl) rfl (by first | rfl | (simp [Act.eval]; done) | (simp [Act.eval, pv]; done) | (go_simp; rfl)) ?_
  with_reducible refine (HM.out E F G I E2 F2 G2 I2 _ _ ((hf1.ins.keep (Keep.of hb2 (Nat.le_refl _))).wide (Nat.zero_le _) hb2.size) (hf2.ins.wide (Nat.zero_le _) (Nat.le_refl _)) (Nat.le_refl _)).mono ?_
  rintro e w' ⟨E3, F3, G3, I3, rfl, hf3, hb3⟩
  unfold pv
  refine ⟨_, rfl, (by first | (exact hHeld.keep hb3) | (exact hHeld.keep hb2) | (exact hHeld.keep hb1)), fun hHeld => ?_⟩
  refine nn ?_
  refine last_ (i := 7) (N := none) (bt 8 255) rfl rfl (by kernel_rfl) (by decide) (fun K hK => ?_)
  have HZ := Lib.hid (And.intro hHeld.r (And.intro hHeld.b hf3))
  obtain ⟨d0, d1, d2, d3, d4, d5, g0, g1, g2, g3, g4, g5⟩ := row6 hHeld.r
  have HS1 := Lib.hid hb1.size
  have HS2 := Lib.hid hb2.size
  clear hHeld hf1 hf2 hf3 hb1 hb2 hb3
  refine skip_ (w1 := ?_) (by rfl) rfl ?_ ?_
  rotate_left
  · go_simp
    rfl
  refine hK.out _ _ ?_
  clear hK K
  refine done_ (by kernel_rfl) ?_
  ((try dsimp only); repeat (first | go_values | go_skip | go_guarded | go_step | go_upon))
  obtain ⟨k1, k2, k3⟩ := HZ.out
  have u1 := HS1.out
  have u2 := HS2.out
  obtain ⟨hr, hk, hbl⟩ := six_new k1 (show w.heap.size ≤ w.heap.size + 1 by omega) (.bool (decide (z.1.num < 0))) (.slice E3 (qn z.1).length (qn z.1).length) (.slice F3 (qd z.1).length (qd z.1).length) (.bool (decide (z.2.num < 0))) (.slice G3 (qn z.2).length (qn z.2).length) (.slice I3 (qd z.2).length (qd z.2).length) k2
  refine bodyPost_ret (results_cell_row rfl _ _ (w.heap.size + 1) _ _ _ _ rfl hr rfl rfl rfl) rfl ?_
  have h4' : w2.drew.heap.size = w.heap.size + 2 := h4
  exact ⟨E3, F3, G3, I3, rfl, (k3.off k1 (by decide) (fun i h => sixSet_other i h)).wide (by omega), hbl⟩
structure VAlS (w0 : World) (n : Nat) (A B C D A1 B1 A2 B2 C2 D2 : Option Addr) (x : Pl) (t : Rat) (y : Pl) (w : World) : Prop where
  b : Below n w0 w
  s1 : Six w n 0 A B C D x
  s2 : Caught w (n + 1) A1 B1 t
  s3 : Six w (n + 1 + 1) 0 A2 B2 C2 D2 y
  r : w.heap[n + 1 + 1 + 1]? = some (.cells #[.bool false, .slice none 0 0, .slice none 0 0, .bool false, .slice none 0 0, .slice none 0 0] 89 (0, 0))
theorem VAlS.keep {w0 w w' : World} {n : Nat} {A B C D A1 B1 A2 B2 C2 D2 : Option Addr} {x : Pl} {t : Rat} {y : Pl} (h : VAlS w0 n A B C D A1 B1 A2 B2 C2 D2 x t y w) (k : Below w.heap.size w w') : VAlS w0 n A B C D A1 B1 A2 B2 C2 D2 x t y w' :=
  have e := heap_lt h.r
  ⟨h.b.trans (k.mono (by omega)), h.s1.keep k (by omega), h.s2.keep k (by omega), h.s3.keep k (by omega), (k.block _ e).trans h.r⟩
set_option maxRecDepth 100000 in
set_option maxHeartbeats 3200000 in
theorem vAlong (A B C D A1 B1 A2 B2 C2 D2 : Option Addr) (lo up m l n : Nat) (x : Pl) (t : Rat) (y : Pl) (w : World) (hp : PlIn lo up w A B C D x) (hk : RatIn lo up w A1 B1 t) (hq : PlIn lo up w A2 B2 C2 D2 y) (hu : up ≤ w.heap.size) (hs : PSz m x) (hl : Sz l t) (ht : PSz n y) (hmn : m + (l + n) + 1 ≤ 262144) :
    Calls Tryz.prog 83 #[pv A B C D x, qv A1 B1 t, pv A2 B2 C2 D2 y] w fun e w' => ∃ E F G H, e = .returned (pv E F G H (x.1 + t * y.1, x.2 + t * y.2)) ∧ PlFresh w.heap.size w' E F G H (x.1 + t * y.1, x.2 + t * y.2) ∧ Below w.heap.size w w' := by
  obtain ⟨h1, h2, h3, h4, h5, h6⟩ := four_new w (.cells #[.bool (decide (x.1.num < 0)), .slice A (qn x.1).length (qn x.1).length, .slice B (qd x.1).length (qd x.1).length, .bool (decide (x.2.num < 0)), .slice C (qn x.2).length (qn x.2).length, .slice D (qd x.2).length (qd x.2).length] 89) (.cells #[.bool (decide (t.num < 0)), .slice A1 (qn t).length (qn t).length, .slice B1 (qd t).length (qd t).length] 45) (.cells #[.bool (decide (y.1.num < 0)), .slice A2 (qn y.1).length (qn y.1).length, .slice B2 (qd y.1).length (qd y.1).length, .bool (decide (y.2.num < 0)), .slice C2 (qn y.2).length (qn y.2).length, .slice D2 (qd y.2).length (qd y.2).length] 89) (.cells #[.bool false, .slice none 0 0, .slice none 0 0, .bool false, .slice none 0 0, .slice none 0 0] 89)
  have HC : Hid (∀ wz, Below w.heap.size w wz → _ ∧ _) := Lib.hid (fun wz (hz : Below w.heap.size w wz) => And.intro (sMul A1 B1 A2 B2 lo up l n t y.1 wz (hk.keep (Keep.of hz hu)) (hq.h1.keep (Keep.of hz hu)) (Nat.le_trans hu hz.size) hl ht.1 (by omega)) (sMul A1 B1 C2 D2 lo up l n t y.2 wz (hk.keep (Keep.of hz hu)) (hq.h2.keep (Keep.of hz hu)) (Nat.le_trans hu hz.size) hl ht.2 (by omega)))
  have HP := Lib.hid (fun wz (hz : Below w.heap.size w wz) => (hp.keep (Keep.of hz hu)).wide (Nat.zero_le _) (Nat.le_trans hu hz.size))
  have HSz := Lib.hid (And.intro (hl.mul ht.1) (And.intro (hl.mul ht.2) hs))
  clear hp hq hk hs ht hl
  generalize hm1 : t * y.1 = m1 at *
  generalize hm2 : t * y.2 = m2 at *
  have HA1 := Lib.hid (fun (E F : Option Addr) (wz : World) (hz : Below w.heap.size w wz) (h : RatIn 0 wz.heap.size wz E F m1) => sAdd A B E F 0 wz.heap.size m (l + n) x.1 m1 wz (HP.out wz hz).h1 h (Nat.le_refl _) HSz.out.2.2.1 HSz.out.1 (by omega))
  have HA2 := Lib.hid (fun (E F : Option Addr) (wz : World) (hz : Below w.heap.size w wz) (h : RatIn 0 wz.heap.size wz E F m2) => sAdd C D E F 0 wz.heap.size m (l + n) x.2 m2 wz (HP.out wz hz).h2 h (Nat.le_refl _) HSz.out.2.2.2 HSz.out.2.1 (by omega))
  generalize x.1 + m1 = z1 at *
  generalize x.2 + m2 = z2 at *
  clear hm1 hm2
  unfold pv qv
  go_enter Tryz.func83, Tryz.ntmps83
  ((try dsimp only); repeat (first | go_values | go_skip | go_guarded | go_step | go_upon))
  generalize World.alloc (World.alloc (World.alloc (World.alloc w _) _) _) _ = w4 at *
  have hS : VAlS w w.heap.size A B C D A1 B1 A2 B2 C2 D2 x t y w4.drew := ⟨h6.drew, (Six.row h1 : Six w4 _ 0 _ _ _ _ _).keep (Below.refl w4.heap.size w4).drew (by omega), (caught_new h2 : Caught w4 _ _ _ _).keep (Below.refl w4.heap.size w4).drew (by omega), (Six.row h3 : Six w4 _ 0 _ _ _ _ _).keep (Below.refl w4.heap.size w4).drew (by omega), h4⟩
  clear h1 h2 h3 h4 h6
  refine start_ (n := 16) (S := fun w' => VAlS w w.heap.size A B C D A1 B1 A2 B2 C2 D2 x t y w') (ds := [15]) (bt 16 0) (by kernel_rfl) rfl rfl (hS) (fun hHeld => ?_)
  refine pv_ 0 7 ?_
  refine ld_ 1 8 ?_ hHeld ?_ ?_; rotate_left
  · rintro w' ⟨_, ⟨q0, q1, q2, q3, q4, q5⟩, ⟨s0, s1, s2⟩, ⟨r0, r1, r2, r3, r4, r5⟩, _⟩
    go_simp; with_reducible rfl
  refine ld_ 2 9 ?_ hHeld ?_ ?_; rotate_left
  · rintro w' ⟨_, ⟨q0, q1, q2, q3, q4, q5⟩, ⟨s0, s1, s2⟩, ⟨r0, r1, r2, r3, r4, r5⟩, _⟩
    go_simp; with_reducible rfl
  refine pv_ 3 10 ?_
  refine ld_ 4 11 ?_ hHeld ?_ ?_; rotate_left
  · rintro w' ⟨_, ⟨q0, q1, q2, q3, q4, q5⟩, ⟨s0, s1, s2⟩, ⟨r0, r1, r2, r3, r4, r5⟩, _⟩
    go_simp; with_reducible rfl
  refine pv_ 7 14 ?_
  refine ld_ 8 15 ?_ hHeld ?_ ?_; rotate_left
  · rintro w' ⟨_, ⟨q0, q1, q2, q3, q4, q5⟩, ⟨s0, s1, s2⟩, ⟨r0, r1, r2, r3, r4, r5⟩, _⟩
    go_simp; with_reducible rfl
  refine ld_ 9 16 ?_ hHeld ?_ ?_; rotate_left
  · rintro w' ⟨_, ⟨q0, q1, q2, q3, q4, q5⟩, ⟨s0, s1, s2⟩, ⟨r0, r1, r2, r3, r4, r5⟩, _⟩
    go_simp; with_reducible rfl
  refine pv_ 10 17 ?_
  refine ld_ 11 18 ?_ hHeld ?_ ?_; rotate_left
  · rintro w' ⟨_, ⟨q0, q1, q2, q3, q4, q5⟩, ⟨s0, s1, s2⟩, ⟨r0, r1, r2, r3, r4, r5⟩, _⟩
    go_simp; with_reducible rfl
  refine ca 5 12 Tryz.func81 rfl rfl (by kernel_rfl) (by decide) (by kernel_rfl) rfl #[qv A1 B1 t, qv A2 B2 y.1] (by rfl) rfl (by first | rfl | (simp [Act.eval]; done) | (simp [Act.eval, qv]; done) | (go_simp; rfl)) ?_
  with_reducible refine ((HC.out _ hHeld.b).1).mono ?_
  rintro e w' ⟨E, F, rfl, hf1, hb1⟩
  unfold qv
  refine ⟨_, rfl, (by first | (exact hHeld.keep hb4) | (exact hHeld.keep hb3) | (exact hHeld.keep hb2) | (exact hHeld.keep hb1)), fun hHeld => ?_⟩
  refine nn ?_
  refine ca 6 13 Tryz.func105 rfl rfl (by kernel_rfl) (by decide) (by kernel_rfl) rfl #[qv A B x.1, qv E F m1] (by rfl) rfl (by first | rfl | (simp [Act.eval]; done) | (simp [Act.eval, qv]; done) | (go_simp; rfl)) ?_
  with_reducible refine (HA1.out E F _ hHeld.b (hf1.ins.wide (Nat.zero_le _) (Nat.le_refl _))).mono ?_
  rintro e w' ⟨E2, F2, rfl, hf2, hb2⟩
  unfold qv
  refine ⟨_, rfl, (by first | (exact hHeld.keep hb4) | (exact hHeld.keep hb3) | (exact hHeld.keep hb2) | (exact hHeld.keep hb1)), fun hHeld => ?_⟩
  refine nn ?_
  refine ca 12 19 Tryz.func81 rfl rfl (by kernel_rfl) (by decide) (by kernel_rfl) rfl #[qv A1 B1 t, qv C2 D2 y.2] (by rfl) rfl (by first | rfl | (simp [Act.eval]; done) | (simp [Act.eval, qv]; done) | (go_simp; rfl)) ?_
  with_reducible refine ((HC.out _ hHeld.b).2).mono ?_
  rintro e w' ⟨E3, F3, rfl, hf3, hb3⟩
  unfold qv
  refine ⟨_, rfl, (by first | (exact hHeld.keep hb4) | (exact hHeld.keep hb3) | (exact hHeld.keep hb2) | (exact hHeld.keep hb1)), fun hHeld => ?_⟩
  refine nn ?_
  refine ca 13 20 Tryz.func105 rfl rfl (by kernel_rfl) (by decide) (by kernel_rfl) rfl #[qv C D x.2, qv E3 F3 m2] (by rfl) rfl (by first | rfl | (simp [Act.eval]; done) | (simp [Act.eval, qv]; done) | (go_simp; rfl)) ?_
  with_reducible refine (HA2.out E3 F3 _ hHeld.b (hf3.ins.wide (Nat.zero_le _) (Nat.le_refl _))).mono ?_
  rintro e w' ⟨E4, F4, rfl, hf4, hb4⟩
  unfold qv
  refine ⟨_, rfl, (by first | (exact hHeld.keep hb4) | (exact hHeld.keep hb3) | (exact hHeld.keep hb2) | (exact hHeld.keep hb1)), fun hHeld => ?_⟩
  refine nn ?_
  refine pv_ 14 21 ?_
  refine last_ (i := 15) (N := none) (bt 16 65535) rfl rfl (by kernel_rfl) (by decide) (fun K hK => ?_)
  have HZ := Lib.hid (And.intro hHeld.r (And.intro hHeld.b (And.intro ((hf2.keep (Keep.of hb3 (Nat.le_refl _)) (Nat.le_refl _)).keep (Keep.of hb4 (Nat.le_refl _)) (Nat.le_refl _)) hf4)))
  obtain ⟨d0, d1, d2, d3, d4, d5, g0, g1, g2, g3, g4, g5⟩ := row6 hHeld.r
  have HS1 := Lib.hid (And.intro hb1.size (And.intro hb2.size (And.intro hb3.size hb4.size)))
  clear hHeld hf1 hf2 hf3 hf4 hb1 hb2 hb3 hb4
  refine skip_ (w1 := ?_) (by rfl) rfl ?_ ?_
  rotate_left
  · go_simp
    rfl
  refine hK.out _ _ ?_
  clear hK K
  refine done_ (by kernel_rfl) ?_
  ((try dsimp only); repeat (first | go_values | go_skip | go_guarded | go_step | go_upon))
  obtain ⟨k1, k2, k3, k4⟩ := HZ.out
  obtain ⟨u1, u2, u3, u4⟩ := HS1.out
  obtain ⟨hr, hkk, hbl⟩ := six_new k1 (show w.heap.size ≤ w.heap.size + 1 + 1 + 1 by omega) (.bool (decide (z1.num < 0))) (.slice E2 (qn z1).length (qn z1).length) (.slice F2 (qd z1).length (qd z1).length) (.bool (decide (z2.num < 0))) (.slice E4 (qn z2).length (qn z2).length) (.slice F4 (qd z2).length (qd z2).length) k2
  refine bodyPost_ret (results_cell_row rfl _ _ (w.heap.size + 1 + 1 + 1) _ _ _ _ rfl hr rfl rfl rfl) rfl ?_
  have h4' : w4.drew.heap.size = w.heap.size + 4 := h5
  exact ⟨E2, F2, E4, F4, rfl, ⟨(k3.off k1 (by decide) (fun i h => sixSet_other i h)).wide (by omega), (k4.off k1 (by decide) (fun i h => sixSet_other i h)).wide (by omega)⟩, hbl⟩
end Go.Proofs.YtggfppgjabembaaGreatDoor
