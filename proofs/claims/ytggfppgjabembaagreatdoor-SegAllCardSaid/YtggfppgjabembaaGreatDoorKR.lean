/- SegAll: where a pair stands in the list of all. -/
import Derived.Test.YtggfppgjabembaaGreatDoorKQ
import Derived.Test.YtggfppgjabembaaGreatDoorKA
import Derived.Test.YtggfppgjabembaaGreatDoorKH
namespace Go.Proofs.YtggfppgjabembaaGreatDoor
open Go.RowKit Go.Proofs.YtggfppgjabembaaGreatDoorW.PrintLast
set_option linter.unusedVariables false
set_option linter.unusedSimpArgs false
def negB (b : Int) : Int := if 9223372036854775808 ≤ b then b - 9223372036854775808 else b + 9223372036854775808
def negP (p : Pt) : Pt := (negB p.1, negB p.2)
theorem negB_fin {b : Int} (h : Fin64 b) : Fin64 (negB b) := by
  obtain ⟨h1, h2, h3⟩ := h
  unfold Fin64 negB fe at *
  split <;> refine ⟨?_, ?_, ?_⟩ <;> omega
theorem negP_fin {p : Pt} (h : FinP p) : FinP (negP p) := ⟨negB_fin h.1, negB_fin h.2⟩
theorem fval_negB {b : Int} (h : Fin64 b) : fval (negB b) = -fval b := by
  obtain ⟨h1, h2, h3⟩ := h
  have e1 : fe (negB b) = fe b := by unfold negB fe; split <;> omega
  have e2 : ff (negB b) = ff b := by unfold negB ff; split <;> omega
  have e3 : fneg (negB b) = !fneg b := by
    unfold negB fneg
    split
    · rename_i h; rw [decide_eq_true h]; exact decide_eq_false (by omega)
    · rename_i h; rw [decide_eq_false h]; exact decide_eq_true (by omega)
  unfold fval fnum fden fx fm
  rw [e1, e2, e3]
  unfold quo
  cases fneg b
  · simp
    exact Rat.neg_mkRat _ _ |>.symm
  · simp
    rw [Rat.neg_mkRat, Int.neg_neg]
theorem pl_negP {p : Pt} (h : FinP p) : pl (negP p) = (-(pl p).1, -(pl p).2) := by
  unfold pl negP
  rw [fval_negB h.1, fval_negB h.2]
theorem xor63 (a : Nat) (h : a < 2 ^ 64) : a ^^^ 2 ^ 63 = if 2 ^ 63 ≤ a then a - 2 ^ 63 else a + 2 ^ 63 := by
  split
  · rename_i h1
    obtain ⟨r, hr⟩ : ∃ r, a = 2 ^ 63 + r := ⟨a - 2 ^ 63, by omega⟩
    have hr1 : r < 2 ^ 63 := by omega
    subst hr
    rw [Nat.add_sub_cancel_left]
    apply Nat.eq_of_testBit_eq
    intro i
    have := Nat.two_pow_add_eq_or_of_lt hr1 1
    rw [Nat.mul_one] at this
    rw [this, Nat.testBit_xor, Nat.testBit_or, Nat.testBit_two_pow]
    by_cases h63 : 63 = i
    · subst h63; rw [Nat.testBit_lt_two_pow hr1]; simp
    · simp [h63]
  · rename_i h1
    have hr1 : a < 2 ^ 63 := by omega
    rw [Nat.add_comm]
    have := Nat.two_pow_add_eq_or_of_lt hr1 1
    rw [Nat.mul_one] at this
    rw [this]
    apply Nat.eq_of_testBit_eq
    intro i
    rw [Nat.testBit_xor, Nat.testBit_or, Nat.testBit_two_pow]
    by_cases h63 : 63 = i
    · subst h63; rw [Nat.testBit_lt_two_pow hr1]; simp
    · simp [h63]
theorem negB_xor {b : Int} (h : U64 b) : bits .xor .u64 b 9223372036854775808 = negB b := by
  obtain ⟨a, rfl⟩ := Int.eq_ofNat_of_zero_le h.1
  have h2 := h.2
  have e := bits_xor_u64_nat a 9223372036854775808 (by omega) (by decide)
  rw [show ((9223372036854775808 : Nat) : Int) = 9223372036854775808 from rfl] at e
  rw [e, show (9223372036854775808 : Nat) = 2 ^ 63 from rfl, xor63 a (by omega)]
  unfold negB
  split <;> split <;> omega
set_option maxRecDepth 100000 in
theorem lNeg (b : Int) (w : World) (h : U64 b) : Calls Tryz.prog 58 #[.int .u64 b] w fun e w' => e = .returned (.int .u64 (negB b)) ∧ w = w' := by
  have HB := Lib.hid (negB_xor h)
  go_enter Tryz.func58, Tryz.ntmps58
  ((try dsimp only); repeat (first | go_values | go_skip | go_guarded | go_step | go_upon))
  go_ret
  exact ⟨R1 HB.out, rfl⟩
set_option maxRecDepth 100000 in
theorem lTurned (p : Pt) (w : World) (hp : PtU p) : Calls Tryz.prog 23 #[pt p] w fun e w' => e = .returned (pt (negP p)) ∧ Below w.heap.size w w' := by
  have HF1 := Lib.hid (fun wz => lNeg p.1 wz hp.1)
  have HF2 := Lib.hid (fun wz => lNeg p.2 wz hp.2)
  have HS : Hid (negP p = (negB p.1, negB p.2)) := Lib.hid rfl
  generalize negB p.1 = f1 at *
  generalize negB p.2 = f2 at *
  have hS : SpS w w.heap.size p ((w.alloc (.cells #[.int .u64 p.1, .int .u64 p.2] 24)).alloc (.cells #[.int .u64 0, .int .u64 0] 24)) :=
    ⟨(by repeat (first | exact Below.refl _ _ | refine belowN ?_ _ | refine Below.drew ?_ | refine Below.alloc ?_ (by first | exact Nat.le_refl _ | (simp; done) | (simp; omega) | omega) _)), alloc_old (alloc_new _ _), alloc_at _ (by simp)⟩
  unfold pt at *
  go_enter Tryz.func23, Tryz.ntmps23
  ((try dsimp only); repeat (first | go_values | go_skip | go_guarded | go_step | go_upon))
  generalize (World.alloc (World.alloc w _) _) = w2 at *
  have hSd : SpS w w.heap.size p w2.drew := ⟨hS.b.drew, hS.p, hS.r⟩
  clear hS
  refine start_ (n := 8) (S := fun w' => SpS w w.heap.size p w') (ds := [7]) (bt 8 0) (by kernel_rfl) rfl rfl (hSd) (fun hHeld => ?_)
  refine pv_ 0 3 ?_
  refine ld_ 1 4 ?_ hHeld ?_ ?_; rotate_left
  · rintro w' hs
    obtain ⟨q0, q1⟩ := row2 hs.p
    clear hs
    go_simp; with_reducible rfl
  refine pv_ 3 6 ?_
  refine ld_ 4 7 ?_ hHeld ?_ ?_; rotate_left
  · rintro w' hs
    obtain ⟨q0, q1⟩ := row2 hs.p
    clear hs
    go_simp; with_reducible rfl
  refine ca_ 2 5 Tryz.func58 #[.int .u64 p.1] ?_
  with_reducible refine (HF1.out _).mono ?_
  rintro e w' ⟨rfl, rfl⟩
  refine ⟨_, rfl, (by exact hHeld), fun hHeld => ?_⟩
  refine nn ?_
  refine ca_ 5 8 Tryz.func58 #[.int .u64 p.2] ?_
  with_reducible refine (HF2.out _).mono ?_
  rintro e w' ⟨rfl, rfl⟩
  refine ⟨_, rfl, (by exact hHeld), fun hHeld => ?_⟩
  refine nn ?_
  refine pv_ 6 9 ?_
  refine last_ (i := 7) (N := none) (bt 8 255) rfl rfl (by kernel_rfl) (by decide) (fun K hK => ?_)
  have HZ := Lib.hid hHeld
  obtain ⟨z0, z1, z2, z3⟩ := row2f (w := w2) hHeld.r
  clear hHeld
  refine skip_ (w1 := ?_) (by rfl) rfl ?_ ?_
  rotate_left
  · go_simp
    rfl
  refine hK.out _ _ ?_
  clear hK K
  refine done_ (by kernel_rfl) ?_
  ((try dsimp only); repeat (first | go_values | go_skip | go_guarded | go_step | go_upon))
  refine bodyPost_ret (results_cell_row rfl _ _ (w.heap.size + 1) _ _ _ _ rfl (heap_set_two HZ.out.r _ _) rfl rfl rfl) rfl ?_
  exact ⟨by rw [HS.out], (HZ.out.b.setCell (by show _ ≤ w.heap.size + 1; omega) _).setCell (by show _ ≤ w.heap.size + 1; omega) _⟩
theorem lSame (A B : Option Addr) (c d : Nat) (xs : List Int) (w : World) (lo up lo2 up2 : Nat) (hA : WordsIn lo up w A xs) (hB : WordsIn lo2 up2 w B xs) (hl : xs.length ≤ 9223372036854775807) :
    Calls Tryz.prog 59 #[.slice A xs.length c, .slice B xs.length d] w fun e w' => e = .returned (.bool true) ∧ Below w.heap.size w w' := by
  go_enter Tryz.func59, Tryz.ntmps59
  go_wp2
  go_loopw [5] (fun i wr => ∃ k q : Nat, i = .int .i64 k ∧ wr = w.drewN q ∧ k ≤ xs.length) (fun i _ => xs.length - (intOf i).toNat)
  case atStart => exact ⟨0, 0, rfl, rfl, Nat.zero_le _⟩
  case round =>
    obtain ⟨k, q, rfl, hq, hk⟩ := hrel
    replace hA : WordsIn lo up wr A xs := hA.keep (by rw [hq]; exact Keep.refl _ _ _)
    replace hB : WordsIn lo2 up2 wr B xs := hB.keep (by rw [hq]; exact Keep.refl _ _ _)
    have HQ := Lib.hid hq
    clear hq
    by_cases h : k < xs.length
    · obtain ⟨b, o, rfl, hb1, hb2, hc⟩ := hA.at h
      obtain ⟨b', o', rfl, hb1', hb2', hc'⟩ := hB.at h
      clear hA hB
      generalize xs.getD k 0 = v at *
      go_wp2_with (fail)
      go_quiet (fail)
      go_wp2
      exact ⟨⟨k + 1, q + nq, vint (by omega), by rw [HQ.out, World.drewN_drewN], by omega⟩, by simp [intOf]; omega⟩
    · obtain rfl : k = xs.length := by omega
      go_wp2
      go_ret
      exact ⟨rfl, by rw [HQ.out]; exact belowN (Below.refl _ _) q⟩
end Go.Proofs.YtggfppgjabembaaGreatDoor

namespace Go.Proofs.YtggfppgjabembaaGreatDoor
open Go.RowKit
set_option linter.unusedVariables false
def TT (a b c d p : Pl) : Prop := btw a b p = true ∧ btw c d p = true ∧ (p = a ∨ p = b ∨ p = c ∨ p = d)
def nP (p : Pl) : Pl := (-p.1, -p.2)
theorem TT_ab {a b c d p : Pl} : TT a b c d p ↔ TT b a c d p := by
  unfold TT; rw [btw_swap a b]
  exact ⟨fun ⟨h1, h2, h3⟩ => ⟨h1, h2, by rcases h3 with h | h | h | h <;> simp [h]⟩, fun ⟨h1, h2, h3⟩ => ⟨h1, h2, by rcases h3 with h | h | h | h <;> simp [h]⟩⟩
theorem TT_cd {a b c d p : Pl} : TT a b c d p ↔ TT a b d c p := by
  unfold TT; rw [btw_swap c d]
  exact ⟨fun ⟨h1, h2, h3⟩ => ⟨h1, h2, by rcases h3 with h | h | h | h <;> simp [h]⟩, fun ⟨h1, h2, h3⟩ => ⟨h1, h2, by rcases h3 with h | h | h | h <;> simp [h]⟩⟩
theorem TT_sw {a b c d p : Pl} : TT a b c d p ↔ TT c d a b p := by
  unfold TT
  exact ⟨fun ⟨h1, h2, h3⟩ => ⟨h2, h1, by rcases h3 with h | h | h | h <;> simp [h]⟩, fun ⟨h1, h2, h3⟩ => ⟨h2, h1, by rcases h3 with h | h | h | h <;> simp [h]⟩⟩
theorem icmp_neg (x y : Int) : icmp (-x) (-y) = icmp y x := by
  unfold icmp
  rcases Int.lt_trichotomy x y with h | h | h
  · rw [if_neg (by omega), if_neg (by omega), if_neg (by omega), if_neg (by omega)]
  · rw [if_neg (by omega), if_pos (by omega), if_neg (by omega), if_pos (by omega)]
  · rw [if_pos (by omega), if_pos h]
theorem qcmp_neg (a b : Rat) : qcmp (-a) (-b) = qcmp b a := by
  unfold qcmp
  rw [Rat.neg_num, Rat.neg_num, Rat.neg_den, Rat.neg_den, Int.neg_mul, Int.neg_mul, icmp_neg]
theorem pcmp_neg (a b : Pl) : pcmp (nP a) (nP b) = pcmp b a := by
  unfold pcmp nP
  rw [qcmp_neg, qcmp_neg]
theorem area2_neg (a b c : Pl) : area2 (nP a) (nP b) (nP c) = area2 a b c := by unfold area2 nP; grind
theorem side3_neg (a b c : Pl) : side3 (nP a) (nP b) (nP c) = side3 a b c := by unfold side3; rw [area2_neg]
theorem btw_neg (a b p : Pl) : btw (nP a) (nP b) (nP p) = btw a b p := by
  unfold btw
  rw [side3_neg, pcmp_neg, pcmp_neg, pcmp_swap p a, pcmp_swap b p]
  congr 1
  rw [Bool.eq_iff_iff]
  simp
  omega
theorem nP_inj {a b : Pl} : nP a = nP b ↔ a = b := by
  constructor
  · intro h
    unfold nP at h
    rw [Prod.mk.injEq] at h
    have g1 := h.1
    have g2 := h.2
    exact Prod.ext (by grind) (by grind)
  · rintro rfl; rfl
theorem nP_nP (a : Pl) : nP (nP a) = a := by unfold nP; exact Prod.ext (Rat.neg_neg _) (Rat.neg_neg _)
theorem TT_neg {a b c d p : Pl} : TT (nP a) (nP b) (nP c) (nP d) (nP p) ↔ TT a b c d p := by
  unfold TT
  rw [btw_neg, btw_neg, nP_inj, nP_inj, nP_inj, nP_inj]
theorem ple_anti {a b : Pl} (h : pcmp a b ≤ 0) (k : pcmp b a ≤ 0) : a = b := by
  rw [pcmp_swap b a] at k
  exact pcmp_eq.1 (by omega)
structure Sym (T : Pl → Prop) (m : Mt) : Prop where
  k1 : m.proper = true → m.kind = 1
  k0 : m.proper = false → (∀ p, ¬ T p) → m.kind = 0
  ks : m.proper = false → ∀ p, T p → m.kind ≠ 0 ∧ T (pl m.P) ∧ (m.kind = 1 → p = pl m.P) ∧ (m.kind = 2 → pcmp (pl m.P) p ≤ 0 ∧ pcmp p (pl m.Q) ≤ 0 ∧ pcmp (pl m.P) (pl m.Q) < 0 ∧ T (pl m.Q))
  p0 : m.kind = 0 → pl m.P = (0, 0)
  q0 : m.kind ≠ 2 → pl m.Q = (0, 0)
  kd : m.kind = 0 ∨ m.kind = 1 ∨ m.kind = 2
theorem Sym.congr {T T' : Pl → Prop} {m : Mt} (h : ∀ p, T p ↔ T' p) (s : Sym T m) : Sym T' m := by
  have : T = T' := funext fun p => propext (h p)
  rw [← this]; exact s
theorem sym_same {T : Pl → Prop} {m n : Mt} (hm : Sym T m) (hn : Sym T n) (hp : m.proper = n.proper) (hX : m.proper = true → pl m.P = pl n.P) : m.kind = n.kind ∧ pl m.P = pl n.P ∧ pl m.Q = pl n.Q := by
  cases hh : m.proper
  · have hh2 : n.proper = false := by rw [← hp]; exact hh
    by_cases hT : ∃ p, T p
    · obtain ⟨p, hT⟩ := hT
      have a := hm.ks hh
      have b := hn.ks hh2
      obtain ⟨a1, a2, a3, a4⟩ := a p hT
      obtain ⟨b1, b2, b3, b4⟩ := b p hT
      have one : ∀ {m n : Mt}, (∀ p, T p → m.kind ≠ 0 ∧ T (pl m.P) ∧ (m.kind = 1 → p = pl m.P) ∧ (m.kind = 2 → pcmp (pl m.P) p ≤ 0 ∧ pcmp p (pl m.Q) ≤ 0 ∧ pcmp (pl m.P) (pl m.Q) < 0 ∧ T (pl m.Q))) →
          T (pl n.P) → (n.kind = 2 → pcmp (pl n.P) (pl n.Q) < 0 ∧ T (pl n.Q)) → m.kind = 1 → n.kind = 2 → False := by
        intro m n h hP hQ k1 k2
        have e1 := (h _ hP).2.2.1 k1
        have e2 := (h _ (hQ k2).2).2.2.1 k1
        have := (hQ k2).1
        rw [e1, e2, pcmp_self] at this
        omega
      rcases hm.kd with k | k | k
      · exact absurd k a1
      · rcases hn.kd with k' | k' | k'
        · exact absurd k' b1
        · exact ⟨by rw [k, k'], ((a _ b2).2.2.1 k).symm, by rw [hm.q0 (by omega), hn.q0 (by omega)]⟩
        · exact (one a b2 (fun k => ⟨(b4 k).2.2.1, (b4 k).2.2.2⟩) k k').elim
      · rcases hn.kd with k' | k' | k'
        · exact absurd k' b1
        · exact (one b a2 (fun k => ⟨(a4 k).2.2.1, (a4 k).2.2.2⟩) k' k).elim
        · refine ⟨by rw [k, k'], ple_anti ((a _ b2).2.2.2 k).1 ((b _ a2).2.2.2 k').1, ple_anti ((b _ (a4 k).2.2.2).2.2.2 k').2.1 ((a _ (b4 k').2.2.2).2.2.2 k).2.1⟩
    · have n1 : ∀ p, ¬ T p := fun p h => hT ⟨p, h⟩
      have a := hm.k0 hh n1
      have b := hn.k0 hh2 n1
      exact ⟨by rw [a, b], by rw [hm.p0 a, hn.p0 b], by rw [hm.q0 (by omega), hn.q0 (by omega)]⟩
  · have hh2 : n.proper = true := by rw [← hp]; exact hh
    have a := hm.k1 hh
    have b := hn.k1 hh2
    exact ⟨by rw [a, b], hX hh, by rw [hm.q0 (by omega), hn.q0 (by omega)]⟩
def turnM (n : Mt) : Mt := ⟨n.kind, n.proper, if n.kind = 2 then negP n.Q else negP n.P, if n.kind = 2 then negP n.P else negP n.Q⟩
theorem nP_zero : nP (0, 0) = (0, 0) := by unfold nP; exact Prod.ext (Rat.neg_zero) (Rat.neg_zero)
theorem Sym.turn {T T' : Pl → Prop} {n : Mt} (h : ∀ p, T' (nP p) ↔ T p) (s : Sym T' n) (fP : FinP n.P) (fQ : FinP n.Q) : Sym T (turnM n) := by
  have e1 : pl (negP n.P) = nP (pl n.P) := pl_negP fP
  have e2 : pl (negP n.Q) = nP (pl n.Q) := pl_negP fQ
  have back : ∀ p, T p → T' (nP p) := fun p => (h p).2
  have fwd : ∀ p, T' p → T (nP p) := fun p k => (h _).1 (by rw [nP_nP]; exact k)
  obtain ⟨k1, k0, ks, p0, q0, kd⟩ := s
  refine ⟨k1, fun a b => k0 a fun p k => b _ (fwd p k), fun a p k => ?_, fun a => ?_, fun a => ?_, kd⟩
  · obtain ⟨x1, x2, x3, x4⟩ := ks a _ (back p k)
    have a' : n.proper = false := a
    unfold turnM
    by_cases h2 : n.kind = 2
    · obtain ⟨y1, y2, y3, y4⟩ := x4 h2
      simp only [if_pos h2]
      rw [e1, e2]
      refine ⟨x1, fwd _ y4, fun e => by omega, fun _ => ⟨?_, ?_, ?_, fwd _ x2⟩⟩
      · rw [← nP_nP p, pcmp_neg]; exact y2
      · rw [← nP_nP p, pcmp_neg]; exact y1
      · rw [pcmp_neg]; exact y3
    · simp only [if_neg h2]
      rw [e1]
      exact ⟨x1, fwd _ x2, fun e => by rw [← x3 e, nP_nP], fun e => absurd e h2⟩
  · have a' : n.kind = 0 := a
    unfold turnM
    simp only [if_neg (show ¬ n.kind = 2 by omega)]
    rw [e1, p0 a', nP_zero]
  · have a' : n.kind ≠ 2 := a
    unfold turnM
    simp only [if_neg a']
    rw [e2, q0 a', nP_zero]
theorem pl_zero : pl (0, 0) = (0, 0) := by unfold pl; rw [fval_zero]
theorem loops_sym {s0 s1 t0 t1 : Pt} (hd : ∀ p q, TT (pl s0) (pl s1) (pl t0) (pl t1) p → TT (pl s0) (pl s1) (pl t0) (pl t1) q → p = q) : Sym (TT (pl s0) (pl s1) (pl t0) (pl t1)) (loops s0 s1 t0 t1) := by
  have tk : ∀ x : Pt, TT (pl s0) (pl s1) (pl t0) (pl t1) (pl x) → Sym (TT (pl s0) (pl s1) (pl t0) (pl t1)) (touch x) := fun x hx =>
    ⟨fun _ => rfl, fun _ h => absurd hx (h _), fun _ p hp => ⟨show (1:Int) ≠ 0 by decide, hx, fun _ => hd _ _ hp hx, fun e => by simp [touch] at e⟩, fun e => by simp [touch] at e, fun _ => pl_zero, Or.inr (Or.inl rfl)⟩
  unfold loops
  by_cases x1 : btw (pl s0) (pl s1) (pl t0) = true
  · rw [if_pos x1]; exact tk _ ⟨x1, btw_self _ _, by simp⟩
  rw [if_neg x1]
  by_cases x2 : btw (pl s0) (pl s1) (pl t1) = true
  · rw [if_pos x2]; exact tk _ ⟨x2, btw_other _ _, by simp⟩
  rw [if_neg x2]
  by_cases x3 : btw (pl t0) (pl t1) (pl s0) = true
  · rw [if_pos x3]; exact tk _ ⟨btw_self _ _, x3, by simp⟩
  rw [if_neg x3]
  by_cases x4 : btw (pl t0) (pl t1) (pl s1) = true
  · rw [if_pos x4]; exact tk _ ⟨btw_other _ _, x4, by simp⟩
  rw [if_neg x4]
  refine ⟨fun _ => ?_, fun _ _ => rfl, fun _ p hp => ?_, fun _ => pl_zero, fun _ => pl_zero, Or.inl rfl⟩
  · rename_i h; exact absurd h (by decide)
  · obtain ⟨h1, h2, h3⟩ := hp
    rcases h3 with rfl | rfl | rfl | rfl
    · exact absurd h2 x3
    · exact absurd h2 x4
    · exact absurd h1 x1
    · exact absurd h1 x2
theorem along_sym {r0 r1 q0 q1 : Pt} (hr : pcmp (pl r0) (pl r1) < 0) (hq : pcmp (pl q0) (pl q1) < 0) (h0 : sideP r0 r1 q0 = 0) (h1 : sideP r0 r1 q1 = 0) (h2 : sideP q0 q1 r0 = 0) (h3 : sideP q0 q1 r1 = 0) :
    Sym (TT (pl r0) (pl r1) (pl q0) (pl q1)) (alongR r0 r1 q0 q1) := by
  obtain ⟨l1, l2, l3⟩ := low_is r0 q0
  obtain ⟨g1, g2, g3⟩ := high_is r1 q1
  have lo : ∀ p, TT (pl r0) (pl r1) (pl q0) (pl q1) p → pcmp (pl (lowR r0 q0)) p ≤ 0 ∧ pcmp p (pl (highR r1 q1)) ≤ 0 := by
    rintro p ⟨a, b, _⟩
    have a' := (btw_iff hr (btw_side a)).1 a
    have b' := (btw_iff hq (btw_side b)).1 b
    refine ⟨?_, ?_⟩
    · rcases l1 with e | e <;> rw [e]; exact a'.1; exact b'.1
    · rcases g1 with e | e <;> rw [e]; exact a'.2; exact b'.2
  have tl : pcmp (pl (lowR r0 q0)) (pl (highR r1 q1)) ≤ 0 → TT (pl r0) (pl r1) (pl q0) (pl q1) (pl (lowR r0 q0)) := by
    intro hle
    rcases l1 with e | e
    · rw [e] at l3 hle ⊢; exact ⟨btw_self _ _, (btw_iff hq h2).2 ⟨l3, ple_trans hle g3⟩, by simp⟩
    · rw [e] at l2 hle ⊢; exact ⟨(btw_iff hr h0).2 ⟨l2, ple_trans hle g2⟩, btw_self _ _, by simp⟩
  have th : pcmp (pl (lowR r0 q0)) (pl (highR r1 q1)) ≤ 0 → TT (pl r0) (pl r1) (pl q0) (pl q1) (pl (highR r1 q1)) := by
    intro hle
    rcases g1 with e | e
    · rw [e] at g3 hle ⊢; exact ⟨btw_other _ _, (btw_iff hq h3).2 ⟨ple_trans l3 hle, g3⟩, by simp⟩
    · rw [e] at g2 hle ⊢; exact ⟨(btw_iff hr h1).2 ⟨ple_trans l2 hle, g2⟩, btw_other _ _, by simp⟩
  unfold alongR
  by_cases hc : 0 < pcmp (pl (lowR r0 q0)) (pl (highR r1 q1))
  · rw [if_pos hc]
    refine ⟨fun h => absurd h (by decide), fun _ _ => rfl, fun _ p hp => ?_, fun _ => pl_zero, fun _ => pl_zero, Or.inl rfl⟩
    have := ple_trans (lo p hp).1 (lo p hp).2
    omega
  rw [if_neg hc]
  by_cases hz : pcmp (pl (lowR r0 q0)) (pl (highR r1 q1)) = 0
  · rw [if_pos hz]
    have hx := tl (by omega)
    have he := pcmp_eq.1 hz
    refine ⟨fun _ => rfl, fun _ h => absurd hx (h _), fun _ p hp => ⟨show (1:Int) ≠ 0 by decide, hx, fun _ => ?_, fun e => by simp [touch] at e⟩, fun e => by simp [touch] at e, fun _ => pl_zero, Or.inr (Or.inl rfl)⟩
    have := lo p hp
    rw [← he] at this
    exact ple_anti this.2 this.1
  · rw [if_neg hz]
    have hx := tl (by omega)
    have hy := th (by omega)
    refine ⟨fun h => by simp at h, fun _ h => absurd hx (h _), fun _ p hp => ⟨show (2:Int) ≠ 0 by decide, hx, fun e => by simp at e, fun _ => ⟨(lo p hp).1, (lo p hp).2, ?_, hy⟩⟩, fun e => by simp at e, fun e => absurd rfl e, Or.inr (Or.inr rfl)⟩
    show pcmp (pl (lowR r0 q0)) (pl (highR r1 q1)) < 0
    omega
theorem side3_three {a b c d e : Pl} (hab : a ≠ b) (h1 : side3 a b c = 0) (h2 : side3 a b d = 0) (h3 : side3 a b e = 0) : side3 c d e = 0 := by
  rw [side3, qsgn_zero] at *
  have hne : b.1 - a.1 ≠ 0 ∨ b.2 - a.2 ≠ 0 := by
    by_cases h : b.1 - a.1 = 0
    · refine Or.inr fun h' => hab (Prod.ext ?_ ?_) <;> grind
    · exact Or.inl h
  unfold area2 at *
  have k1 : ((d.1 - c.1) * (e.2 - c.2) - (d.2 - c.2) * (e.1 - c.1)) * (b.1 - a.1) = 0 := by grind
  have k2 : ((d.1 - c.1) * (e.2 - c.2) - (d.2 - c.2) * (e.1 - c.1)) * (b.2 - a.2) = 0 := by grind
  rcases hne with h | h
  · rcases Rat.mul_eq_zero.1 k1 with k | k
    · exact k
    · exact absurd k h
  · rcases Rat.mul_eq_zero.1 k2 with k | k
    · exact k
    · exact absurd k h
theorem meetR_sym {X s0 s1 t0 t1 : Pt} (hs0 : Good s0) (hs1 : Good s1) (ht0 : Good t0) (ht1 : Good t1) : Sym (TT (pl s0) (pl s1) (pl t0) (pl t1)) (meetR X s0 s1 t0 t1) := by
  unfold meetR
  by_cases hd : s0 = s1 ∨ t0 = t1
  · rw [if_pos hd]
    refine loops_sym fun p q hp hq => ?_
    rcases hd with e | e
    · subst e; rw [btw_point hp.1, btw_point hq.1]
    · subst e; rw [btw_point hp.2.1, btw_point hq.2.1]
  rw [if_neg hd]
  have ns : pl s0 ≠ pl s1 := fun e => hd (Or.inl (hs0.inj hs1 e))
  have nt : pl t0 ≠ pl t1 := fun e => hd (Or.inr (ht0.inj ht1 e))
  by_cases hc : sideP s0 s1 t0 = 0 ∧ sideP s0 s1 t1 = 0
  · rw [if_pos hc]
    obtain ⟨c2, c3⟩ := side3_turn ns hc.1 hc.2
    have hr := rise_lt hs0 hs1 (fun e => hd (Or.inl e))
    have hq := rise_lt ht0 ht1 (fun e => hd (Or.inr e))
    have sw0 : ∀ a b c : Pt, sideP a b c = 0 → sideP b a c = 0 := fun a b c h => (side3_ba0 (a := pl a) (b := pl b) (c := pl c)).1 h
    rcases rise_is s0 s1 with ⟨es, _⟩ | ⟨es, _⟩ <;> rcases rise_is t0 t1 with ⟨et, _⟩ | ⟨et, _⟩ <;> rw [es] at hr ⊢ <;> rw [et] at hq ⊢
    · exact along_sym hr hq hc.1 hc.2 c2 c3
    · exact (along_sym hr hq hc.2 hc.1 (sw0 _ _ _ c2) (sw0 _ _ _ c3)).congr fun p => TT_cd
    · exact (along_sym hr hq (sw0 _ _ _ hc.1) (sw0 _ _ _ hc.2) c3 c2).congr fun p => TT_ab
    · exact (along_sym hr hq (sw0 _ _ _ hc.2) (sw0 _ _ _ hc.1) (sw0 _ _ _ c3) (sw0 _ _ _ c2)).congr fun p => TT_ab.trans TT_cd
  rw [if_neg hc]
  by_cases hx : sideP s0 s1 t0 * sideP s0 s1 t1 < 0 ∧ sideP t0 t1 s0 * sideP t0 t1 s1 < 0
  · rw [if_pos hx]
    exact ⟨fun _ => rfl, fun h => by simp at h, fun h => by simp at h, fun e => by simp at e, fun _ => pl_zero, Or.inr (Or.inl rfl)⟩
  rw [if_neg hx]
  refine loops_sym fun p q hp hq => ?_
  by_cases e : p = q
  · exact e
  · exfalso
    obtain ⟨a1, a2⟩ := side3_turn ns (btw_side hp.1) (btw_side hq.1)
    obtain ⟨b1, b2⟩ := side3_turn nt (btw_side hp.2.1) (btw_side hq.2.1)
    exact hc ⟨side3_three e a1 a2 b1, side3_three e a1 a2 b2⟩
theorem meetM_sym {a b c d : Pt} (fa : FinP a) (fb : FinP b) (fc : FinP c) (fd : FinP d) : Sym (TT (pl a) (pl b) (pl c) (pl d)) (meetM a b c d) := by
  have := meetR_sym (X := meetX (zp a) (zp b) (zp c) (zp d)) (good_zp fa.1 fa.2) (good_zp fb.1 fb.2) (good_zp fc.1 fc.2) (good_zp fd.1 fd.2)
  rw [pl_zp, pl_zp, pl_zp, pl_zp] at this
  exact this
end Go.Proofs.YtggfppgjabembaaGreatDoor

namespace Go.Proofs.YtggfppgjabembaaGreatDoor
open Go.RowKit Go.Proofs.YtggfppgjabembaaGreatDoorW.PrintLast
set_option linter.unusedVariables false
set_option linter.unusedSimpArgs false
def ptk (ps : List Pt) (k : Nat) : Pt := ps.getD k (0, 0)
def mkP (ps : List Pt) (i j : Nat) : Mt := meetM (ptk ps i) (ptk ps (i + 1)) (ptk ps j) (ptk ps (j + 1))
def apP (ps : List Pt) (i j : Nat) : Bool := apB (pl (ptk ps i)) (pl (ptk ps (i + 1))) (pl (ptk ps j)) (pl (ptk ps (j + 1)))
def rndP (ps : List Pt) (n : Nat) : Bool := decide (2 < n) && decide (zp (ptk ps 0) = zp (ptk ps n))
def nbrP (ps : List Pt) (n i j : Nat) : Bool := decide (j = i + 1) || (rndP ps n && decide (i = 0) && decide (j = n - 1))
def tstP (ps : List Pt) (n i j : Nat) : Bool := !apP ps i j && decide (0 < (mkP ps i j).kind - (if nbrP ps n i j then 1 else 0))
def rowP (ps : List Pt) (n i : Nat) : Nat → List (Nat × Nat)
  | 0 => []
  | j + 1 => if i < j then (if tstP ps n i j then rowP ps n i j ++ [(i, j)] else rowP ps n i j) else []
def prsP (ps : List Pt) (n : Nat) : Nat → List (Nat × Nat)
  | 0 => []
  | i + 1 => prsP ps n i ++ rowP ps n i n
def prC : List (Nat × Nat) → List Value
  | [] => []
  | (i, j) :: r => .int .i64 (i : Int) :: .int .i64 (j : Int) :: prC r
theorem prC_snoc (l : List (Nat × Nat)) (i j : Nat) : prC (l ++ [(i, j)]) = prC l ++ [.int .i64 (i : Int), .int .i64 (j : Int)] := by
  induction l with
  | nil => rfl
  | cons x l ih => obtain ⟨a, b⟩ := x; simp [prC, ih]
theorem rowP_len (ps : List Pt) (n i : Nat) : ∀ j, (rowP ps n i j).length ≤ j
  | 0 => Nat.le_refl _
  | j + 1 => by
    have := rowP_len ps n i j
    rw [rowP]
    split
    · split
      · rw [List.length_append]; simp; omega
      · omega
    · simp
theorem rowP_start (ps : List Pt) (n i : Nat) : rowP ps n i (i + 1) = [] := by rw [rowP, if_neg (by omega)]
theorem rowP_step {ps : List Pt} {n i j : Nat} (h : i < j) : rowP ps n i (j + 1) = if tstP ps n i j then rowP ps n i j ++ [(i, j)] else rowP ps n i j := by rw [rowP, if_pos h]
theorem ownsRow_base {w : World} {b b' : Nat} {e : TypeId} {size : Nat} {v : Value} {n : Nat} {xs : List Value} (h : w.ownsRow b e size v n xs) (hb : b' ≤ b) : w.ownsRow b' e size v n xs := by
  refine ⟨h.1, ?_⟩
  rcases h.2 with h | ⟨g, cap, cur, h1, h2, h3⟩
  · exact Or.inl h
  · exact Or.inr ⟨g, cap, cur, h1, Nat.le_trans hb h2, h3⟩
theorem prsP_len (ps : List Pt) (n : Nat) : ∀ i, (prsP ps n i).length ≤ i * n
  | 0 => Nat.zero_le _
  | i + 1 => by
    have := prsP_len ps n i
    have := rowP_len ps n i n
    rw [prsP, List.length_append, Nat.add_mul]; omega
set_option maxRecDepth 100000 in
theorem run_kind (a b c d e f : Value) (w : World) : (Instr.field 29 (.agg #[a, b, c, d, e, f]) 0).run Tryz.prog w = .ok a w := by rfl
set_option maxRecDepth 100000 in
set_option maxHeartbeats 12800000 in
theorem sPairs (A : Option Addr) (c : Nat) (ps : List Pt) (w : World) (hp : PtsIn w A ps) (hl : ps.length ≤ 512) (hf : ∀ p ∈ ps, FinP p) :
    Calls Tryz.prog 33 #[.slice A ps.length c] w fun e w' => ∃ v, e = .returned (.tuple #[v, .int .i64 0]) ∧ w'.ownsRow w.heap.size 69 2 v (prsP ps (ps.length - 1) (ps.length - 1)).length (prC (prsP ps (ps.length - 1) (ps.length - 1))) ∧ Below w.heap.size w w' := by
  have HFI := Lib.hid (sFiniteC A c ps w hp (by omega) hf)
  have HP := Lib.hid hp
  have HF := Lib.hid hf
  have hl' : ¬ 512 < ps.length := by omega
  clear hp hf
  go_enter Tryz.func33, Tryz.ntmps33
  ((try dsimp only); repeat (first | go_values | go_skip | go_guarded | go_step | go_upon))
  refine HFI.out.mono ?_
  rintro e w1 ⟨rfl, hb1⟩
  go_upto_region 6 with (fail)
  ((try dsimp only); repeat (first | go_values | go_skip | go_guarded | go_step | go_upon))
  have HB1 := Lib.hid hb1
  clear hb1 HFI
  go_loopw [4, 5] (fun v i wr => ∃ (k j : Nat) (vv : Value), v = vv ∧ j = k + 1 ∧ i = .int .i64 (j : Int) ∧ k ≤ ps.length - 1 ∧ wr.ownsRow w.heap.size 80 4 vv k (allC ps k) ∧ Below w.heap.size w wr) (fun _ i _ => ps.length - (intOf i).toNat)
  case atStart => exact ⟨0, 1, _, rfl, rfl, rfl, Nat.zero_le _, World.ownsRow_nil _ _ _ _, HB1.out⟩
  case round =>
    obtain ⟨k, j, vv, hvv, hjk, rfl, hk, hown, hB⟩ := hrel
    have hvv' := hvv.symm
    subst hvv'
    by_cases h0 : j < ps.length
    · have hk0 : k < ps.length := by omega
      obtain ⟨b, o, rfl, hb, hpa⟩ := HP.out.open h0
      have hp0 := hpa k (by omega)
      have hp1 := hpa j h0
      have HA0 := Lib.hid (fun wz => sAt (ps.getD k (0, 0)) wz)
      have HA1 := Lib.hid (fun wz => sAt (ps.getD j (0, 0)) wz)
      have HC : Hid (allC ps (k + 1) = allC ps k ++ stc (zp (ps.getD k (0, 0))) (zp (ps.getD j (0, 0)))) := Lib.hid (by rw [hjk]; rfl)
      generalize hq0 : ps.getD k (0, 0) = q0 at *
      generalize hq1 : ps.getD j (0, 0) = q1 at *
      have HR := Lib.hid (fun (w' : World) (h : Below w.heap.size w w') => And.intro ((h.cell (p := ⟨b, o + k * 2, none⟩) hb).trans hp0.1) (And.intro ((h.cell (p := ⟨b, o + k * 2 + 1, none⟩) hb).trans hp0.2) (And.intro ((h.cell (p := ⟨b, o + j * 2, none⟩) hb).trans hp1.1) ((h.cell (p := ⟨b, o + j * 2 + 1, none⟩) hb).trans hp1.2))))
      have HO := Lib.hid (And.intro hown hB)
      have HJ := Lib.hid hjk
      clear hjk hpa hp0 hp1 hown hB hq0 hq1
      unfold pt at *
      go_upto_region 9 with (fail)
      have hw : wrap64 ((j : Int) - 1) = (k : Int) := by have := HJ.out; rw [show (j : Int) - 1 = (k : Int) by omega]; unfold wrap64; omega
      refine start_ (n := 16) (S := fun w' => Below wr.heap.size wr w') (ds := [14]) (bt 16 0) (by kernel_rfl) rfl rfl ((Below.refl _ _).drew) (fun hHeld => ?_)
      refine pv_ 0 26 ?_
      refine pv_ 1 27 ?_
      refine pv_ 2 28 ?_
      refine pv_ 3 29 ?_
      refine pv_ 4 30 ?_
      refine ld_ 5 31 ?_ hHeld ?_ ?_; rotate_left
      · rintro w' hs
        obtain ⟨c0, c1, c2, c3⟩ := HR.out _ (HO.out.2.trans (hs.mono HO.out.2.size))
        clear hs
        go_simp; with_reducible rfl
      refine pv_ 7 33 ?_
      refine pv_ 8 34 ?_
      refine pv_ 9 35 ?_
      refine ld_ 10 36 ?_ hHeld ?_ ?_; rotate_left
      · rintro w' hs
        obtain ⟨c0, c1, c2, c3⟩ := HR.out _ (HO.out.2.trans (hs.mono HO.out.2.size))
        clear hs
        go_simp; with_reducible rfl
      refine ca_ 6 32 Tryz.func36 #[.agg #[.int .u64 q0.1, .int .u64 q0.2]] ?_
      with_reducible refine (HA0.out _).mono ?_
      rintro e w' ⟨rfl, hb1⟩
      refine ⟨_, rfl, (by first | (exact hHeld.alloc hHeld.size _) | (exact hHeld.trans (hb2.mono hHeld.size)) | (exact hHeld.trans (hb1.mono hHeld.size))), fun hHeld => ?_⟩
      refine nn ?_
      refine ca_ 11 37 Tryz.func36 #[.agg #[.int .u64 q1.1, .int .u64 q1.2]] ?_
      with_reducible refine (HA1.out _).mono ?_
      rintro e w' ⟨rfl, hb2⟩
      refine ⟨_, rfl, (by first | (exact hHeld.alloc hHeld.size _) | (exact hHeld.trans (hb2.mono hHeld.size)) | (exact hHeld.trans (hb1.mono hHeld.size))), fun hHeld => ?_⟩
      refine nn ?_
      refine pv_ 12 38 ?_
      refine one_ (i := 13) (N := some 39) (bt 16 16383) rfl rfl (by kernel_rfl) (by decide) (fun K hK => ?_)
      refine value_ (v := ?_) (w1 := ?_) (by rfl) rfl ?_ ?_
      rotate_left
      rotate_left
      · go_simp
        first | rfl | (refine ⟨?_, ?_⟩ <;> rfl)
      refine hK.out _ _ (by first | (exact hHeld.alloc hHeld.size _) | (exact hHeld.trans (hb2.mono hHeld.size)) | (exact hHeld.trans (hb1.mono hHeld.size))) (fun hHeld => ?_)
      clear hK K
      refine nn ?_
      refine last_ (i := 14) (N := some 40) (bt 16 32767) rfl rfl (by kernel_rfl) (by decide) (fun K hK => ?_)
      rw [if_pos (by rfl)]
      have hO2 := ownsRow_keep HO.out.1 hHeld
      have hZ := Nat.le_trans HO.out.2.size hHeld.size
      refine wp_app_st (.tmp 26) (.tmp 39) rfl w.heap.size k vv (allC ps k) rfl hO2 _ 1 _ _ rfl (alloc_new _ _) (by omega) hZ ?_
      intro v2 w2 hown2 hgr
      have hB2 := ownsRow_below hO2 (HO.out.2.trans (hHeld.mono HO.out.2.size)) hZ hgr
      refine hK.out (Act.put _ (some 40) v2) _ ?_
      clear hK K
      refine nm ?_ ?_ ?_; rotate_left
      · simp only [pA, pB, pC, pD, i64_w, i32_w]; rfl
      refine pv_ 15 4 ?_
      refine done_ (by kernel_rfl) ?_
      have HE := Lib.hid (And.intro hown2 hB2)
      clear hown2 hB2 hHeld hO2 hZ hgr hb1 hb2 hw
      ((try dsimp only); repeat (first | go_values | go_skip | go_guarded | go_step | go_upon))
      have hjj := HJ.out
      exact ⟨⟨k + 1, j + 1, v2, rfl, by omega, vint (by omega), by omega, by rw [HC.out]; exact HE.out.1, HE.out.2⟩, by simp [intOf]; omega⟩
    · have hkn : k = ps.length - 1 := by omega
      clear hjk hk
      obtain ⟨n, hn⟩ : ∃ n, ps.length - 1 = n := ⟨_, rfl⟩
      rw [hn] at hkn ⊢
      have hkn' := hkn.symm
      subst hkn'
      obtain ⟨A2, c2, rfl⟩ := own_form hown
      have HO := Lib.hid (And.intro hown hB)
      have hn512 : n ≤ 511 := by omega
      clear hown hB
      go_upto_region 11 with (fail)
      go_cut [7] (fun r wx => r = .bool (rndP ps n) ∧ Below wr.heap.size wr wx)
      case first =>
        have HRN : Hid (rndP ps n = (decide (2 < n) && decide (zp (ptk ps 0) = zp (ptk ps n)))) := Lib.hid rfl
        by_cases h2 : 2 < n
        · obtain ⟨m, hm⟩ : ∃ m, n = m + 1 := ⟨n - 1, by omega⟩
          obtain ⟨g, c3, hA, hg1, hg2, hg3⟩ := own_value HO.out.1 (by omega)
          obtain ⟨rfl, rfl⟩ : A2 = some ⟨g, 0, none⟩ ∧ c2 = c3 := by cases hA; exact ⟨rfl, rfl⟩
          have HS0 := Lib.hid (fun w' (h : Below wr.heap.size wr w') => own_stretch (ownsRow_keep HO.out.1 h) (show 0 < n by omega))
          have HS1 := Lib.hid (fun w' (h : Below wr.heap.size wr w') => own_stretch (ownsRow_keep HO.out.1 h) (show m < n by omega))
          have hw : wrap64 ((n : Int) - 1) = (m : Int) := by rw [hm]; unfold wrap64; omega
          have hmn : m < n := by omega
          have h0n : 0 < n := by omega
          have hd2 : decide ((2 : Int) < (n : Int)) = true := decide_eq_true (by omega)
          have hd3 : decide (2 < n) = true := decide_eq_true h2
          have HM := Lib.hid hm
          have HZ : Hid (rndP ps n = decide (zp (ps.getD 0 (0, 0)) = zp (ps.getD (m + 1) (0, 0)))) := Lib.hid (by rw [HRN.out, decide_eq_true h2, Bool.true_and, ← hm]; rfl)
          clear hm hA hg1 hg2 hg3 HRN
          generalize zp (ps.getD 0 (0, 0)) = z0 at *
          generalize zp (ps.getD (m + 1) (0, 0)) = z1 at *
          refine start_ (n := 16) (S := fun w' => Below wr.heap.size wr w') (ds := []) (bt 16 0) (by kernel_rfl) rfl rfl ((Below.refl _ _).drew) (fun hHeld => ?_)
          refine pv_ 0 43 ?_
          refine pv_ 1 44 ?_
          (try rw [hd2])
          (try rw [hd3])
          refine pv_ 2 45 ?_
          refine pv_ 3 46 ?_
          refine pv_ 4 47 ?_
          refine pv_ 5 48 ?_
          refine ld_ 6 49 ?_ hHeld ?_ ?_; rotate_left
          · rintro w' hs
            obtain ⟨c0, c1, c2, c3⟩ := HS0.out _ hs
            obtain ⟨d0, d1, d2, d3⟩ := HS1.out _ hs
            clear hs
            go_simp; with_reducible rfl
          refine pv_ 7 50 ?_
          refine pv_ 8 51 ?_
          refine pv_ 9 52 ?_
          refine pv_ 10 53 ?_
          refine pv_ 11 54 ?_
          refine ld_ 12 55 ?_ hHeld ?_ ?_; rotate_left
          · rintro w' hs
            obtain ⟨c0, c1, c2, c3⟩ := HS0.out _ hs
            obtain ⟨d0, d1, d2, d3⟩ := HS1.out _ hs
            clear hs
            go_simp; with_reducible rfl
          refine pu 13 56 (.bool (decide (z0 = z1))) ?_ rfl rfl (by kernel_rfl) (fun _ _ _ h => h) (by rfl) (fun _ => ?_) ?_ ?_; rotate_left
          · go_simp
            exact ite_pl z0 z1
          · simp only [pA, pB, pC, pD, i64_w, i32_w]; rfl
          refine pv_ 14 57 ?_
          refine pv_ 15 7 ?_
          refine done_ (by kernel_rfl) ?_
          go_wp2_with fail
          go_meet
          exact ⟨by rw [HZ.out], (Below.refl _ _).drew⟩
        · have hd2 : decide ((2 : Int) < (n : Int)) = false := decide_eq_false (by omega)
          have hd3 : decide (2 < n) = false := decide_eq_false h2
          refine start_ (n := 16) (S := fun w' => Below wr.heap.size wr w') (ds := []) (bt 16 0) (by kernel_rfl) rfl rfl ((Below.refl _ _).drew) (fun hHeld => ?_)
          refine pv_ 0 43 ?_
          refine pv_ 1 44 ?_
          (try rw [hd2])
          (try rw [hd3])
          refine pv_ 2 45 ?_
          refine of 3 46 ?_ rfl rfl (by kernel_rfl) (fun _ _ _ h => h) (by first | rfl | (simp [Region.wanted, yielded]; done) | (go_simp; done)) ?_ ?_; rotate_left
          · simp only [pA, pB, pC, pD, i64_w, i32_w]; rfl
          refine of 4 47 ?_ rfl rfl (by kernel_rfl) (fun _ _ _ h => h) (by first | rfl | (simp [Region.wanted, yielded]; done) | (go_simp; done)) ?_ ?_; rotate_left
          · simp only [pA, pB, pC, pD, i64_w, i32_w]; rfl
          refine of 5 48 ?_ rfl rfl (by kernel_rfl) (fun _ _ _ h => h) (by first | rfl | (simp [Region.wanted, yielded]; done) | (go_simp; done)) ?_ ?_; rotate_left
          · simp only [pA, pB, pC, pD, i64_w, i32_w]; rfl
          refine of 6 49 ?_ rfl rfl (by kernel_rfl) (fun _ _ _ h => h) (by first | rfl | (simp [Region.wanted, yielded]; done) | (go_simp; done)) ?_ ?_; rotate_left
          · simp only [pA, pB, pC, pD, i64_w, i32_w]; rfl
          refine of 7 50 ?_ rfl rfl (by kernel_rfl) (fun _ _ _ h => h) (by first | rfl | (simp [Region.wanted, yielded]; done) | (go_simp; done)) ?_ ?_; rotate_left
          · simp only [pA, pB, pC, pD, i64_w, i32_w]; rfl
          refine of 8 51 ?_ rfl rfl (by kernel_rfl) (fun _ _ _ h => h) (by first | rfl | (simp [Region.wanted, yielded]; done) | (go_simp; done)) ?_ ?_; rotate_left
          · simp only [pA, pB, pC, pD, i64_w, i32_w]; rfl
          refine of 9 52 ?_ rfl rfl (by kernel_rfl) (fun _ _ _ h => h) (by first | rfl | (simp [Region.wanted, yielded]; done) | (go_simp; done)) ?_ ?_; rotate_left
          · simp only [pA, pB, pC, pD, i64_w, i32_w]; rfl
          refine of 10 53 ?_ rfl rfl (by kernel_rfl) (fun _ _ _ h => h) (by first | rfl | (simp [Region.wanted, yielded]; done) | (go_simp; done)) ?_ ?_; rotate_left
          · simp only [pA, pB, pC, pD, i64_w, i32_w]; rfl
          refine of 11 54 ?_ rfl rfl (by kernel_rfl) (fun _ _ _ h => h) (by first | rfl | (simp [Region.wanted, yielded]; done) | (go_simp; done)) ?_ ?_; rotate_left
          · simp only [pA, pB, pC, pD, i64_w, i32_w]; rfl
          refine of 12 55 ?_ rfl rfl (by kernel_rfl) (fun _ _ _ h => h) (by first | rfl | (simp [Region.wanted, yielded]; done) | (go_simp; done)) ?_ ?_; rotate_left
          · simp only [pA, pB, pC, pD, i64_w, i32_w]; rfl
          refine of 13 56 ?_ rfl rfl (by kernel_rfl) (fun _ _ _ h => h) (by first | rfl | (simp [Region.wanted, yielded]; done) | (go_simp; done)) ?_ ?_; rotate_left
          · simp only [pA, pB, pC, pD, i64_w, i32_w]; rfl
          refine pv_ 14 57 ?_
          refine pv_ 15 7 ?_
          refine done_ (by kernel_rfl) ?_
          go_wp2_with fail
          go_meet
          exact ⟨by rw [HRN.out, hd3]; rfl, (Below.refl _ _).drew⟩
      case rest =>
      obtain ⟨rfl, hB3⟩ := hcut
      obtain ⟨W2, hW2⟩ : ∃ x, x = wc := ⟨_, rfl⟩
      subst hW2
      have hO3 := ownsRow_keep HO.out.1 hB3
      have hB4 := HO.out.2.trans (hB3.mono HO.out.2.size)
      have HO3 := Lib.hid (And.intro hO3 hB4)
      clear HO hO3 hB4 hB3 HP HB1
      ((try dsimp only); repeat (first | go_values | go_skip | go_guarded | go_step | go_upon))
      go_loopw [8, 60] (fun v x wr => ∃ (i : Nat) (vv : Value), v = vv ∧ x = .int .i64 (i : Int) ∧ i ≤ n ∧ wr.ownsRow W2.heap.size 69 2 vv (prsP ps n i).length (prC (prsP ps n i)) ∧ Below W2.heap.size W2 wr) (fun _ x _ => n - (intOf x).toNat)
      case atStart => exact ⟨0, _, rfl, rfl, Nat.zero_le _, World.ownsRow_nil _ _ _ _, Below.refl _ _⟩
      case round =>
        obtain ⟨i, vv, hvv, rfl, hi, hown, hB⟩ := hrel
        have hvv' := hvv.symm
        subst hvv'
        by_cases h1 : i < n
        · ((try dsimp only); repeat (first | go_values | go_skip | go_guarded | go_step | go_upon))
          go_loopw [8, 10] (fun v x ws => ∃ (j : Nat) (v2 : Value), v = v2 ∧ x = .int .i64 (j : Int) ∧ i + 1 ≤ j ∧ j ≤ n ∧ ws.ownsRow W2.heap.size 69 2 v2 (prsP ps n i ++ rowP ps n i j).length (prC (prsP ps n i ++ rowP ps n i j)) ∧ Below W2.heap.size W2 ws) (fun _ x _ => n - (intOf x).toNat)
          case atStart => exact ⟨i + 1, _, rfl, vint (by omega), Nat.le_refl _, h1, by rw [rowP_start, List.append_nil]; exact hown, hB⟩
          case round =>
            obtain ⟨j, v2, hvv, rfl, hij, hj, hown2, hB2⟩ := hrel
            have hvv' := hvv.symm
            subst hvv'
            clear hown hB
            by_cases h2 : j < n
            · obtain ⟨g, c3, hA, hg1, hg2, hg3⟩ := own_value HO3.out.1 (show 0 < n by omega)
              obtain ⟨rfl, rfl⟩ : A2 = some ⟨g, 0, none⟩ ∧ c2 = c3 := by cases hA; exact ⟨rfl, rfl⟩
              have HS0 := Lib.hid (fun w' (h : Below W2.heap.size W2 w') => own_stretch (ownsRow_keep HO3.out.1 h) h1)
              have HS1 := Lib.hid (fun w' (h : Below W2.heap.size W2 w') => own_stretch (ownsRow_keep HO3.out.1 h) h2)
              have f0 := HF.out _ (getD_mem (ps := ps) (k := i) (by omega))
              have f1 := HF.out _ (getD_mem (ps := ps) (k := i + 1) (by omega))
              have f2 := HF.out _ (getD_mem (ps := ps) (k := j) (by omega))
              have f3 := HF.out _ (getD_mem (ps := ps) (k := j + 1) (by omega))
              have z : ∀ p : Pt, FinP p → FinP (zp p) := fun p h => ⟨zed_fin h.1, zed_fin h.2⟩
              have HAp := Lib.hid (fun wz => sApart _ _ _ _ wz (z _ f0) (z _ f1) (z _ f2) (z _ f3))
              have HMe := Lib.hid (fun wz => meetC _ _ _ _ wz (good_zp f0.1 f0.2) (good_zp f1.1 f1.2) (good_zp f2.1 f2.2) (good_zp f3.1 f3.2) trivial)
              have hkd := (meetM_sym f0 f1 f2 f3).kd
              rw [pl_zp, pl_zp, pl_zp, pl_zp] at HAp
              have eA : apB (pl (ps.getD i (0, 0))) (pl (ps.getD (i + 1) (0, 0))) (pl (ps.getD j (0, 0))) (pl (ps.getD (j + 1) (0, 0))) = apP ps i j := rfl
              have eM : meetR (meetX (zp (ps.getD i (0, 0))) (zp (ps.getD (i + 1) (0, 0))) (zp (ps.getD j (0, 0))) (zp (ps.getD (j + 1) (0, 0)))) (zp (ps.getD i (0, 0))) (zp (ps.getD (i + 1) (0, 0))) (zp (ps.getD j (0, 0))) (zp (ps.getD (j + 1) (0, 0))) = mkP ps i j := rfl
              have eM2 : meetM (ps.getD i (0, 0)) (ps.getD (i + 1) (0, 0)) (ps.getD j (0, 0)) (ps.getD (j + 1) (0, 0)) = mkP ps i j := rfl
              rw [eA] at HAp
              simp only [eM] at HMe
              rw [eM2] at hkd
              have HT : Hid (tstP ps n i j = (!apP ps i j && decide (0 < (mkP ps i j).kind - (if nbrP ps n i j then 1 else 0)))) := Lib.hid rfl
              have HNb : Hid (nbrP ps n i j = (decide (j = i + 1) || (rndP ps n && decide (i = 0) && decide (j = n - 1)))) := Lib.hid rfl
              have HRw := Lib.hid (rowP_step (ps := ps) (n := n) (show i < j by omega))
              have HLn := Lib.hid (And.intro (rowP_len ps n i j) (prsP_len ps n i))
              clear z f0 f1 f2 f3 eA eM eM2 hA hg1 hg2 hg3
              generalize apP ps i j = ap at *
              generalize mkP ps i j = m at *
              generalize nbrP ps n i j = nb at *
              generalize tstP ps n i j = ts at *
              generalize rndP ps n = rd at *
              generalize zp (ps.getD i (0, 0)) = P0 at *
              generalize zp (ps.getD (i + 1) (0, 0)) = P1 at *
              generalize zp (ps.getD j (0, 0)) = P2 at *
              generalize zp (ps.getD (j + 1) (0, 0)) = P3 at *
              unfold st at HAp HMe
              unfold mv at HMe
              have HX := Lib.hid (And.intro hown2 hB2)
              clear hown2 hB2
              go_upto_region 19 with (fail)
              refine start_ (n := 9) (S := fun w' => Below wr.heap.size wr w') (ds := []) (bt 9 0) (by kernel_rfl) rfl rfl ((Below.refl _ _).drew) (fun hHeld => ?_)
              refine pv_ 0 70 ?_
              refine pv_ 1 71 ?_
              refine pv_ 2 72 ?_
              refine ld_ 3 73 ?_ hHeld ?_ ?_; rotate_left
              · rintro w' hs
                obtain ⟨c0, c1, c2, c3⟩ := HS0.out _ (HX.out.2.trans (hs.mono HX.out.2.size))
                obtain ⟨d0, d1, d2, d3⟩ := HS1.out _ (HX.out.2.trans (hs.mono HX.out.2.size))
                clear hs
                go_simp; with_reducible rfl
              refine pv_ 4 74 ?_
              refine pv_ 5 75 ?_
              refine pv_ 6 76 ?_
              refine ld_ 7 77 ?_ hHeld ?_ ?_; rotate_left
              · rintro w' hs
                obtain ⟨c0, c1, c2, c3⟩ := HS0.out _ (HX.out.2.trans (hs.mono HX.out.2.size))
                obtain ⟨d0, d1, d2, d3⟩ := HS1.out _ (HX.out.2.trans (hs.mono HX.out.2.size))
                clear hs
                go_simp; with_reducible rfl
              refine ca_ 8 78 Tryz.func66 #[.agg #[.int .u64 P0.1, .int .u64 P0.2, .int .u64 P1.1, .int .u64 P1.2], .agg #[.int .u64 P2.1, .int .u64 P2.2, .int .u64 P3.1, .int .u64 P3.2]] ?_
              with_reducible refine (HAp.out _).mono ?_
              rintro e w' ⟨rfl, hb1⟩
              refine ⟨_, rfl, (by exact hHeld.trans (hb1.mono hHeld.size)), fun hHeld => ?_⟩
              refine nn ?_
              refine done_ (by kernel_rfl) ?_
              have hB5 := HX.out.2.trans (hHeld.mono HX.out.2.size)
              have hO5 := ownsRow_keep HX.out.1 hHeld
              clear hHeld hb1 HX HAp
              have HX := Lib.hid (And.intro hO5 hB5)
              clear hO5 hB5
              generalize w' = wd at *
              cases ap
              · have hfk := fun w' => run_kind (.int .i64 m.kind) (.bool m.proper) (.int .u64 m.P.1) (.int .u64 m.P.2) (.int .u64 m.Q.1) (.int .u64 m.Q.2) w'
                go_upto_region 20 with (fail)
                refine start_ (n := 11) (S := fun w' => Below wd.heap.size wd w') (ds := []) (bt 11 0) (by kernel_rfl) rfl rfl ((Below.refl _ _).drew) (fun hHeld => ?_)
                refine pv_ 0 79 ?_
                refine pv_ 1 80 ?_
                refine pv_ 2 81 ?_
                refine ld_ 3 82 ?_ hHeld ?_ ?_; rotate_left
                · rintro w' hs
                  obtain ⟨c0, c1, c2, c3⟩ := HS0.out _ (HX.out.2.trans (hs.mono HX.out.2.size))
                  obtain ⟨d0, d1, d2, d3⟩ := HS1.out _ (HX.out.2.trans (hs.mono HX.out.2.size))
                  clear hs
                  go_simp; with_reducible rfl
                refine pv_ 4 83 ?_
                refine pv_ 5 84 ?_
                refine pv_ 6 85 ?_
                refine ld_ 7 86 ?_ hHeld ?_ ?_; rotate_left
                · rintro w' hs
                  obtain ⟨c0, c1, c2, c3⟩ := HS0.out _ (HX.out.2.trans (hs.mono HX.out.2.size))
                  obtain ⟨d0, d1, d2, d3⟩ := HS1.out _ (HX.out.2.trans (hs.mono HX.out.2.size))
                  clear hs
                  go_simp; with_reducible rfl
                refine ca_ 8 87 Tryz.func35 #[.agg #[.int .u64 P0.1, .int .u64 P0.2, .int .u64 P1.1, .int .u64 P1.2], .agg #[.int .u64 P2.1, .int .u64 P2.2, .int .u64 P3.1, .int .u64 P3.2]] ?_
                with_reducible refine (HMe.out _).mono ?_
                rintro e w' ⟨rfl, hb1⟩
                refine ⟨_, rfl, (by exact hHeld.trans (hb1.mono hHeld.size)), fun hHeld => ?_⟩
                refine nn ?_
                refine pv_ 9 88 ?_
                refine pv_ 10 11 ?_
                refine done_ (by kernel_rfl) ?_
                have hB5 := HX.out.2.trans (hHeld.mono HX.out.2.size)
                have hO5 := ownsRow_keep HX.out.1 hHeld
                clear hHeld hb1 HX HMe HS0 HS1 hfk
                have HX := Lib.hid (And.intro hO5 hB5)
                clear hO5 hB5
                generalize w' = we at *
                obtain ⟨K, hK⟩ : ∃ K, K = m.kind - (if nb = true then 1 else 0) := ⟨_, rfl⟩
                have HKK := Lib.hid hK
                have HKD := Lib.hid hkd
                clear hK hkd
                go_upto_region 21 with (fail)
                go_cut [105] (fun x wx => x = .bool nb ∧ wx = we)
                case first =>
                  have hwn : wrap64 ((n : Int) - 1) = (n : Int) - 1 := by unfold wrap64; omega
                  by_cases e1 : j = i + 1
                  · have b1 : ((j : Int) == (i : Int) + 1) = true := beq_iff_eq.2 (by omega)
                    have HK1 : Hid (nb = true) := Lib.hid (by rw [HNb.out, decide_eq_true e1]; rfl)
                    clear e1
                    ((try dsimp only); repeat (first | go_values | go_skip | go_guarded | go_step | go_upon))
                    go_meet
                    exact ⟨by rw [HK1.out], rfl⟩
                  · have b1 : ((j : Int) == (i : Int) + 1) = false := beq_eq_false_iff_ne.2 (by omega)
                    cases rd
                    · have HK1 : Hid (nb = false) := Lib.hid (by rw [HNb.out, decide_eq_false e1]; rfl)
                      clear e1
                      ((try dsimp only); repeat (first | go_values | go_skip | go_guarded | go_step | go_upon))
                      go_meet
                      exact ⟨by rw [HK1.out], rfl⟩
                    · by_cases e2 : i = 0
                      · have b2 : ((i : Int) == 0) = true := beq_iff_eq.2 (by omega)
                        by_cases e3 : j = n - 1
                        · have b3 : ((j : Int) == (n : Int) - 1) = true := beq_iff_eq.2 (by omega)
                          have HK1 : Hid (nb = true) := Lib.hid (by rw [HNb.out, decide_eq_false e1, decide_eq_true e2, decide_eq_true e3]; rfl)
                          clear e1 e2 e3
                          ((try dsimp only); repeat (first | go_values | go_skip | go_guarded | go_step | go_upon))
                          go_meet
                          exact ⟨by rw [HK1.out], rfl⟩
                        · have b3 : ((j : Int) == (n : Int) - 1) = false := beq_eq_false_iff_ne.2 (by omega)
                          have HK1 : Hid (nb = false) := Lib.hid (by rw [HNb.out, decide_eq_false e1, decide_eq_true e2, decide_eq_false e3]; rfl)
                          clear e1 e2 e3
                          ((try dsimp only); repeat (first | go_values | go_skip | go_guarded | go_step | go_upon))
                          go_meet
                          exact ⟨by rw [HK1.out], rfl⟩
                      · have b2 : ((i : Int) == 0) = false := beq_eq_false_iff_ne.2 (by omega)
                        have HK1 : Hid (nb = false) := Lib.hid (by rw [HNb.out, decide_eq_false e1, decide_eq_false e2]; rfl)
                        clear e1 e2
                        ((try dsimp only); repeat (first | go_values | go_skip | go_guarded | go_step | go_upon))
                        go_meet
                        exact ⟨by rw [HK1.out], rfl⟩
                case rest =>
                obtain ⟨rfl, hwe⟩ := hcut
                obtain rfl := hwe
                go_upto_if 105 with (fail)
                obtain ⟨wf, hwf⟩ : ∃ x, x = wc := ⟨_, rfl⟩
                subst hwf
                go_cut [11] (fun x wx => x = .int .i64 K ∧ wx = wf)
                case first =>
                  have hkd := HKD.out
                  have hk1 := HKK.out
                  cases nb
                  · have HK1 : Hid (K = m.kind) := Lib.hid (by rw [hk1]; rw [if_neg (by decide)]; omega)
                    clear hk1
                    ((try dsimp only); repeat (first | go_values | go_skip | go_guarded | go_step | go_upon))
                    go_meet
                    exact ⟨vint (by rw [HK1.out]), rfl⟩
                  · rw [if_pos rfl] at hk1
                    have HK1 := Lib.hid hk1
                    clear hk1
                    ((try dsimp only); repeat (first | go_values | go_skip | go_guarded | go_step | go_upon))
                    go_meet
                    exact ⟨vint (by rw [HK1.out]; try omega), rfl⟩
                case rest =>
                obtain ⟨rfl, rfl⟩ := hcut
                by_cases hk0 : 0 < K
                · have hts : ts = true := by rw [HT.out, ← HKK.out, decide_eq_true hk0]; rfl
                  have HR2 : Hid (rowP ps n i (j + 1) = rowP ps n i j ++ [(i, j)]) := Lib.hid (by rw [HRw.out, if_pos hts])
                  have hown := HX.out.1
                  have hbd := HX.out.2.size
                  have hnl : (prsP ps n i ++ rowP ps n i j).length ≤ 1000000 := by
                    have h1 := HLn.out.1
                    have h2 := HLn.out.2
                    have h3 : i * n ≤ 511 * 511 := Nat.mul_le_mul (by omega) (by omega)
                    rw [List.length_append]; omega
                  clear HRw hts HT HNb HKK
                  ((try dsimp only); repeat (first | (with_reducible refine wpList_app_two rfl (.tmp 110) (.tmp 114) rfl W2.heap.size (prsP ps n i ++ rowP ps n i j).length v2 (prC (prsP ps n i ++ rowP ps n i j)) rfl (World.ownsRow.alloc hown _) _ 1 (i : Int) (j : Int) rfl (alloc_new _ _) hnl (by rw [World.size_alloc]; omega) ?_) | go_values | go_skip | go_guarded | go_step | go_upon))
                  intro v3 w3 hown3 hgr
                  have hB6 := ownsRow_below (World.ownsRow.alloc hown (.cells #[.int .i64 (i : Int), .int .i64 (j : Int)] 69)) (HX.out.2.alloc hbd _) (by rw [World.size_alloc]; omega) hgr
                  have HE := Lib.hid (And.intro hown3 hB6)
                  clear hown3 hB6 hgr hown hbd hnl
                  ((try dsimp only); repeat (first | go_values | go_skip | go_guarded | go_step | go_upon))
                  exact ⟨⟨j + 1, v3, rfl, vint (by omega), by omega, h2, by rw [HR2.out, ← List.append_assoc, prC_snoc, List.length_append]; exact HE.out.1, HE.out.2⟩, by simp [intOf]; omega⟩
                · have hts : ts = false := by rw [HT.out, ← HKK.out, decide_eq_false hk0]; rfl
                  have HR2 : Hid (rowP ps n i (j + 1) = rowP ps n i j) := Lib.hid (by rw [HRw.out, if_neg (by rw [hts]; decide)])
                  clear HRw hts
                  ((try dsimp only); repeat (first | go_values | go_skip | go_guarded | go_step | go_upon))
                  exact ⟨⟨j + 1, v2, rfl, vint (by omega), by omega, h2, by rw [HR2.out]; exact HX.out.1, HX.out.2⟩, by simp [intOf]; omega⟩
              · have hts : ts = false := by rw [HT.out]; rfl
                have HR2 : Hid (rowP ps n i (j + 1) = rowP ps n i j) := Lib.hid (by rw [HRw.out, if_neg (by rw [hts]; decide)])
                clear HRw hts
                ((try dsimp only); repeat (first | go_values | go_skip | go_guarded | go_step | go_upon))
                exact ⟨⟨j + 1, v2, rfl, vint (by omega), by omega, h2, by rw [HR2.out]; exact HX.out.1, HX.out.2⟩, by simp [intOf]; omega⟩
            · obtain rfl : j = n := by omega
              have HX := Lib.hid (And.intro hown2 hB2)
              clear hown2 hB2
              ((try dsimp only); repeat (first | go_values | go_skip | go_guarded | go_step | go_upon))
              exact ⟨⟨i + 1, v2, rfl, vint (by omega), by omega, HX.out.1, HX.out.2⟩, by simp [intOf]; omega⟩
        · obtain rfl : i = n := by omega
          have HX := Lib.hid (And.intro hown hB)
          clear hown hB
          ((try dsimp only); repeat (first | go_values | go_skip | go_guarded | go_step | go_upon))
          go_ret2
          exact ⟨vv, rfl, by rw [hn]; exact ownsRow_base HX.out.1 HO3.out.2.size, HO3.out.2.trans (HX.out.2.mono HO3.out.2.size)⟩
end Go.Proofs.YtggfppgjabembaaGreatDoor

namespace Go.Proofs.YtggfppgjabembaaGreatDoor
set_option linter.unusedVariables false
set_option linter.unusedSimpArgs false
def dotR (u v : Pl) : Rat := u.1 * v.1 + u.2 * v.2
def wayR (a b : Pl) : Pl := (b.1 - a.1, b.2 - a.2)
def rawK (a b p : Pl) : Rat := dotR (wayR a p) (wayR a b) / dotR (wayR a b) (wayR a b)
def cl1 (k : Rat) : Rat := if 0 < qcmp k 1 then 1 else k
def cl0 (k : Rat) : Rat := if qsgn k < 0 then 0 else k
def clK (k : Rat) : Rat := cl0 (cl1 k)
def onR (a b : Pl) (k : Rat) : Pl := (a.1 + k * (wayR a b).1, a.2 + k * (wayR a b).2)
def ftR (a b p : Pl) : Pl := if a = b then a else onR a b (clK (rawK a b p))
def farR (a b p : Pl) : Rat := dotR (wayR (ftR a b p) p) (wayR (ftR a b p) p)
theorem pcmp_ge {a b : Pl} : 0 ≤ pcmp a b ↔ pcmp b a ≤ 0 := by rw [pcmp_swap b a]; omega
theorem qcmp_pos {a b : Rat} : 0 < qcmp a b ↔ b < a := by
  rcases qcmp_cases a b with ⟨h, k⟩ | ⟨h, k⟩ | ⟨h, k⟩ <;> rw [h] <;> constructor <;> intro x <;> first | grind | omega
theorem qcmp_nonpos {a b : Rat} : qcmp a b ≤ 0 ↔ a ≤ b := by
  rcases qcmp_cases a b with ⟨h, k⟩ | ⟨h, k⟩ | ⟨h, k⟩ <;> rw [h] <;> constructor <;> intro x <;> first | grind | omega
theorem qcmp_nonneg {a b : Rat} : 0 ≤ qcmp a b ↔ b ≤ a := by
  rcases qcmp_cases a b with ⟨h, k⟩ | ⟨h, k⟩ | ⟨h, k⟩ <;> rw [h] <;> constructor <;> intro x <;> first | grind | omega
theorem qsgn_lt0 {a : Rat} : qsgn a < 0 ↔ a < 0 := by
  rw [← qsgn_neg]
  rcases qsgn_cases a with h | h | h <;> rw [h] <;> decide
theorem clK_is (k : Rat) : (k < 0 ∧ clK k = 0) ∨ (0 ≤ k ∧ k ≤ 1 ∧ clK k = k) ∨ (1 < k ∧ clK k = 1) := by
  unfold clK cl0 cl1
  by_cases h : 0 < qcmp k 1
  · rw [if_pos h]
    right; right
    refine ⟨qcmp_pos.1 h, ?_⟩
    rw [if_neg (by decide)]
  · rw [if_neg h]
    have h1 : k ≤ 1 := by have := mt qcmp_pos.2 h; grind
    by_cases h0 : qsgn k < 0
    · left; exact ⟨qsgn_lt0.1 h0, if_pos h0⟩
    · right; left
      have := mt qsgn_lt0.2 h0
      exact ⟨by grind, h1, if_neg h0⟩
theorem clK_range (k : Rat) : 0 ≤ clK k ∧ clK k ≤ 1 := by
  rcases clK_is k with h | h | h <;> grind
theorem clK_flip (k : Rat) : clK (1 - k) = 1 - clK k := by
  rcases clK_is k with h | h | h <;> rcases clK_is (1 - k) with h' | h' | h' <;> grind
theorem sq_nonneg (x : Rat) : 0 ≤ x * x := by
  rcases (Rat.le_total : (0 : Rat) ≤ x ∨ x ≤ 0) with h | h
  · exact Rat.mul_nonneg h h
  · have := Rat.mul_nonneg (show (0 : Rat) ≤ -x by grind) (show (0 : Rat) ≤ -x by grind)
    grind
theorem sq_pos {x : Rat} (h : x ≠ 0) : 0 < x * x := by
  have := sq_nonneg x
  have : x * x ≠ 0 := by grind
  grind
theorem dot_self (u : Pl) : 0 ≤ dotR u u := by unfold dotR; have := sq_nonneg u.1; have := sq_nonneg u.2; grind
theorem dot_zero {u : Pl} (h : dotR u u = 0) : u = (0, 0) := by
  unfold dotR at h
  have h1 := sq_nonneg u.1
  have h2 := sq_nonneg u.2
  have e1 : u.1 = 0 := Classical.byContradiction fun e => by have := sq_pos e; grind
  have e2 : u.2 = 0 := Classical.byContradiction fun e => by have := sq_pos e; grind
  exact Prod.ext e1 e2
theorem way_zero {a b : Pl} (h : wayR a b = (0, 0)) : a = b := by
  unfold wayR at h
  rw [Prod.mk.injEq] at h
  exact Prod.ext (by grind) (by grind)
theorem dot_pos {a b : Pl} (h : a ≠ b) : 0 < dotR (wayR a b) (wayR a b) := by
  have h1 := dot_self (wayR a b)
  have : dotR (wayR a b) (wayR a b) ≠ 0 := fun e => h (way_zero (dot_zero e))
  grind
theorem dot_num {a b : Pl} (h : a ≠ b) : (dotR (wayR a b) (wayR a b)).num ≠ 0 := by
  have h1 := dot_pos h
  intro e
  rw [Rat.num_eq_zero] at e
  grind
theorem rawK_mul {a b p : Pl} (h : a ≠ b) : rawK a b p * dotR (wayR a b) (wayR a b) = dotR (wayR a p) (wayR a b) :=
  Rat.div_mul_cancel (by have := dot_pos h; grind)
theorem rat_cancel {x y z : Rat} (h : z ≠ 0) (e : x * z = y * z) : x = y := by grind
theorem rawK_swap {a b p : Pl} (h : a ≠ b) : rawK b a p = 1 - rawK a b p := by
  have h1 := rawK_mul (p := p) h
  have h2 := rawK_mul (p := p) (fun e => h e.symm : b ≠ a)
  have h3 := dot_pos h
  refine rat_cancel (z := dotR (wayR a b) (wayR a b)) (by grind) ?_
  have e : dotR (wayR b a) (wayR b a) = dotR (wayR a b) (wayR a b) := by unfold dotR wayR; grind
  rw [e] at h2
  rw [h2]
  have : (1 - rawK a b p) * dotR (wayR a b) (wayR a b) = dotR (wayR a b) (wayR a b) - dotR (wayR a p) (wayR a b) := by rw [← h1]; grind
  rw [this]
  unfold dotR wayR
  grind
theorem ft_swap (a b p : Pl) : ftR b a p = ftR a b p := by
  unfold ftR
  by_cases h : a = b
  · subst h; rfl
  · rw [if_neg h, if_neg (fun e => h e.symm), rawK_swap h, clK_flip]
    unfold onR wayR
    exact Prod.ext (by dsimp only; grind) (by dsimp only; grind)
theorem far_swap (a b p : Pl) : farR b a p = farR a b p := by unfold farR; rw [ft_swap]
theorem on_area (a b : Pl) (k : Rat) : area2 a b (onR a b k) = 0 := by unfold area2 onR wayR; grind
theorem ft_area (a b p : Pl) : area2 a b (ftR a b p) = 0 := by
  unfold ftR
  split
  · rename_i h; subst h; unfold area2; grind
  · exact on_area _ _ _
theorem on_same {a : Pl} (k : Rat) : onR a a k = a := by unfold onR wayR; exact Prod.ext (by dsimp only; grind) (by dsimp only; grind)
theorem ft_on (a b p : Pl) : ∃ k, 0 ≤ k ∧ k ≤ 1 ∧ ftR a b p = onR a b k := by
  unfold ftR
  split
  · rename_i h; subst h; exact ⟨0, by grind, by grind, (on_same 0).symm⟩
  · exact ⟨_, (clK_range _).1, (clK_range _).2, rfl⟩
theorem mul_between {k u : Rat} (h0 : 0 ≤ k) (h1 : k ≤ 1) : (0 ≤ u ∧ 0 ≤ k * u ∧ k * u ≤ u) ∨ (u ≤ 0 ∧ k * u ≤ 0 ∧ u ≤ k * u) := by
  rcases (Rat.le_total : (0 : Rat) ≤ u ∨ u ≤ 0) with h | h
  · have e1 := Rat.mul_nonneg h0 h
    have e2 := Rat.mul_nonneg (show 0 ≤ 1 - k by grind) h
    left; grind
  · have e1 := Rat.mul_nonneg h0 (show 0 ≤ -u by grind)
    have e2 := Rat.mul_nonneg (show 0 ≤ 1 - k by grind) (show 0 ≤ -u by grind)
    right; grind
theorem ft_near (a b p : Pl) {t : Rat} (h0 : 0 ≤ t) (h1 : t ≤ 1) : farR a b p ≤ dotR (wayR (onR a b t) p) (wayR (onR a b t) p) := by
  unfold farR ftR
  split
  · rename_i h; subst h; rw [on_same]; grind
  · rename_i h
    have hp := dot_pos h
    have hk := rawK_mul (p := p) h
    have hc := clK_is (rawK a b p)
    generalize rawK a b p = k at *
    generalize clK k = c at *
    have key : dotR (wayR (onR a b t) p) (wayR (onR a b t) p) - dotR (wayR (onR a b c) p) (wayR (onR a b c) p) = dotR (wayR a b) (wayR a b) * ((t - c) * (t + c - 2 * k)) := by
      have e : dotR (wayR a b) (wayR a b) * ((t - c) * (t + c - 2 * k)) = dotR (wayR a b) (wayR a b) * ((t - c) * (t + c)) - 2 * (t - c) * (k * dotR (wayR a b) (wayR a b)) := by grind
      rw [e, hk]
      unfold onR dotR wayR
      dsimp only
      grind
    have hn : 0 ≤ (t - c) * (t + c - 2 * k) := by
      rcases hc with ⟨g1, g2⟩ | ⟨g1, g2, g3⟩ | ⟨g1, g2⟩
      · subst g2; exact Rat.mul_nonneg (by grind) (by grind)
      · subst g3; have := sq_nonneg (t - c); grind
      · subst g2
        have := Rat.mul_nonneg (show 0 ≤ 1 - t by grind) (show 0 ≤ 2 * k - t - 1 by grind)
        grind
    have := Rat.mul_nonneg (Rat.le_of_lt hp) hn
    grind
theorem ft_self {a b p : Pl} (h : btw a b p = true) : ftR a b p = p := by
  unfold ftR
  by_cases e : a = b
  · rw [if_pos e]; subst e; exact (btw_point h).symm
  · rw [if_neg e]
    have ha : area2 a b p = 0 := qsgn_zero.1 (btw_side h)
    have hp := dot_pos e
    have hk := rawK_mul (p := p) e
    have x1 : rawK a b p * (wayR a b).1 = (wayR a p).1 := by
      refine rat_cancel (z := dotR (wayR a b) (wayR a b)) (by grind) ?_
      have : rawK a b p * (wayR a b).1 * dotR (wayR a b) (wayR a b) = rawK a b p * dotR (wayR a b) (wayR a b) * (wayR a b).1 := by grind
      rw [this, hk]
      unfold area2 at ha
      unfold dotR wayR
      dsimp only
      grind
    have x2 : rawK a b p * (wayR a b).2 = (wayR a p).2 := by
      refine rat_cancel (z := dotR (wayR a b) (wayR a b)) (by grind) ?_
      have : rawK a b p * (wayR a b).2 * dotR (wayR a b) (wayR a b) = rawK a b p * dotR (wayR a b) (wayR a b) * (wayR a b).2 := by grind
      rw [this, hk]
      unfold area2 at ha
      unfold dotR wayR
      dsimp only
      grind
    have hr : 0 ≤ rawK a b p ∧ rawK a b p ≤ 1 := by
      generalize rawK a b p = k at *
      unfold btw at h
      simp only [Bool.and_eq_true, Bool.or_eq_true, decide_eq_true_iff] at h
      have hb := h.2
      simp only [pcmp_ge, pcmp_le] at hb
      have n0 : (wayR a b).1 ≠ 0 ∨ (wayR a b).2 ≠ 0 := by
        refine Classical.byContradiction fun q => e (way_zero (Prod.ext ?_ ?_))
        · exact Classical.byContradiction fun r => q (Or.inl r)
        · exact Classical.byContradiction fun r => q (Or.inr r)
      have m1 : ∀ x : Rat, 0 < x → k < 0 → k * x < 0 := fun x hx hk => by have := Rat.mul_pos (show 0 < -k by grind) hx; grind
      have m2 : ∀ x : Rat, 0 < x → 1 < k → x < k * x := fun x hx hk => by have := Rat.mul_pos (show 0 < k - 1 by grind) hx; grind
      unfold wayR at x1 x2 n0
      dsimp only at x1 x2 n0
      constructor
      · refine Classical.byContradiction fun q => ?_
        have q' : k < 0 := by grind
        have := m1 (b.1 - a.1)
        have := m1 (a.1 - b.1)
        have := m1 (b.2 - a.2)
        have := m1 (a.2 - b.2)
        grind
      · refine Classical.byContradiction fun q => ?_
        have q' : 1 < k := by grind
        have := m2 (b.1 - a.1)
        have := m2 (a.1 - b.1)
        have := m2 (b.2 - a.2)
        have := m2 (a.2 - b.2)
        grind
    have hc : clK (rawK a b p) = rawK a b p := by rcases clK_is (rawK a b p) with g | g | g <;> grind
    rw [hc]
    unfold onR
    rw [x1, x2]
    unfold wayR
    exact Prod.ext (by dsimp only; grind) (by dsimp only; grind)
theorem on_btw (a b : Pl) {k : Rat} (h0 : 0 ≤ k) (h1 : k ≤ 1) : btw a b (onR a b k) = true := by
  have ha : side3 a b (onR a b k) = 0 := by unfold side3; rw [on_area]; decide
  have m1 := mul_between (u := (wayR a b).1) h0 h1
  have m2 := mul_between (u := (wayR a b).2) h0 h1
  have z : ∀ x : Rat, k * x = 0 → k = 0 ∨ x = 0 := fun x h => Rat.mul_eq_zero.1 h
  unfold btw
  simp only [ha, Bool.and_eq_true, Bool.or_eq_true, decide_eq_true_iff, true_and, decide_true]
  simp only [pcmp_ge, pcmp_le]
  unfold onR
  have z1 := z (wayR a b).1
  have z3 : (1 - k) * (wayR a b).1 = 0 → 1 - k = 0 ∨ (wayR a b).1 = 0 := fun h => Rat.mul_eq_zero.1 h
  unfold wayR at *
  dsimp only at *
  by_cases e : b.1 - a.1 = 0
  · grind
  · by_cases e0 : k = 0
    · grind
    · by_cases e1 : k = 1
      · grind
      · grind
theorem far_btw (a b p : Pl) : btw a b p = true ↔ farR a b p = 0 := by
  constructor
  · intro h; unfold farR; rw [ft_self h]; unfold dotR wayR; grind
  · intro h
    have e := way_zero (dot_zero h)
    obtain ⟨k, k0, k1, hk⟩ := ft_on a b p
    rw [← e, hk]
    exact on_btw a b k0 k1
theorem on_in (x u : Rat) {k : Rat} (h0 : 0 ≤ k) (h1 : k ≤ 1) : (x ≤ x + k * (u - x) ∧ x + k * (u - x) ≤ u) ∨ (u ≤ x + k * (u - x) ∧ x + k * (u - x) ≤ x) := by
  rcases mul_between (u := u - x) h0 h1 with h | h
  · left; grind
  · right; grind
theorem ft_in (a b p : Pl) : ((a.1 ≤ (ftR a b p).1 ∧ (ftR a b p).1 ≤ b.1) ∨ (b.1 ≤ (ftR a b p).1 ∧ (ftR a b p).1 ≤ a.1)) ∧ ((a.2 ≤ (ftR a b p).2 ∧ (ftR a b p).2 ≤ b.2) ∨ (b.2 ≤ (ftR a b p).2 ∧ (ftR a b p).2 ≤ a.2)) := by
  obtain ⟨k, k0, k1, hk⟩ := ft_on a b p
  rw [hk]
  unfold onR wayR
  exact ⟨on_in _ _ k0 k1, on_in _ _ k0 k1⟩
end Go.Proofs.YtggfppgjabembaaGreatDoor

namespace Go.Proofs.YtggfppgjabembaaGreatDoor
open Go.RowKit Go.Proofs.YtggfppgjabembaaGreatDoorW.PrintLast
set_option linter.unusedVariables false
set_option linter.unusedSimpArgs false
def ptC : List Pt → List Value
  | [] => []
  | p :: r => .int .u64 p.1 :: .int .u64 p.2 :: ptC r
theorem ptC_snoc (l : List Pt) (p : Pt) : ptC (l ++ [p]) = ptC l ++ [.int .u64 p.1, .int .u64 p.2] := by
  induction l with
  | nil => rfl
  | cons x l ih => simp [ptC, ih]
theorem ptC_len (l : List Pt) : (ptC l).length = l.length * 2 := by
  induction l with
  | nil => rfl
  | cons x l ih => simp [ptC, ih]; omega
theorem ptC_get : ∀ (l : List Pt) (i : Nat), i < l.length → (ptC l)[i * 2]? = some (.int .u64 (l.getD i (0, 0)).1) ∧ (ptC l)[i * 2 + 1]? = some (.int .u64 (l.getD i (0, 0)).2)
  | p :: l, 0, h => ⟨rfl, rfl⟩
  | p :: l, i + 1, h => by
    have := ptC_get l i (by simpa using h)
    rw [show (i + 1) * 2 = i * 2 + 2 by omega]
    exact this
theorem info_ptz : (Tryz.prog.info? 24).map (fun i => (i.zero, i.size, i.bytes)) = some (some (.agg #[.int .u64 0, .int .u64 0]), 2, 16) := by kernel_rfl
theorem wpList_app_pt {w : World} {ops : Array Oper} {rest : List Oper} {o : Oper} {a : Act} {Q : Exit → Act → World → Prop} (hgd : o.guard = none) (s x : Operand) (ho : o.op = .call { callee := .builtin .append, args := #[s, x], argTypes := #[37, 37] })
    (base n : Nat) (v : Value) (xs : List Value) (hs : a.eval s = v) (hown : w.ownsRow base 24 2 v n xs) (g c : Nat) (p : Pt) (hx : a.eval x = .slice (some ⟨g, 0, none⟩) 1 c)
    (hg : w.heap[g]? = some (.cells #[.int .u64 p.1, .int .u64 p.2] 24 (0, 0))) (hn : n ≤ 1000000) (hbase : base ≤ w.heap.size)
    (h : ∀ v' w', w'.ownsRow base 24 2 v' (n + 1) (xs ++ [.int .u64 p.1, .int .u64 p.2]) → w.grownBy w' v.ownBlock → wpList Tryz.prog ops Q rest (a.put o.dst v') w') : wpList Tryz.prog ops Q (o :: rest) a w := by
  obtain ⟨i, hi, h1, h2, h3⟩ := info_parts info_ptz
  exact wpList_append_own w hgd s x 37 ho base 24 i _ 2 16 Tryz.underlying37 hi h1 h2 h3 rfl (by decide) v n xs hs hown ⟨g, 0, none⟩ 1 c [.int .u64 p.1, .int .u64 p.2] hx rfl (cells_row hg)
    (by intro u hu; simp at hu; rcases hu with rfl | rfl <;> rfl) (by simp only [maxLen]; omega) (by omega) hbase (fun v' w' h1 h2 _ => h v' w' h1 h2)
set_option maxRecDepth 100000 in
set_option maxHeartbeats 3200000 in
theorem lCut (A : Option Addr) (c : Nat) (ps : List Pt) (w : World) (hp : PtsIn w A ps) (hl : ps.length ≤ 9223372036854775807) :
    Calls Tryz.prog 31 #[.slice A ps.length c] w fun e w' => ∃ v, e = .returned v ∧ w'.ownsRow w.heap.size 24 2 v (ps.take 10).length (ptC (ps.take 10)) ∧ Below w.heap.size w w' := by
  have HP := Lib.hid hp
  clear hp
  go_enter Tryz.func31, Tryz.ntmps31
  ((try dsimp only); repeat (first | go_values | go_skip | go_guarded | go_step | go_upon))
  go_loopw [3, 4] (fun v i wr => ∃ (k : Nat) (vv : Value), v = vv ∧ i = .int .i64 (k : Int) ∧ k ≤ 10 ∧ k ≤ ps.length ∧ wr.ownsRow w.heap.size 24 2 vv k (ptC (ps.take k)) ∧ Below w.heap.size w wr) (fun _ i _ => 10 - (intOf i).toNat)
  case atStart => exact ⟨0, _, rfl, rfl, Nat.zero_le _, Nat.zero_le _, World.ownsRow_nil _ _ _ _, Below.refl _ _⟩
  case round =>
    obtain ⟨k, vv, hvv, rfl, hk, hkl, hown, hB⟩ := hrel
    have hvv' := hvv.symm
    subst hvv'
    by_cases h0 : k < ps.length
    · by_cases h1 : k < 10
      · obtain ⟨b, o, rfl, hb, hpa⟩ := HP.out.open h0
        have hc0 := (hB.cell (p := ⟨b, o + k * 2, none⟩) hb).trans (hpa k h0).1
        have hc1 := (hB.cell (p := ⟨b, o + k * 2 + 1, none⟩) hb).trans (hpa k h0).2
        have HT : Hid (ps.take (k + 1) = ps.take k ++ [ps.getD k (0, 0)]) := Lib.hid (by rw [List.take_add_one, List.getD_eq_getElem?_getD, List.getElem?_eq_getElem h0]; rfl)
        generalize ps.getD k (0, 0) = p at *
        have hki : (k : Int) < 10 := by omega
        have HX := Lib.hid hB
        have hsz := hB.size
        clear hpa hB
        ((try dsimp only); repeat (first | (with_reducible refine wpList_app_pt rfl (.tmp 15) (.tmp 20) rfl w.heap.size k vv (ptC (ps.take k)) rfl (World.ownsRow.alloc hown _) _ 1 p rfl (alloc_new _ _) (by omega) (by rw [World.size_alloc]; omega) ?_) | go_values | go_skip | go_guarded | go_step | go_upon))
        intro v2 w2 hown2 hgr
        have hB2 := ownsRow_below (World.ownsRow.alloc hown (.cells #[.int .u64 p.1, .int .u64 p.2] 24)) (HX.out.alloc hsz _) (by rw [World.size_alloc]; omega) hgr
        have HE := Lib.hid (And.intro hown2 hB2)
        clear hown2 hB2 hgr hown hsz hc0 hc1
        ((try dsimp only); repeat (first | go_values | go_skip | go_guarded | go_step | go_upon))
        exact ⟨⟨k + 1, v2, rfl, vint (by omega), by omega, h0, by rw [HT.out, ptC_snoc]; exact HE.out.1, HE.out.2⟩, by simp [intOf]; omega⟩
      · have hk10 : k = 10 := by omega
        have hki : ¬ (k : Int) < 10 := by omega
        have HX := Lib.hid (And.intro hown hB)
        have HT : Hid ((ps.take 10).length = k ∧ ps.take 10 = ps.take k) := Lib.hid ⟨by rw [List.length_take]; omega, by rw [hk10]⟩
        clear hown hB hk10
        ((try dsimp only); repeat (first | go_values | go_skip | go_guarded | go_step | go_upon))
        go_ret
        exact ⟨vv, rfl, by rw [HT.out.1, HT.out.2]; exact HX.out.1, HX.out.2⟩
    · have hkl2 : k = ps.length := by omega
      have HX := Lib.hid (And.intro hown hB)
      have HT : Hid ((ps.take 10).length = k ∧ ps.take 10 = ps.take k) := Lib.hid ⟨by rw [List.length_take]; omega, by rw [hkl2, List.take_length, List.take_of_length_le (by omega)]⟩
      clear hown hB hkl2
      ((try dsimp only); repeat (first | go_values | go_skip | go_guarded | go_step | go_upon))
      go_ret
      exact ⟨vv, rfl, by rw [HT.out.1, HT.out.2]; exact HX.out.1, HX.out.2⟩
end Go.Proofs.YtggfppgjabembaaGreatDoor

namespace Go.Proofs.YtggfppgjabembaaGreatDoor
open Go.RowKit
set_option linter.unusedVariables false
set_option linter.unusedSimpArgs false
def InBox (a b p : Pl) : Prop := ((a.1 ≤ p.1 ∧ p.1 ≤ b.1) ∨ (b.1 ≤ p.1 ∧ p.1 ≤ a.1)) ∧ ((a.2 ≤ p.2 ∧ p.2 ≤ b.2) ∨ (b.2 ≤ p.2 ∧ p.2 ≤ a.2))
theorem btw_box {a b p : Pl} (h : btw a b p = true) : InBox a b p := by
  have := ft_in a b p
  rw [ft_self h] at this
  exact this
theorem on_box (a b : Pl) {k : Rat} (h0 : 0 ≤ k) (h1 : k ≤ 1) : InBox a b (onR a b k) := by
  unfold onR wayR InBox
  exact ⟨on_in _ _ h0 h1, on_in _ _ h0 h1⟩
theorem out_box {a b c d x : Rat} (h1 : (a ≤ x ∧ x ≤ b) ∨ (b ≤ x ∧ x ≤ a)) (h2 : (c ≤ x ∧ x ≤ d) ∨ (d ≤ x ∧ x ≤ c)) : outB a b c d = false := by
  refine Bool.eq_false_iff.2 fun h => ?_
  unfold outB at h
  simp only [Bool.or_eq_true, decide_eq_true_iff] at h
  have l : ∀ {p q : Rat}, qcmp p q < 0 → p < q := fun {p q} h => qcmp_lt.1 (by rcases qcmp_cases p q with ⟨k, _⟩ | ⟨k, _⟩ | ⟨k, _⟩ <;> omega)
  have g : ∀ {p q : Rat}, 0 < qcmp p q → q < p := fun {p q} h => qcmp_pos.1 h
  rcases h with ⟨a1, a2, a3, a4⟩ | ⟨a1, a2, a3, a4⟩
  · have := l a1; have := l a2; have := l a3; have := l a4; grind
  · have := g a1; have := g a2; have := g a3; have := g a4; grind
theorem ap_box {a b c d p : Pl} (h1 : InBox a b p) (h2 : InBox c d p) : apB a b c d = false := by
  unfold apB
  rw [out_box h1.1 h2.1, out_box h1.2 h2.2]
  rfl
theorem cr_on (a b c d : Pl) : crR a b c d = onR a b (crK a b c d) := rfl
theorem cross_box {a b c d : Pl} (h1 : side3 a b c * side3 a b d < 0) (h2 : side3 c d a * side3 c d b < 0) : InBox a b (crR a b c d) ∧ InBox c d (crR a b c d) := by
  have t1 := turn_ne h1
  have t2 := turn_ne h2
  have k1 : 0 ≤ crK a b c d ∧ crK a b c d ≤ 1 := by rw [crK_eq]; exact frac_range h2
  have k2 : 0 ≤ crK c d a b ∧ crK c d a b ≤ 1 := by rw [crK_eq]; exact frac_range h1
  refine ⟨by rw [cr_on]; exact on_box _ _ k1.1 k1.2, ?_⟩
  have e : crR c d a b = crR a b c d := cross_one t2 (cross_on2 t1) (cross_on1 a b c d)
  rw [← e, cr_on]
  exact on_box _ _ k2.1 k2.2
theorem meet_near {a b c d : Pt} (fa : FinP a) (fb : FinP b) (fc : FinP c) (fd : FinP d) (h : (meetM a b c d).kind ≠ 0) : apB (pl a) (pl b) (pl c) (pl d) = false := by
  have s := meetM_sym fa fb fc fd
  cases hp : (meetM a b c d).proper
  · have hx : ∃ p, TT (pl a) (pl b) (pl c) (pl d) p := Classical.byContradiction fun hn => h (s.k0 hp fun p hT => hn ⟨p, hT⟩)
    obtain ⟨p, h1, h2, _⟩ := hx
    exact ap_box (btw_box h1) (btw_box h2)
  · obtain ⟨_, h1, h2⟩ := meetM_properP hp
    obtain ⟨b1, b2⟩ := cross_box h1 h2
    exact ap_box b1 b2
theorem meet_end {a b c d q : Pt} (fa : FinP a) (fb : FinP b) (fc : FinP c) (fd : FinP d) (h : (meetM a b c d).kind = 1) (hq : TT (pl a) (pl b) (pl c) (pl d) (pl q)) (hz : sideP a b c = 0 ∨ sideP a b d = 0) :
    placeB (meetM a b c d).P q = true := by
  have s := meetM_sym fa fb fc fd
  cases hp : (meetM a b c d).proper
  · have := (s.ks hp _ hq).2.2.1 h
    exact decide_eq_true this.symm
  · obtain ⟨_, h1, h2⟩ := meetM_properP hp
    rcases hz with e | e <;> rw [e] at h1 <;> simp at h1
def sameP (ps : List Pt) (i j : Nat) : Bool := placeB (ptk ps i) (ptk ps j)
def comP (ps : List Pt) (i j : Nat) : Bool := decide ((mkP ps i j).kind = 1) && decide (j = i + 1) && placeB (mkP ps i j).P (ptk ps j)
def lasP (ps : List Pt) (n i j : Nat) : Bool := decide ((mkP ps i j).kind = 1) && decide (3 ≤ n) && decide (i = 0) && decide (j = n - 1) && placeB (ptk ps 0) (ptk ps n) && placeB (mkP ps i j).P (ptk ps 0)
theorem placeB_iff {a b : Pt} (fa : FinP a) (fb : FinP b) : placeB a b = decide (zp a = zp b) := by
  unfold placeB
  refine decide_eq_decide.2 ⟨fun h => ?_, fun h => ?_⟩
  · exact (good_zp fa.1 fa.2).inj (good_zp fb.1 fb.2) (by rw [pl_zp, pl_zp]; exact h)
  · rw [← pl_zp a, ← pl_zp b, h]
theorem all_law {ps : List Pt} {n i j : Nat} (hf : ∀ p ∈ ps, FinP p) (hn : ps.length = n + 1) (hij : i < j) (hj : j < n) :
    tstP ps n i j = !(decide ((mkP ps i j).kind = 0) || comP ps i j || lasP ps n i j) ∧ (decide ((mkP ps i j).kind = 1) && decide (j = i + 1) = true → comP ps i j = true) ∧
      (decide ((mkP ps i j).kind = 1) && decide (3 ≤ n) && decide (i = 0) && decide (j = n - 1) && placeB (ptk ps 0) (ptk ps n) = true → lasP ps n i j = true) := by
  have g : ∀ k, k ≤ n → FinP (ptk ps k) := fun k hk => hf _ (getD_mem (by omega))
  have f0 := g i (by omega)
  have f1 := g (i + 1) (by omega)
  have f2 := g j (by omega)
  have f3 := g (j + 1) (by omega)
  have hnear : (mkP ps i j).kind ≠ 0 → apP ps i j = false := meet_near f0 f1 f2 f3
  have hk := (meetM_sym f0 f1 f2 f3).kd
  have hkd : (mkP ps i j).kind = 0 ∨ (mkP ps i j).kind = 1 ∨ (mkP ps i j).kind = 2 := hk
  have c1 : (mkP ps i j).kind = 1 → j = i + 1 → placeB (mkP ps i j).P (ptk ps j) = true := fun h e => by
    subst e
    exact meet_end f0 f1 f2 f3 h ⟨btw_other _ _, btw_self _ _, Or.inr (Or.inl rfl)⟩ (Or.inl (side3_abb _ _))
  have c2 : (mkP ps i j).kind = 1 → i = 0 → j = n - 1 → placeB (ptk ps 0) (ptk ps n) = true → placeB (mkP ps i j).P (ptk ps 0) = true := fun h e1 e2 hs => by
    subst e1
    have e3 : j + 1 = n := by omega
    have hpl : pl (ptk ps 0) = pl (ptk ps (j + 1)) := by rw [e3]; exact of_decide_eq_true hs
    refine meet_end f0 f1 f2 f3 h ⟨btw_self _ _, ?_, Or.inl rfl⟩ (Or.inr ?_)
    · rw [hpl]; exact btw_other _ _
    · unfold sideP; rw [← hpl]; exact side3_aba _ _
  have hrd : rndP ps n = (decide (2 < n) && placeB (ptk ps 0) (ptk ps n)) := by unfold rndP; rw [placeB_iff (g 0 (by omega)) (g n (Nat.le_refl _))]
  unfold tstP comP lasP nbrP
  rw [hrd]
  generalize placeB (ptk ps 0) (ptk ps n) = S at *
  generalize placeB (mkP ps i j).P (ptk ps j) = U at *
  generalize placeB (mkP ps i j).P (ptk ps 0) = V at *
  generalize apP ps i j = ap at *
  generalize (mkP ps i j).kind = k at *
  have d3 : decide (2 < n) = decide (3 ≤ n) := rfl
  rw [d3]
  by_cases e1 : j = i + 1 <;> by_cases e2 : i = 0 <;> by_cases e3 : j = n - 1 <;> by_cases e4 : 3 ≤ n <;> rcases hkd with rfl | rfl | rfl <;> cases S <;> simp_all
  all_goals (exfalso; omega)
end Go.Proofs.YtggfppgjabembaaGreatDoor

namespace Go.Proofs.YtggfppgjabembaaGreatDoor
open Go.RowKit Go.Proofs.YtggfppgjabembaaGreatDoorW.PrintLast
set_option linter.unusedVariables false
set_option linter.unusedSimpArgs false
theorem rowP_pre (ps : List Pt) (n i : Nat) : ∀ j k, i < j → j ≤ k → rowP ps n i j <+: rowP ps n i k
  | j, 0, h, hk => by omega
  | j, k + 1, h, hk => by
    by_cases e : j = k + 1
    · subst e; exact List.prefix_refl _
    · have := rowP_pre ps n i j k h (by omega)
      rw [rowP_step (by omega)]
      split
      · exact this.trans (List.prefix_append _ _)
      · exact this
theorem prsP_pre (ps : List Pt) (n : Nat) : ∀ i k, i ≤ k → prsP ps n i <+: prsP ps n k
  | i, 0, h => by
    have : i = 0 := by omega
    subst this; exact List.prefix_refl _
  | i, k + 1, h => by
    by_cases e : i = k + 1
    · subst e; exact List.prefix_refl _
    · exact (prsP_pre ps n i k (by omega)).trans (List.prefix_append _ _)
theorem prsP_at {ps : List Pt} {n i j : Nat} (hi : i < n) (hij : i < j) (hj : j < n) (ht : tstP ps n i j = true) :
    (prsP ps n n)[(prsP ps n i ++ rowP ps n i j).length]? = some (i, j) ∧ (prsP ps n i ++ rowP ps n i j).length < (prsP ps n n).length := by
  have h1 : rowP ps n i j ++ [(i, j)] <+: rowP ps n i n := by
    have := rowP_pre ps n i (j + 1) n (by omega) (by omega)
    rw [rowP_step hij, if_pos ht] at this
    exact this
  have h2 : prsP ps n i ++ (rowP ps n i j ++ [(i, j)]) <+: prsP ps n n := by
    obtain ⟨t, h1⟩ := h1
    refine List.IsPrefix.trans ⟨t, ?_⟩ (prsP_pre ps n (i + 1) n (by omega))
    rw [prsP, List.append_assoc, h1]
  rw [← List.append_assoc] at h2
  obtain ⟨t, h2⟩ := h2
  rw [← h2]
  refine ⟨?_, by simp⟩
  rw [List.append_assoc, List.getElem?_append_right (Nat.le_refl _), Nat.sub_self]
  rfl
theorem prC_len (l : List (Nat × Nat)) : (prC l).length = l.length * 2 := by
  induction l with
  | nil => rfl
  | cons x l ih => obtain ⟨a, b⟩ := x; simp [prC, ih]; omega
theorem prC_get : ∀ (l : List (Nat × Nat)) (k i j : Nat), l[k]? = some (i, j) → (prC l)[k * 2]? = some (.int .i64 (i : Int)) ∧ (prC l)[k * 2 + 1]? = some (.int .i64 (j : Int))
  | (a, b) :: l, 0, i, j, h => by simp at h; obtain ⟨rfl, rfl⟩ := h; exact ⟨rfl, rfl⟩
  | (a, b) :: l, k + 1, i, j, h => by
    have := prC_get l k i j (by simpa using h)
    rw [show (k + 1) * 2 = k * 2 + 2 by omega]
    exact this
  | [], k, i, j, h => by simp at h
theorem own_pair {w : World} {base n g c k i j : Nat} {l : List (Nat × Nat)} (h : w.ownsRow base 69 2 (.slice (some ⟨g, 0, none⟩) n c) n (prC l)) (hk : l[k]? = some (i, j)) :
    w.cell? ⟨g, k * 2, none⟩ = some (.int .i64 (i : Int)) ∧ w.cell? ⟨g, k * 2 + 1, none⟩ = some (.int .i64 (j : Int)) := by
  have key : ∀ m u, (prC l)[m]? = some u → w.cell? ⟨g, m, none⟩ = some u := fun m u hu => by
    have := h.cells rfl m u hu
    have e : (⟨g, 0, none⟩ : Addr).add m = ⟨g, m, none⟩ := by
      unfold Addr.add
      split
      · rename_i h; simp [h]
      · simp
    rw [e] at this
    exact this
  obtain ⟨k1, k2⟩ := prC_get l k i j hk
  exact ⟨key _ _ k1, key _ _ k2⟩
theorem own_pt {w : World} {base m c g i : Nat} {l : List Pt} (h : w.ownsRow base 24 2 (.slice (some ⟨g, 0, none⟩) m c) m (ptC l)) (hi : i < l.length) :
    w.cell? ⟨g, i * 2, none⟩ = some (.int .u64 (ptk l i).1) ∧ w.cell? ⟨g, i * 2 + 1, none⟩ = some (.int .u64 (ptk l i).2) := by
  have key : ∀ m u, (ptC l)[m]? = some u → w.cell? ⟨g, m, none⟩ = some u := fun m u hu => by
    have := h.cells rfl m u hu
    have e : (⟨g, 0, none⟩ : Addr).add m = ⟨g, m, none⟩ := by
      unfold Addr.add
      split
      · rename_i h; simp [h]
      · simp
    rw [e] at this
    exact this
  obtain ⟨k1, k2⟩ := ptC_get l i hi
  exact ⟨key _ _ k1, key _ _ k2⟩
@[go_sem] theorem eq_two (a b c d : Int) (w : World) : (Op.equalIn 10000 69 (.agg #[.int .i64 a, .int .i64 b]) (.agg #[.int .i64 c, .int .i64 d])).run Tryz.prog w = .ok (a == c && b == d) w := by
  have u3 := Tryz.underlying3
  have a3 := Tryz.isAgg3
  have z3 := Tryz.sizeOf3
  rw [show (10000 : Nat) = 9999 + 1 from rfl, Op.equalIn]
  simp only [Sem.run_bind, run_underlying Tryz.underlying69, Result.andThen_ok]
  simp only [Std.Legacy.Range.forIn_eq_forIn_range', Std.Legacy.Range.size, Nat.sub_zero, Nat.add_sub_cancel, Nat.div_one, List.range'_succ, List.range'_zero, List.forIn_cons, List.forIn_nil]
  go_simp
  by_cases h1 : a = c <;> by_cases h2 : b = d <;> simp [h1, h2]
end Go.Proofs.YtggfppgjabembaaGreatDoor
