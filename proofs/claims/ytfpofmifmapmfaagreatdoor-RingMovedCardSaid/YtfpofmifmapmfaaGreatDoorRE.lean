/- Package pred: Area2 of finite points (printed by gen_ring27.py). -/
import Derived.Test.YtfpofmifmapmfaaGreatDoorRD
import Derived.Test.YtfpofmifmapmfaaGreatDoorRB
namespace Go.Proofs.YtfpofmifmapmfaaGreatDoor
open Go.RowKit
set_option linter.unusedVariables false
set_option linter.unusedSimpArgs false
theorem quo_whole (s : Bool) (m : Int) (k : Nat) : quo s (m * 2 ^ k) (2 ^ k) = if s then -(m : Rat) else (m : Rat) := by
  unfold quo
  have hp : (0 : Int) < 2 ^ k := ipow_pos k
  obtain ⟨D, hD⟩ := pow_nat k
  rw [show ((2 : Int) ^ k).toNat = D by omega]
  have e : (if s then -(m * 2 ^ k) else m * 2 ^ k) = (if s then -m else m) * (D : Int) := by rw [hD]; cases s <;> simp [Int.neg_mul]
  rw [e]
  have h0 : ((D : Int) : Rat) ≠ 0 := by
    intro h
    have : (D : Int) = 0 := by exact_mod_cast h
    omega
  rw [Rat.mkRat_eq_div, Rat.intCast_mul]
  have h1 : ((D : Nat) : Rat) = ((D : Int) : Rat) := by first | rfl | exact_mod_cast rfl | simp
  rw [h1]
  cases s <;> simp only [if_true, if_false, Bool.false_eq_true, Rat.intCast_neg] <;> grind
theorem jn_parts {s : Bool} {M e : Int} (h0 : 4503599627370496 ≤ M) (h1 : M < 9007199254740992) (he : -1074 ≤ e) (he1 : e ≤ 971) :
    Fin64 (jn s M e) ∧ fneg (jn s M e) = s ∧ fm (jn s M e) = M ∧ fx (jn s M e) = e := by
  have a : fe (jn s M e) = e + 1075 := by unfold fe jn; cases s <;> simp only [if_true, if_false, Bool.false_eq_true] <;> omega
  have b : ff (jn s M e) = M - 4503599627370496 := by unfold ff jn; cases s <;> simp only [if_true, if_false, Bool.false_eq_true] <;> omega
  refine ⟨⟨?_, ?_, ?_⟩, ?_, ?_, ?_⟩
  · unfold jn; cases s <;> simp only [if_true, if_false, Bool.false_eq_true] <;> omega
  · unfold jn; cases s <;> simp only [if_true, if_false, Bool.false_eq_true] <;> omega
  · omega
  · unfold fneg jn; cases s <;> simp only [if_true, if_false, Bool.false_eq_true, decide_eq_true_eq, decide_eq_false_iff_not] <;> omega
  · unfold fm; rw [a, b, if_neg (by omega)]; omega
  · unfold fx; rw [a, if_neg (by omega)]; omega
theorem njn_val (s : Bool) {m : Int} (h0 : 0 < m) (h1 : m < 9007199254740992) : fval (njn s m 0) = (if s then -(m : Rat) else (m : Rat)) ∧ Fin64 (njn s m 0) := by
  have z0 := ctz_range m
  have z1 := ctz_lt h0 (show m ≤ 18446744073709551615 by omega)
  have z2 := ctz_dvd h0 (show m ≤ 18446744073709551615 by omega)
  unfold njn
  obtain ⟨z, hzz⟩ : ∃ z : Nat, ctz m = z := ⟨(ctz m).toNat, by omega⟩
  rw [hzz] at z1 z2 z0 ⊢
  rw [Int.toNat_natCast] at z2 ⊢
  obtain ⟨q, hq⟩ : ∃ q, m / 2 ^ z = q := ⟨_, rfl⟩
  rw [hq]
  have hqm : q * 2 ^ z = m := by rw [← hq]; exact Int.ediv_mul_cancel (Int.dvd_of_emod_eq_zero z2)
  have hq0 : 0 < q := by
    have hp := ipow_pos z
    rcases Int.lt_trichotomy q 0 with h | h | h
    · have := Int.mul_neg_of_neg_of_pos h hp; omega
    · rw [h, Int.zero_mul] at hqm; omega
    · exact h
  have hbl := blen_mul_pow z hq0
  rw [hqm] at hbl
  have hbm : blen m ≤ 53 := blen_le_of_lt (n := 53) (by show m < 9007199254740992; omega)
  have hb1 := blen_pos hq0
  obtain ⟨u, hu⟩ : ∃ u : Nat, (53 - blen q : Int) = u := ⟨(53 - blen q).toNat, by omega⟩
  have hbM := blen_mul_pow u hq0
  have hM0 : 0 < q * 2 ^ u := Int.mul_pos hq0 (ipow_pos u)
  have hM1 : 4503599627370496 ≤ q * 2 ^ u := by
    have := blen_le hM0
    rw [hbM, show (blen q + u - 1).toNat = 52 by omega] at this
    exact this
  have hM2 : q * 2 ^ u < 9007199254740992 := by
    have := blen_lt (q * 2 ^ u)
    rw [hbM, show (blen q + u).toNat = 53 by omega] at this
    exact this
  rw [hu, Int.toNat_natCast]
  obtain ⟨p1, p2, p3, p4⟩ := jn_parts (s := s) hM1 hM2 (e := 0 + (z : Int) - u) (by omega) (by omega)
  refine ⟨?_, p1⟩
  unfold fval fnum fden
  rw [p2, p3, p4]
  rcases Nat.le_total u z with h | h
  · rw [show (-(0 + (z : Int) - u)).toNat = 0 by omega, show (0 + (z : Int) - u).toNat = z - u by omega]
    have : q * 2 ^ u * 2 ^ (z - u) = m * 2 ^ 0 := by
      rw [Int.mul_assoc, ← Int.pow_add, show u + (z - u) = z by omega, hqm, Int.pow_zero, Int.mul_one]
    rw [this]
    exact quo_whole s m 0
  · rw [show (-(0 + (z : Int) - u)).toNat = u - z by omega, show (0 + (z : Int) - u).toNat = 0 by omega]
    have : q * 2 ^ u * 2 ^ 0 = m * 2 ^ (u - z) := by
      rw [Int.pow_zero, Int.mul_one, ← hqm, Int.mul_assoc, ← Int.pow_add, show z + (u - z) = u by omega]
    rw [this]
    exact quo_whole s m (u - z)
theorem numP_val {v : Int} (h : -9007199254740991 ≤ v ∧ v ≤ 9007199254740991) : fval (numP v) = (v : Rat) ∧ Fin64 (numP v) := by
  unfold numP
  split
  · rename_i e
    subst e
    exact ⟨fval_zero, ⟨by decide, by decide, by decide⟩⟩
  · rename_i e
    obtain ⟨a, b⟩ := njn_val (decide (v < 0)) (m := ((v.natAbs : Nat) : Int)) (by omega) (by omega)
    refine ⟨?_, b⟩
    rw [a]
    by_cases hv : v < 0
    · rw [decide_eq_true hv, if_pos rfl, show ((v.natAbs : Nat) : Int) = -v by omega, Rat.intCast_neg, Rat.neg_neg]
    · rw [decide_eq_false hv, if_neg (by decide), show ((v.natAbs : Nat) : Int) = v by omega]
end Go.Proofs.YtfpofmifmapmfaaGreatDoor

namespace Go.Proofs.YtfpofmifmapmfaaGreatDoor
open Go.RowKit Go.Proofs.YtfpofmifmapmfaaGreatDoorW.PrintLast
set_option linter.unusedVariables false
set_option linter.unusedSimpArgs false
theorem tricho (a b : Rat) : a < b ∨ a = b ∨ b < a := by grind
theorem mul_pp {x y : Rat} (hx : 0 < x) (hy : 0 < y) : 0 < x * y := Rat.mul_pos hx hy
theorem mul_nn {x y : Rat} (hx : 0 ≤ x) (hy : 0 ≤ y) : 0 ≤ x * y := Rat.mul_nonneg hx hy
theorem tri_one {X Y Z x y z : Rat} (e : Z * z = Y * x + X * y) (hz : 0 < z) (hx : 0 ≤ x) (hy : 0 ≤ y) (hS : 0 < X + Y + Z) (hn : X < 0 ∨ Y < 0 ∨ Z < 0) : 0 < X ↔ Y < 0 := by
  constructor
  · intro h
    refine Rat.not_le.1 fun hY => ?_
    have k1 := mul_nn hY hx
    have k2 := mul_nn (Rat.le_of_lt h) hy
    have hZ : Z < 0 := by grind
    have k3 := mul_pp (x := -Z) (y := z) (by grind) hz
    grind
  · intro h
    refine Rat.not_le.1 fun hX => ?_
    have k1 := mul_nn (x := -Y) (y := x) (by grind) hx
    have k2 := mul_nn (x := -X) (y := y) (by grind) hy
    have k3 := mul_pp (x := Z) (y := z) (by grind) hz
    grind
theorem tri_two {X Y Z x y z : Rat} (e : Z * z = Y * x + X * y) (hz : 0 ≤ z) (hx : 0 < x) (hy : 0 < y) (hS : 0 < X + Y + Z) (hn : X < 0 ∨ Y < 0 ∨ Z < 0) : 0 < X ↔ Y < 0 := by
  constructor
  · intro h
    refine Rat.not_le.1 fun hY => ?_
    have k1 := mul_nn hY (Rat.le_of_lt hx)
    have k2 := mul_pp h hy
    have hZ : Z < 0 := by grind
    have k3 := mul_nn (x := -Z) (y := z) (by grind) hz
    grind
  · intro h
    refine Rat.not_le.1 fun hX => ?_
    have k1 := mul_pp (x := -Y) (y := x) (by grind) hx
    have k2 := mul_nn (x := -X) (y := y) (by grind) (Rat.le_of_lt hy)
    have k3 := mul_nn (x := Z) (y := z) (by grind) hz
    grind
theorem tri_on {V W ax ay bx by_ cx cy : Rat} (e1 : V * ax + W * bx = 0) (e2 : V * ay + W * by_ = 0) (hW : W = cx * ay - cy * ax) (hV : V = bx * cy - by_ * cx) (hS : 0 < V + W)
    (ha : ax < 0 ∨ (ax = 0 ∧ ay ≤ 0)) (hb : 0 < bx ∨ (bx = 0 ∧ 0 ≤ by_)) : 0 ≤ V ∧ 0 ≤ W := by
  have key : ∀ {P Q : Rat}, P * ax + Q * bx = 0 → P * ay + Q * by_ = 0 → 0 < P + Q → Q < 0 → ax = 0 ∧ ay = 0 ∧ bx = 0 ∧ by_ = 0 := by
    intro P Q f1 f2 f3 f4
    have hP : 0 < P := by grind
    have hax : ax = 0 := by
      rcases ha with h | h
      · exfalso
        have k1 := mul_pp (x := P) (y := -ax) hP (by grind)
        have k2 := mul_nn (x := -Q) (y := bx) (by grind) (by grind)
        grind
      · exact h.1
    have hbx : bx = 0 := by
      rcases hb with h | h
      · exfalso
        have k2 := mul_pp (x := -Q) (y := bx) (by grind) h
        rw [hax, Rat.mul_zero, Rat.zero_add] at f1
        rw [Rat.neg_mul, f1] at k2
        grind
      · exact h.1
    have ay0 : ay ≤ 0 := by grind
    have by0 : 0 ≤ by_ := by grind
    have k1 := mul_nn (x := P) (y := -ay) (by grind) (by grind)
    have k2 := mul_nn (x := -Q) (y := by_) (by grind) by0
    have m1 : P * ay = 0 := by grind
    have m2 : Q * by_ = 0 := by grind
    have n1 := (Rat.mul_eq_zero.1 m1).resolve_left (by grind)
    have n2 := (Rat.mul_eq_zero.1 m2).resolve_left (by grind)
    exact ⟨hax, n1, hbx, n2⟩
  have key2 : ∀ {P Q : Rat}, P * ax + Q * bx = 0 → P * ay + Q * by_ = 0 → 0 < P + Q → P < 0 → ax = 0 ∧ ay = 0 ∧ bx = 0 ∧ by_ = 0 := by
    intro P Q f1 f2 f3 f4
    have hP : 0 < Q := by grind
    have hbx : bx = 0 := by
      rcases hb with h | h
      · exfalso
        have k1 := mul_pp (x := Q) (y := bx) hP h
        have k2 := mul_nn (x := -P) (y := -ax) (by grind) (by grind)
        grind
      · exact h.1
    have hax : ax = 0 := by
      rcases ha with h | h
      · exfalso
        have k2 := mul_pp (x := -P) (y := -ax) (by grind) (by grind)
        rw [hbx, Rat.mul_zero, Rat.add_zero] at f1
        have k3 : -P * -ax = P * ax := by grind
        rw [k3, f1] at k2
        grind
      · exact h.1
    have ay0 : ay ≤ 0 := by grind
    have by0 : 0 ≤ by_ := by grind
    have k1 := mul_nn (x := -P) (y := -ay) (by grind) (by grind)
    have k2 := mul_nn (x := Q) (y := by_) (by grind) by0
    have m1 : P * ay = 0 := by grind
    have m2 : Q * by_ = 0 := by grind
    have n1 := (Rat.mul_eq_zero.1 m1).resolve_left (by grind)
    have n2 := (Rat.mul_eq_zero.1 m2).resolve_left (by grind)
    exact ⟨hax, n1, hbx, n2⟩
  refine ⟨Rat.not_lt.1 fun h => ?_, Rat.not_lt.1 fun h => ?_⟩
  · obtain ⟨a1, a2, a3, a4⟩ := key2 e1 e2 hS h
    rw [a3, a4] at hV
    grind
  · obtain ⟨a1, a2, a3, a4⟩ := key e1 e2 hS h
    rw [a1, a2] at hW
    grind
theorem tri_btw {V W ax ay bx by_ : Rat} (e1 : V * ax + W * bx = 0) (e2 : V * ay + W * by_ = 0) (hS : 0 < V + W) (hV : 0 ≤ V) (hW : 0 ≤ W) :
    ((ax < 0 ∨ (ax = 0 ∧ ay ≤ 0)) ∧ (0 < bx ∨ (bx = 0 ∧ 0 ≤ by_))) ∨ ((0 < ax ∨ (ax = 0 ∧ 0 ≤ ay)) ∧ (bx < 0 ∨ (bx = 0 ∧ by_ ≤ 0))) := by
  by_cases h0 : V = 0
  · subst h0
    have hb : bx = 0 := (Rat.mul_eq_zero.1 (show W * bx = 0 by grind)).resolve_left (by grind)
    have hb2 : by_ = 0 := (Rat.mul_eq_zero.1 (show W * by_ = 0 by grind)).resolve_left (by grind)
    grind
  by_cases h1 : W = 0
  · subst h1
    have hb : ax = 0 := (Rat.mul_eq_zero.1 (show V * ax = 0 by grind)).resolve_left (by grind)
    have hb2 : ay = 0 := (Rat.mul_eq_zero.1 (show V * ay = 0 by grind)).resolve_left (by grind)
    grind
  have pV : 0 < V := by grind
  have pW : 0 < W := by grind
  have sg : ∀ {s t : Rat}, V * s + W * t = 0 → (s < 0 → 0 < t) ∧ (0 < s → t < 0) ∧ (s = 0 → t = 0) := by
    intro s t e
    refine ⟨fun h => Rat.not_le.1 fun k => ?_, fun h => Rat.not_le.1 fun k => ?_, fun h => ?_⟩
    · have k1 := mul_pp (x := V) (y := -s) pV (by grind)
      have k2 := mul_nn (x := W) (y := -t) hW (by grind)
      grind
    · have k1 := mul_pp (x := V) (y := s) pV h
      have k2 := mul_nn (x := W) (y := t) hW k
      grind
    · subst h
      exact (Rat.mul_eq_zero.1 (show W * t = 0 by grind)).resolve_left h1
  obtain ⟨x1, x2, x3⟩ := sg e1
  obtain ⟨y1, y2, y3⟩ := sg e2
  rcases tricho ax 0 with h | h | h
  · exact Or.inl ⟨Or.inl h, Or.inl (x1 h)⟩
  · rcases tricho ay 0 with g | g | g
    · exact Or.inl ⟨Or.inr ⟨h, Rat.le_of_lt g⟩, Or.inr ⟨x3 h, Rat.le_of_lt (y1 g)⟩⟩
    · exact Or.inl ⟨Or.inr ⟨h, by grind⟩, Or.inr ⟨x3 h, by have := y3 g; grind⟩⟩
    · exact Or.inr ⟨Or.inr ⟨h, Rat.le_of_lt g⟩, Or.inr ⟨x3 h, Rat.le_of_lt (y2 g)⟩⟩
  · exact Or.inr ⟨Or.inl h, Or.inl (x2 h)⟩
theorem area_form (a b p : Pl) : area2 a b p = (a.1 - p.1) * (b.2 - p.2) + (b.1 - p.1) * (p.2 - a.2) := by unfold area2; grind
theorem up_left {a b p : Pl} (h1 : p.1 < a.1) (h2 : p.1 < b.1) (h3 : a.2 ≤ p.2) (h4 : p.2 < b.2) : 0 < area2 a b p := by
  have k1 := mul_pp (x := a.1 - p.1) (y := b.2 - p.2) (by grind) (by grind)
  have k2 := mul_nn (x := b.1 - p.1) (y := p.2 - a.2) (by grind) (by grind)
  rw [area_form]; grind
theorem down_left {a b p : Pl} (h1 : p.1 < a.1) (h2 : p.1 < b.1) (h3 : b.2 ≤ p.2) (h4 : p.2 < a.2) : area2 a b p < 0 := by
  have k1 := mul_nn (x := a.1 - p.1) (y := p.2 - b.2) (by grind) (by grind)
  have k2 := mul_pp (x := b.1 - p.1) (y := a.2 - p.2) (by grind) (by grind)
  rw [area_form]; grind
theorem up_right {a b p : Pl} (h1 : a.1 < p.1) (h2 : b.1 < p.1) (h3 : a.2 ≤ p.2) (h4 : p.2 < b.2) : area2 a b p < 0 := by
  have k1 := mul_pp (x := p.1 - a.1) (y := b.2 - p.2) (by grind) (by grind)
  have k2 := mul_nn (x := p.1 - b.1) (y := p.2 - a.2) (by grind) (by grind)
  rw [area_form]; grind
theorem down_right {a b p : Pl} (h1 : a.1 < p.1) (h2 : b.1 < p.1) (h3 : b.2 ≤ p.2) (h4 : p.2 < a.2) : 0 < area2 a b p := by
  have k1 := mul_nn (x := p.1 - a.1) (y := p.2 - b.2) (by grind) (by grind)
  have k2 := mul_pp (x := p.1 - b.1) (y := a.2 - p.2) (by grind) (by grind)
  rw [area_form]; grind
theorem on_not_below {a b p : Pl} (h : area2 a b p = 0) (h1 : a.1 ≤ p.1) (h2 : p.1 ≤ b.1) (h3 : a.1 < b.1) (h4 : p.2 < a.2) (h5 : p.2 < b.2) : False := by
  have k1 := mul_nn (x := b.1 - p.1) (y := a.2 - p.2) (by grind) (by grind)
  have k2 := mul_nn (x := p.1 - a.1) (y := b.2 - p.2) (by grind) (by grind)
  rw [area_form] at h
  by_cases e2 : b.1 - p.1 = 0
  · have k3 := mul_pp (x := p.1 - a.1) (y := b.2 - p.2) (by grind) (by grind)
    grind
  · have k3 := mul_pp (x := b.1 - p.1) (y := a.2 - p.2) (by grind) (by grind)
    grind
theorem on_not_above {a b p : Pl} (h : area2 a b p = 0) (h1 : a.1 ≤ p.1) (h2 : p.1 ≤ b.1) (h3 : a.1 < b.1) (h4 : a.2 < p.2) (h5 : b.2 < p.2) : False := by
  refine on_not_below (a := (a.1, -a.2)) (b := (b.1, -b.2)) (p := (p.1, -p.2)) ?_ h1 h2 h3 (by dsimp only; grind) (by dsimp only; grind)
  unfold area2 at *; dsimp only; grind
theorem qc_le {x y : Rat} : qcmp x y ≤ 0 ↔ x ≤ y := by
  rcases qcmp_cases x y with ⟨h, k⟩ | ⟨h, k⟩ | ⟨h, k⟩ <;> rw [h]
  · exact ⟨fun _ => Rat.le_of_lt k, fun _ => by decide⟩
  · exact ⟨fun _ => by rw [k]; exact Rat.le_refl, fun _ => by decide⟩
  · exact ⟨fun e => absurd e (by decide), fun e => absurd e (Rat.not_le.2 k)⟩
theorem qc_gt {x y : Rat} : 0 < qcmp x y ↔ y < x := by
  have := qc_le (x := x) (y := y)
  rw [← Rat.not_le, ← this]; omega
theorem sd_pos {a b p : Pl} : 0 < side3 a b p ↔ 0 < area2 a b p := by
  unfold side3; rw [← qsgn_pos]; rcases qsgn_cases (area2 a b p) with h | h | h <;> rw [h] <;> decide
theorem sd_neg {a b p : Pl} : side3 a b p < 0 ↔ area2 a b p < 0 := by
  unfold side3; rw [← qsgn_neg]; rcases qsgn_cases (area2 a b p) with h | h | h <;> rw [h] <;> decide
def crossP (p a b : Pl) : Int := if a.2 ≤ p.2 ∧ p.2 < b.2 ∧ 0 < area2 a b p then 1 else if b.2 ≤ p.2 ∧ p.2 < a.2 ∧ area2 a b p < 0 then -1 else 0
theorem crossE_pl (p : Pt) (e : Ed) : crossE p e = crossP (pl p) (pl e.1) (pl e.2) := by
  unfold crossE crossP sideP
  simp only [qc_le, qc_gt, sd_pos, sd_neg]
  rfl
theorem area_sum3 (a b c p : Pl) : area2 a b p + area2 b c p + area2 c a p = area2 a b c := by unfold area2; grind
theorem area_bary (a b c p : Pl) : area2 b c p * (a.1 - p.1) + area2 c a p * (b.1 - p.1) + area2 a b p * (c.1 - p.1) = 0 ∧ area2 b c p * (a.2 - p.2) + area2 c a p * (b.2 - p.2) + area2 a b p * (c.2 - p.2) = 0 := by
  unfold area2; constructor <;> grind
theorem area_turn3 (a b c : Pl) : area2 b c a = area2 a b c := by unfold area2; grind
theorem ge_lex {a b : Pl} : 0 ≤ pcmp a b ↔ b.1 < a.1 ∨ (b.1 = a.1 ∧ b.2 ≤ a.2) := by rw [← pcmp_le, pcmp_swap b a]; omega
theorem btw_in {a b c p : Pl} (hS : 0 < area2 a b c) (h : btw a b p = true) : area2 a b p = 0 ∧ 0 ≤ area2 b c p ∧ 0 ≤ area2 c a p := by
  unfold btw side3 at h
  simp only [Bool.and_eq_true, Bool.or_eq_true, decide_eq_true_eq, qsgn_zero, ge_lex, pcmp_le] at h
  obtain ⟨h0, h1⟩ := h
  obtain ⟨e1, e2⟩ := area_bary a b c p
  have e3 := area_sum3 a b c p
  rw [h0] at e1 e2 e3
  rw [Rat.zero_mul, Rat.add_zero] at e1 e2
  rw [Rat.zero_add] at e3
  refine ⟨h0, ?_⟩
  rcases h1 with ⟨g1, g2⟩ | ⟨g1, g2⟩
  · exact tri_on (ax := a.1 - p.1) (ay := a.2 - p.2) (bx := b.1 - p.1) (by_ := b.2 - p.2) (cx := c.1 - p.1) (cy := c.2 - p.2) e1 e2 (by unfold area2; grind) (by unfold area2; grind) (by rw [e3]; exact hS) (by grind) (by grind)
  · have := tri_on (V := area2 b c p) (W := area2 c a p) (ax := -(a.1 - p.1)) (ay := -(a.2 - p.2)) (bx := -(b.1 - p.1)) (by_ := -(b.2 - p.2)) (cx := -(c.1 - p.1)) (cy := -(c.2 - p.2)) (by grind) (by grind) (by unfold area2; grind) (by unfold area2; grind) (by rw [e3]; exact hS) (by grind) (by grind)
    exact this
theorem in_btw {a b c p : Pl} (hS : 0 < area2 a b c) (h0 : area2 a b p = 0) (h1 : 0 ≤ area2 b c p) (h2 : 0 ≤ area2 c a p) : btw a b p = true := by
  obtain ⟨e1, e2⟩ := area_bary a b c p
  have e3 := area_sum3 a b c p
  rw [h0] at e1 e2 e3
  rw [Rat.zero_mul, Rat.add_zero] at e1 e2
  rw [Rat.zero_add] at e3
  have k := tri_btw e1 e2 (by rw [e3]; exact hS) h1 h2
  unfold btw side3
  simp only [Bool.and_eq_true, Bool.or_eq_true, decide_eq_true_eq, qsgn_zero, ge_lex, pcmp_le]
  refine ⟨h0, ?_⟩
  rcases k with ⟨g1, g2⟩ | ⟨g1, g2⟩
  · exact Or.inl ⟨by grind, by grind⟩
  · exact Or.inr ⟨by grind, by grind⟩
def nTri (a b c p : Pl) : Int := crossP p a b + crossP p b c + crossP p c a
theorem tri_out {a b c p : Pl} (hS : 0 < area2 a b c) (hn : area2 a b p < 0 ∨ area2 b c p < 0 ∨ area2 c a p < 0) : nTri a b c p = 0 := by
  obtain ⟨_, e2⟩ := area_bary a b c p
  have e3 := area_sum3 a b c p
  rw [← e3] at hS
  unfold nTri crossP
  generalize area2 a b p = U at *
  generalize area2 b c p = V at *
  generalize area2 c a p = W at *
  by_cases ha : a.2 ≤ p.2 <;> by_cases hb : b.2 ≤ p.2 <;> by_cases hc : c.2 ≤ p.2
  all_goals (try rw [Rat.not_le] at ha); (try rw [Rat.not_le] at hb); (try rw [Rat.not_le] at hc)
  · have na := Rat.not_lt.2 ha; have nb := Rat.not_lt.2 hb; have nc := Rat.not_lt.2 hc
    simp only [na, nb, nc, false_and, and_false, if_false]; rfl
  · -- c above: up bc, down ca
    have k := tri_one (X := V) (Y := W) (Z := U) (x := p.2 - b.2) (y := p.2 - a.2) (z := c.2 - p.2) (by grind) (by grind) (by grind) (by grind) (by grind) (by grind)
    have na := Rat.not_lt.2 ha; have nb := Rat.not_lt.2 hb; have nc := Rat.not_le.2 hc
    simp only [na, nb, nc, ha, hb, hc, false_and, and_false, if_false, true_and, k]; grind
  · have k := tri_one (X := U) (Y := V) (Z := W) (x := p.2 - a.2) (y := p.2 - c.2) (z := b.2 - p.2) (by grind) (by grind) (by grind) (by grind) (by grind) (by grind)
    have na := Rat.not_lt.2 ha; have nb := Rat.not_le.2 hb; have nc := Rat.not_lt.2 hc
    simp only [na, nb, nc, ha, hb, hc, false_and, and_false, if_false, true_and, k]; grind
  · have k := tri_two (X := U) (Y := W) (Z := V) (x := b.2 - p.2) (y := c.2 - p.2) (z := p.2 - a.2) (by grind) (by grind) (by grind) (by grind) (by grind) (by grind)
    have na := Rat.not_lt.2 ha; have nb := Rat.not_le.2 hb; have nc := Rat.not_le.2 hc
    simp only [na, nb, nc, ha, hb, hc, false_and, and_false, if_false, true_and, k]; grind
  · have k := tri_one (X := W) (Y := U) (Z := V) (x := p.2 - c.2) (y := p.2 - b.2) (z := a.2 - p.2) (by grind) (by grind) (by grind) (by grind) (by grind) (by grind)
    have na := Rat.not_le.2 ha; have nb := Rat.not_lt.2 hb; have nc := Rat.not_lt.2 hc
    simp only [na, nb, nc, ha, hb, hc, false_and, and_false, if_false, true_and, k]; grind
  · have k := tri_two (X := V) (Y := U) (Z := W) (x := c.2 - p.2) (y := a.2 - p.2) (z := p.2 - b.2) (by grind) (by grind) (by grind) (by grind) (by grind) (by grind)
    have na := Rat.not_le.2 ha; have nb := Rat.not_lt.2 hb; have nc := Rat.not_le.2 hc
    simp only [na, nb, nc, ha, hb, hc, false_and, and_false, if_false, true_and, k]; grind
  · have k := tri_two (X := W) (Y := V) (Z := U) (x := a.2 - p.2) (y := b.2 - p.2) (z := p.2 - c.2) (by grind) (by grind) (by grind) (by grind) (by grind) (by grind)
    have na := Rat.not_le.2 ha; have nb := Rat.not_le.2 hb; have nc := Rat.not_lt.2 hc
    simp only [na, nb, nc, ha, hb, hc, false_and, and_false, if_false, true_and, k]; grind
  · have na := Rat.not_le.2 ha; have nb := Rat.not_le.2 hb; have nc := Rat.not_le.2 hc
    simp only [na, nb, nc, false_and, and_false, if_false]; rfl
theorem pos_mix {U V W x y z : Rat} (hU : 0 < U) (hV : 0 < V) (hW : 0 < W) (e : V * x + W * y + U * z = 0) (hx : x ≤ 0) (hy : y ≤ 0) (hz : z ≤ 0) : x = 0 ∧ y = 0 ∧ z = 0 := by
  have k1 := mul_nn (x := V) (y := -x) (Rat.le_of_lt hV) (by grind)
  have k2 := mul_nn (x := W) (y := -y) (Rat.le_of_lt hW) (by grind)
  have k3 := mul_nn (x := U) (y := -z) (Rat.le_of_lt hU) (by grind)
  have m1 : V * x = 0 := by grind
  have m2 : W * y = 0 := by grind
  have m3 : U * z = 0 := by grind
  exact ⟨(Rat.mul_eq_zero.1 m1).resolve_left (by grind), (Rat.mul_eq_zero.1 m2).resolve_left (by grind), (Rat.mul_eq_zero.1 m3).resolve_left (by grind)⟩
theorem tri_in {a b c p : Pl} (hU : 0 < area2 a b p) (hV : 0 < area2 b c p) (hW : 0 < area2 c a p) : nTri a b c p = 1 := by
  obtain ⟨_, e2⟩ := area_bary a b c p
  have hz : ¬ (a.2 = p.2 ∧ b.2 = p.2 ∧ c.2 = p.2) := fun ⟨h1, h2, h3⟩ => by
    unfold area2 at hU; rw [h1, h2] at hU; grind
  have low : ¬ (a.2 ≤ p.2 ∧ b.2 ≤ p.2 ∧ c.2 ≤ p.2) := fun ⟨h1, h2, h3⟩ => hz (by
    have := pos_mix hU hV hW e2 (by grind) (by grind) (by grind)
    grind)
  have high : ¬ (p.2 < a.2 ∧ p.2 < b.2 ∧ p.2 < c.2) := fun ⟨h1, h2, h3⟩ => by
    have := pos_mix (x := -(a.2 - p.2)) (y := -(b.2 - p.2)) (z := -(c.2 - p.2)) hU hV hW (by grind) (by grind) (by grind) (by grind)
    grind
  unfold nTri crossP
  have nU := Rat.not_lt.2 (Rat.le_of_lt hU)
  have nV := Rat.not_lt.2 (Rat.le_of_lt hV)
  have nW := Rat.not_lt.2 (Rat.le_of_lt hW)
  simp only [hU, hV, hW, nU, nV, nW, and_false, and_true, if_false]
  by_cases ha : a.2 ≤ p.2 <;> by_cases hb : b.2 ≤ p.2 <;> by_cases hc : c.2 ≤ p.2
  all_goals (try rw [Rat.not_le] at ha); (try rw [Rat.not_le] at hb); (try rw [Rat.not_le] at hc)
  · exact absurd ⟨ha, hb, hc⟩ low
  · have na := Rat.not_lt.2 ha; have nb := Rat.not_lt.2 hb; have nc := Rat.not_le.2 hc
    simp only [na, nb, nc, ha, hb, hc, false_and, and_false, if_false, true_and, if_true]; rfl
  · have na := Rat.not_lt.2 ha; have nb := Rat.not_le.2 hb; have nc := Rat.not_lt.2 hc
    simp only [na, nb, nc, ha, hb, hc, false_and, and_false, if_false, true_and, if_true]; rfl
  · have na := Rat.not_lt.2 ha; have nb := Rat.not_le.2 hb; have nc := Rat.not_le.2 hc
    simp only [na, nb, nc, ha, hb, hc, false_and, and_false, if_false, true_and, if_true]; rfl
  · have na := Rat.not_le.2 ha; have nb := Rat.not_lt.2 hb; have nc := Rat.not_lt.2 hc
    simp only [na, nb, nc, ha, hb, hc, false_and, and_false, if_false, true_and, if_true]; rfl
  · have na := Rat.not_le.2 ha; have nb := Rat.not_lt.2 hb; have nc := Rat.not_le.2 hc
    simp only [na, nb, nc, ha, hb, hc, false_and, and_false, if_false, true_and, if_true]; rfl
  · have na := Rat.not_le.2 ha; have nb := Rat.not_le.2 hb; have nc := Rat.not_lt.2 hc
    simp only [na, nb, nc, ha, hb, hc, false_and, and_false, if_false, true_and, if_true]; rfl
  · exact absurd ⟨ha, hb, hc⟩ high
theorem area_ba (a b p : Pl) : area2 b a p = -area2 a b p := by unfold area2; grind
theorem crossP_rev (p a b : Pl) : crossP p b a = -crossP p a b := by
  unfold crossP
  rw [area_ba a b p]
  generalize area2 a b p = U
  have h1 : 0 < -U ↔ U < 0 := by grind
  have h2 : -U < 0 ↔ 0 < U := by grind
  simp only [h1, h2]
  by_cases k1 : a.2 ≤ p.2 <;> by_cases k2 : b.2 ≤ p.2
  · have n1 := Rat.not_lt.2 k1
    have n2 := Rat.not_lt.2 k2
    simp only [n1, n2, false_and, and_false, if_false]; rfl
  · have n1 := Rat.not_lt.2 k1
    have n2 := Rat.not_le.1 k2
    simp only [k1, k2, n1, n2, false_and, and_false, true_and, if_false]; by_cases q : 0 < U <;> simp [q]
  · have n1 := Rat.not_le.1 k1
    have n2 := Rat.not_lt.2 k2
    simp only [k1, k2, n1, n2, false_and, and_false, true_and, if_false]; by_cases q : U < 0 <;> simp [q]
  · simp only [k1, k2, false_and, if_false]; rfl
theorem btw_rev (a b p : Pl) : btw b a p = btw a b p := by
  rw [Bool.eq_iff_iff]
  unfold btw side3
  simp only [Bool.and_eq_true, Bool.or_eq_true, decide_eq_true_eq, qsgn_zero, ge_lex, pcmp_le]
  rw [area_ba a b p]
  constructor <;> rintro ⟨h0, h1⟩ <;> exact ⟨by grind, by grind⟩
def onT (a b c p : Pl) : Bool := btw a b p || btw b c p || btw c a p
theorem tri_pos {a b c p : Pl} (hS : 0 < area2 a b c) :
    ((0 < area2 a b p ∧ 0 < area2 b c p ∧ 0 < area2 c a p) → onT a b c p = false ∧ nTri a b c p = 1) ∧
    ((area2 a b p < 0 ∨ area2 b c p < 0 ∨ area2 c a p < 0) → onT a b c p = false ∧ nTri a b c p = 0) ∧
    (¬ (0 < area2 a b p ∧ 0 < area2 b c p ∧ 0 < area2 c a p) → ¬ (area2 a b p < 0 ∨ area2 b c p < 0 ∨ area2 c a p < 0) → onT a b c p = true) := by
  have h2 : 0 < area2 b c a := by rw [area_turn3]; exact hS
  have h3 : 0 < area2 c a b := by rw [area_turn3]; exact h2
  have k : onT a b c p = true → (area2 a b p = 0 ∨ area2 b c p = 0 ∨ area2 c a p = 0) ∧ 0 ≤ area2 a b p ∧ 0 ≤ area2 b c p ∧ 0 ≤ area2 c a p := by
    intro h
    unfold onT at h
    rw [Bool.or_eq_true, Bool.or_eq_true] at h
    rcases h with (h | h) | h
    · obtain ⟨q1, q2, q3⟩ := btw_in hS h; exact ⟨Or.inl q1, by grind, q2, q3⟩
    · obtain ⟨q1, q2, q3⟩ := btw_in h2 h; exact ⟨Or.inr (Or.inl q1), q3, by grind, q2⟩
    · obtain ⟨q1, q2, q3⟩ := btw_in h3 h; exact ⟨Or.inr (Or.inr q1), q2, q3, by grind⟩
  refine ⟨fun ⟨u, v, w⟩ => ⟨?_, tri_in u v w⟩, fun h => ⟨?_, tri_out hS h⟩, fun h g => ?_⟩
  · rw [← Bool.not_eq_true]; intro e; have := k e; grind
  · rw [← Bool.not_eq_true]; intro e; have := k e; grind
  · have u : 0 ≤ area2 a b p := by grind
    have v : 0 ≤ area2 b c p := by grind
    have w : 0 ≤ area2 c a p := by grind
    unfold onT
    rw [Bool.or_eq_true, Bool.or_eq_true]
    by_cases q1 : area2 a b p = 0
    · exact Or.inl (Or.inl (in_btw hS q1 v w))
    by_cases q2 : area2 b c p = 0
    · exact Or.inl (Or.inr (in_btw h2 q2 w u))
    · exact Or.inr (in_btw h3 (by grind) u v)
theorem onT_rev (a b c p : Pl) : onT a c b p = onT a b c p := by
  unfold onT
  rw [btw_rev a c p |>.symm, btw_rev b c p, btw_rev a b p]
  cases btw a b p <;> cases btw b c p <;> cases btw c a p <;> rfl
theorem nTri_rev (a b c p : Pl) : nTri a c b p = -nTri a b c p := by
  unfold nTri
  rw [crossP_rev p c a, crossP_rev p b c, crossP_rev p a b]; omega
theorem area_acb (a b c : Pl) : area2 a c b = -area2 a b c := by unfold area2; grind
theorem tri_all {a b c p : Pl} (ho : side3 a b c ≠ 0) :
    ((side3 a b p = side3 a b c ∧ side3 b c p = side3 a b c ∧ side3 c a p = side3 a b c) → onT a b c p = false ∧ nTri a b c p = side3 a b c) ∧
    ((side3 a b p = -side3 a b c ∨ side3 b c p = -side3 a b c ∨ side3 c a p = -side3 a b c) → onT a b c p = false ∧ nTri a b c p = 0) ∧
    (¬ (side3 a b p = side3 a b c ∧ side3 b c p = side3 a b c ∧ side3 c a p = side3 a b c) → ¬ (side3 a b p = -side3 a b c ∨ side3 b c p = -side3 a b c ∨ side3 c a p = -side3 a b c) → onT a b c p = true) := by
  have P : ∀ x y z : Pl, side3 x y z = 1 ↔ 0 < area2 x y z := fun x y z => qsgn_pos
  have N : ∀ x y z : Pl, side3 x y z = -1 ↔ area2 x y z < 0 := fun x y z => qsgn_neg
  have hc : side3 a b c = -1 ∨ side3 a b c = 0 ∨ side3 a b c = 1 := qsgn_cases (area2 a b c)
  rcases hc with h | h | h
  · have hS : 0 < area2 a c b := by rw [area_acb]; have := (N _ _ _).1 h; grind
    obtain ⟨t1, t2, t3⟩ := tri_pos (p := p) hS
    rw [area_ba c a p, area_ba b c p, area_ba a b p, onT_rev] at t1 t2 t3
    rw [nTri_rev] at t1 t2
    have Q : ∀ q : Rat, 0 < -q ↔ q < 0 := fun q => by grind
    have R : ∀ q : Rat, -q < 0 ↔ 0 < q := fun q => by grind
    simp only [Q, R] at t1 t2 t3
    rw [h]
    simp only [N, Int.neg_neg, P]
    refine ⟨fun ⟨u, v, w⟩ => ?_, fun g => ?_, fun g1 g2 => t3 (fun ⟨x, y, z⟩ => g1 ⟨z, y, x⟩) (fun g => g2 (by rcases g with g | g | g <;> simp [g]))⟩
    · obtain ⟨x1, x2⟩ := t1 ⟨w, v, u⟩; exact ⟨x1, by omega⟩
    · obtain ⟨x1, x2⟩ := t2 (by rcases g with g | g | g <;> simp [g]); exact ⟨x1, by omega⟩
  · exact absurd h ho
  · have hS := (P _ _ _).1 h
    obtain ⟨t1, t2, t3⟩ := tri_pos (p := p) hS
    rw [h]
    simp only [N, P]
    exact ⟨t1, t2, t3⟩
end Go.Proofs.YtfpofmifmapmfaaGreatDoor

namespace Go.Proofs.YtfpofmifmapmfaaGreatDoor
open Go.RowKit Go.Proofs.YtfpofmifmapmfaaGreatDoorW.PrintLast
set_option linter.unusedVariables false
set_option linter.unusedSimpArgs false
theorem pthE_mem : ∀ {r : List Pt} {e : Ed}, e ∈ pthE r → e.1 ∈ r ∧ e.2 ∈ r
  | [], e, h => by cases h
  | [_], e, h => by cases h
  | x :: y :: l, e, h => by
    rw [pthE, List.mem_cons] at h
    rcases h with rfl | h
    · exact ⟨List.mem_cons_self, List.mem_cons_of_mem _ List.mem_cons_self⟩
    · have := pthE_mem h
      exact ⟨List.mem_cons_of_mem _ this.1, List.mem_cons_of_mem _ this.2⟩
theorem sumI_congr {f g : Ed → Int} : ∀ {es : List Ed}, (∀ e ∈ es, f e = g e) → sumI f es = sumI g es
  | [], _ => rfl
  | e :: es, h => by rw [sumI_cons, sumI_cons, h e List.mem_cons_self, sumI_congr (fun x hx => h x (List.mem_cons_of_mem _ hx))]
theorem sumI_zero {f : Ed → Int} {es : List Ed} (h : ∀ e ∈ es, f e = 0) : sumI f es = 0 := by
  rw [sumI_congr (g := fun _ => 0) h]
  induction es with
  | nil => rfl
  | cons e es ih => rw [sumI_cons, ih (fun x hx => h x (List.mem_cons_of_mem _ hx))]; rfl
theorem sumI_tele (g : Pt → Int) : ∀ (x : Pt) (l : List Pt), sumI (fun e => g e.2 - g e.1) (pthE (x :: l)) = g ((x :: l).getD l.length (0, 0)) - g x
  | x, [] => by simp [pthE, sumI]
  | x, y :: l => by
    rw [pthE, sumI_cons, sumI_tele g y l]
    show g y - g x + (g ((y :: l).getD l.length (0, 0)) - g y) = g ((y :: l).getD l.length (0, 0)) - g x
    omega
theorem out_wind {r : List Pt} {p : Pt} (h0 : 0 < r.length) (hc : pcmpP (r.getD 0 (0, 0)) (r.getD (r.length - 1) (0, 0)) = 0)
    (ho : (∀ q ∈ r, (pl p).1 < (pl q).1) ∨ (∀ q ∈ r, (pl q).1 < (pl p).1) ∨ (∀ q ∈ r, (pl p).2 < (pl q).2) ∨ (∀ q ∈ r, (pl q).2 < (pl p).2)) : windR r p = (0, false) := by
  have m0 := getD_mem h0
  have hne : ¬ pcmpP (r.getD 0 (0, 0)) p = 0 := by
    intro e
    have e' := pcmp_eq.1 e
    rcases ho with h | h | h | h <;> have := h _ m0 <;> rw [e'] at this <;> exact Rat.lt_irrefl this
  have hon : ∀ e ∈ edgesR r, onE p e = false := by
    intro e he
    rw [edgesR_pth] at he
    obtain ⟨k1, k2⟩ := pthE_mem he
    rw [← Bool.not_eq_true]
    intro hb
    unfold onE btwP btw side3 at hb
    simp only [Bool.and_eq_true, Bool.or_eq_true, decide_eq_true_eq, qsgn_zero, ge_lex, pcmp_le] at hb
    obtain ⟨b0, b1⟩ := hb
    have b0' : area2 (pl e.2) (pl e.1) (pl p) = 0 := by rw [area_ba]; grind
    rcases ho with h | h | h | h <;> have c1 := h _ k1 <;> have c2 := h _ k2
    · grind
    · grind
    · rcases b1 with ⟨g1, g2⟩ | ⟨g1, g2⟩
      · exact on_not_below b0 (by grind) (by grind) (by grind) c1 c2
      · exact on_not_below b0' (by grind) (by grind) (by grind) c2 c1
    · rcases b1 with ⟨g1, g2⟩ | ⟨g1, g2⟩
      · exact on_not_above b0 (by grind) (by grind) (by grind) c1 c2
      · exact on_not_above b0' (by grind) (by grind) (by grind) c2 c1
  have hany : ¬ (edgesR r).any (onE p) = true := by
    rw [List.any_eq_true]
    rintro ⟨e, he, hf⟩
    rw [hon e he] at hf; cases hf
  unfold windR
  rw [if_neg hne, if_neg hany]
  congr 1
  have zero : (∀ e ∈ pthE r, crossP (pl p) (pl e.1) (pl e.2) = 0) → sumI (crossE p) (edgesR r) = 0 := fun h => by
    rw [edgesR_pth]
    exact sumI_zero (fun e he => by rw [crossE_pl]; exact h e he)
  rcases ho with h | h | h | h
  · -- to the left of all: each crossing counts
    have key : ∀ e ∈ pthE r, crossE p e = (fun q : Pt => if (pl q).2 ≤ (pl p).2 then (0 : Int) else 1) e.2 - (fun q : Pt => if (pl q).2 ≤ (pl p).2 then (0 : Int) else 1) e.1 := by
      intro e he
      obtain ⟨k1, k2⟩ := pthE_mem he
      have c1 := h _ k1
      have c2 := h _ k2
      rw [crossE_pl]
      unfold crossP
      dsimp only
      by_cases a : (pl e.1).2 ≤ (pl p).2 <;> by_cases b : (pl e.2).2 ≤ (pl p).2
      · have n1 := Rat.not_lt.2 a; have n2 := Rat.not_lt.2 b
        simp only [a, b, n1, n2, false_and, and_false, if_false, if_true]; rfl
      · have n1 := Rat.not_lt.2 a; have n2 := Rat.not_le.1 b
        have := up_left c1 c2 a n2
        simp only [a, b, n1, n2, this, false_and, and_false, true_and, if_false, if_true]; rfl
      · have n1 := Rat.not_le.1 a; have n2 := Rat.not_lt.2 b
        have := down_left c1 c2 b n1
        simp only [a, b, n1, n2, this, false_and, and_false, true_and, if_false, if_true]; rfl
      · simp only [a, b, false_and, if_false]; rfl
    rw [edgesR_pth, sumI_congr key]
    match r, h0 with
    | x :: l, _ =>
      refine (sumI_tele (fun q : Pt => if (pl q).2 ≤ (pl p).2 then (0 : Int) else 1) x l).trans ?_
      have e' := pcmp_eq.1 hc
      have hx : (x :: l).getD 0 (0, 0) = x := rfl
      rw [hx, show (x :: l).length - 1 = l.length from rfl] at e'
      rw [← e']; omega
  · refine zero fun e he => ?_
    obtain ⟨k1, k2⟩ := pthE_mem he
    have c1 := h _ k1
    have c2 := h _ k2
    unfold crossP
    rw [if_neg, if_neg]
    · rintro ⟨a, b, d⟩; have := down_right c1 c2 a b; grind
    · rintro ⟨a, b, d⟩; have := up_right c1 c2 a b; grind
  · refine zero fun e he => ?_
    obtain ⟨k1, k2⟩ := pthE_mem he
    have c1 := h _ k1
    have c2 := h _ k2
    unfold crossP
    rw [if_neg (by grind), if_neg (by grind)]
  · refine zero fun e he => ?_
    obtain ⟨k1, k2⟩ := pthE_mem he
    have c1 := h _ k1
    have c2 := h _ k2
    unfold crossP
    rw [if_neg (by grind), if_neg (by grind)]
theorem qcmp_int (x y : Int) : qcmp (x : Rat) (y : Rat) = icmp x y := by
  unfold qcmp
  simp only [Rat.num_intCast, Rat.den_intCast, Int.natCast_one, Int.mul_one]
theorem icmp_scale {K : Int} (hK : 0 < K) (x y : Int) : icmp (x * K) (y * K) = icmp x y := by
  unfold icmp
  have h1 : x * K < y * K ↔ x < y := ⟨fun h => Int.lt_of_mul_lt_mul_right h (Int.le_of_lt hK), fun h => Int.mul_lt_mul_of_pos_right h hK⟩
  have h2 : x * K = y * K ↔ x = y := ⟨fun h => Int.eq_of_mul_eq_mul_right (by omega) h, fun h => by rw [h]⟩
  simp only [h1, h2]
theorem qsgn_int (z : Int) : qsgn (z : Rat) = if z = 0 then 0 else if z < 0 then -1 else 1 := by
  unfold qsgn
  have e : ((z : Rat)).num = z := Rat.num_intCast z
  by_cases h : z = 0
  · rw [if_pos h, if_pos (e.trans h)]
  · rw [if_neg h, if_neg (by rw [e]; exact h)]
    by_cases g : z < 0
    · rw [if_pos g, if_pos (by rw [e]; exact g)]
    · rw [if_neg g, if_neg (by rw [e]; exact g)]
theorem qsgn_scale {K : Int} (hK : 0 < K) (z : Int) : qsgn ((z * K : Int) : Rat) = qsgn (z : Rat) := by
  rw [qsgn_int, qsgn_int]
  have h1 : z * K = 0 ↔ z = 0 := ⟨fun h => (Int.mul_eq_zero.1 h).resolve_right (by omega), fun h => by rw [h, Int.zero_mul]⟩
  have h2 : z * K < 0 ↔ z < 0 := ⟨fun h => Int.lt_of_mul_lt_mul_right (by rw [Int.zero_mul]; exact h) (Int.le_of_lt hK), fun h => by have := Int.mul_lt_mul_of_pos_right h hK; rwa [Int.zero_mul] at this⟩
  simp only [h1, h2]
def layP (dx dy : Int) (k : Nat) (a : Pt) : Pt := (numP ((a.1 + dx) * 2 ^ k), numP ((a.2 + dy) * 2 ^ k))
def LitP (a : Pt) : Prop := (-4096 ≤ a.1 ∧ a.1 ≤ 4095) ∧ (-4096 ≤ a.2 ∧ a.2 ≤ 4095)
structure FrO (dx dy : Int) (k : Nat) : Prop where
  x : -4096 ≤ dx ∧ dx ≤ 4095
  y : -4096 ≤ dy ∧ dy ≤ 4095
  k : k ≤ 7
theorem two_k {k : Nat} (h : k ≤ 7) : (2 : Int) ^ k = 1 ∨ (2 : Int) ^ k = 2 ∨ (2 : Int) ^ k = 4 ∨ (2 : Int) ^ k = 8 ∨ (2 : Int) ^ k = 16 ∨ (2 : Int) ^ k = 32 ∨ (2 : Int) ^ k = 64 ∨ (2 : Int) ^ k = 128 := by
  match k, h with
  | 0, _ | 1, _ | 2, _ | 3, _ | 4, _ | 5, _ | 6, _ | 7, _ => decide
variable {dx dy : Int} {k : Nat}
theorem lay_rng {x d : Int} (hx : -4096 ≤ x ∧ x ≤ 4095) (hd : -4096 ≤ d ∧ d ≤ 4095) (hk : k ≤ 7) : -1048576 ≤ (x + d) * 2 ^ k ∧ (x + d) * 2 ^ k ≤ 1048576 := by
  rcases two_k hk with h | h | h | h | h | h | h | h <;> rw [h] <;> omega
theorem lay_val (h : FrO dx dy k) {a : Pt} (ha : LitP a) : fval (layP dx dy k a).1 = (((a.1 + dx) * 2 ^ k : Int) : Rat) ∧ fval (layP dx dy k a).2 = (((a.2 + dy) * 2 ^ k : Int) : Rat) ∧ Fin64 (layP dx dy k a).1 ∧ Fin64 (layP dx dy k a).2 := by
  have r1 := lay_rng (k := k) ha.1 h.x h.k
  have r2 := lay_rng (k := k) ha.2 h.y h.k
  have v1 := numP_val (v := (a.1 + dx) * 2 ^ k) (by omega)
  have v2 := numP_val (v := (a.2 + dy) * 2 ^ k) (by omega)
  exact ⟨v1.1, v2.1, v1.2, v2.2⟩
theorem lay_cmp (h : FrO dx dy k) {a b : Pt} (ha : LitP a) (hb : LitP b) : qcmp (fval (layP dx dy k a).1) (fval (layP dx dy k b).1) = icmp a.1 b.1 ∧ qcmp (fval (layP dx dy k a).2) (fval (layP dx dy k b).2) = icmp a.2 b.2 := by
  have hK : (0 : Int) < 2 ^ k := Int.pow_pos (by decide)
  obtain ⟨a1, a2, _, _⟩ := lay_val h ha
  obtain ⟨b1, b2, _, _⟩ := lay_val h hb
  rw [a1, a2, b1, b2, qcmp_int, qcmp_int, icmp_scale hK, icmp_scale hK]
  constructor <;> (unfold icmp; split <;> split <;> (try split) <;> (try split) <;> omega)
def iarea (a b c : Pt) : Int := (b.1 - a.1) * (c.2 - a.2) - (b.2 - a.2) * (c.1 - a.1)
theorem lay_side (h : FrO dx dy k) {a b c : Pt} (ha : LitP a) (hb : LitP b) (hc : LitP c) : sideP (layP dx dy k a) (layP dx dy k b) (layP dx dy k c) = qsgn ((iarea a b c : Int) : Rat) := by
  have hK : (0 : Int) < 2 ^ k := Int.pow_pos (by decide)
  obtain ⟨a1, a2, _, _⟩ := lay_val h ha
  obtain ⟨b1, b2, _, _⟩ := lay_val h hb
  obtain ⟨c1, c2, _, _⟩ := lay_val h hc
  unfold sideP side3 area2 pl
  dsimp only
  rw [a1, a2, b1, b2, c1, c2]
  rw [← Rat.intCast_sub, ← Rat.intCast_sub, ← Rat.intCast_sub, ← Rat.intCast_sub, ← Rat.intCast_mul, ← Rat.intCast_mul, ← Rat.intCast_sub]
  generalize (2 : Int) ^ k = K at *
  have : ((b.1 + dx) * K - (a.1 + dx) * K) * ((c.2 + dy) * K - (a.2 + dy) * K) - ((b.2 + dy) * K - (a.2 + dy) * K) * ((c.1 + dx) * K - (a.1 + dx) * K) = iarea a b c * K * K := by unfold iarea; grind
  rw [this, qsgn_scale hK, qsgn_scale hK]
def icross (p a b : Pt) : Int :=
  if icmp a.2 p.2 ≤ 0 ∧ 0 < icmp b.2 p.2 ∧ 0 < qsgn ((iarea a b p : Int) : Rat) then 1 else if icmp b.2 p.2 ≤ 0 ∧ 0 < icmp a.2 p.2 ∧ qsgn ((iarea a b p : Int) : Rat) < 0 then -1 else 0
theorem lay_cross (h : FrO dx dy k) {a b p : Pt} (ha : LitP a) (hb : LitP b) (hp : LitP p) : crossE (layP dx dy k p) (layP dx dy k a, layP dx dy k b) = icross p a b := by
  unfold crossE icross
  rw [(lay_cmp h ha hp).2, (lay_cmp h hb hp).2, lay_side h ha hb hp]
def ipcmp (a b : Pt) : Int := if icmp a.1 b.1 ≠ 0 then icmp a.1 b.1 else icmp a.2 b.2
theorem lay_pcmp (h : FrO dx dy k) {a b : Pt} (ha : LitP a) (hb : LitP b) : pcmpP (layP dx dy k a) (layP dx dy k b) = ipcmp a b := by
  unfold pcmpP pcmp ipcmp pl
  dsimp only
  rw [(lay_cmp h ha hb).1, (lay_cmp h ha hb).2]
def ion (p a b : Pt) : Bool := decide (qsgn ((iarea a b p : Int) : Rat) = 0) && (decide (ipcmp a p ≤ 0) && decide (ipcmp p b ≤ 0) || decide (0 ≤ ipcmp a p) && decide (0 ≤ ipcmp p b))
theorem lay_on (h : FrO dx dy k) {a b p : Pt} (ha : LitP a) (hb : LitP b) (hp : LitP p) : onE (layP dx dy k p) (layP dx dy k a, layP dx dy k b) = ion p a b := by
  have e1 := lay_side h ha hb hp
  have e2 := lay_pcmp h ha hp
  have e3 := lay_pcmp h hp hb
  unfold sideP at e1
  unfold pcmpP at e2 e3
  unfold onE btwP btw ion
  rw [e1, e2, e3]
theorem pthE_map (f : Pt → Pt) : ∀ r : List Pt, pthE (r.map f) = (pthE r).map (fun e => (f e.1, f e.2))
  | [] => rfl
  | [_] => rfl
  | x :: y :: l => by
    have ih := pthE_map f (y :: l)
    show (f x, f y) :: pthE ((y :: l).map f) = (f x, f y) :: (pthE (y :: l)).map (fun e => (f e.1, f e.2))
    rw [ih]
theorem sumI_map {f : Ed → Int} {g : Ed → Int} {u : Ed → Ed} : ∀ {es : List Ed}, (∀ e ∈ es, f (u e) = g e) → sumI f (es.map u) = sumI g es
  | [], _ => rfl
  | e :: es, h => by rw [List.map_cons, sumI_cons, sumI_cons, h e List.mem_cons_self, sumI_map (fun x hx => h x (List.mem_cons_of_mem _ hx))]
theorem any_map {f : Ed → Bool} {g : Ed → Bool} {u : Ed → Ed} {es : List Ed} (h : ∀ e ∈ es, f (u e) = g e) : (es.map u).any f = es.any g := by
  induction es with
  | nil => rfl
  | cons e es ih => rw [List.map_cons, List.any_cons, List.any_cons, h e List.mem_cons_self, ih (fun x hx => h x (List.mem_cons_of_mem _ hx))]
theorem getD_map0 (f : Pt → Pt) {r : List Pt} (h : 0 < r.length) : (r.map f).getD 0 (0, 0) = f (r.getD 0 (0, 0)) := by
  match r, h with
  | x :: l, _ => rfl
theorem lay_wind {r : List Pt} {p : Pt} (h : FrO dx dy k) (h0 : 0 < r.length) (hr : ∀ q ∈ r, LitP q) (hp : LitP p) :
    windR (r.map (layP dx dy k)) (layP dx dy k p) = if ipcmp (r.getD 0 (0, 0)) p = 0 then (0, true) else if (pthE r).any (fun e => ion p e.1 e.2) then (0, true) else (sumI (fun e => icross p e.1 e.2) (pthE r), false) := by
  unfold windR
  rw [getD_map0 _ h0, lay_pcmp h (hr _ (getD_mem h0)) hp, edgesR_pth, pthE_map]
  have m : ∀ e ∈ pthE r, LitP e.1 ∧ LitP e.2 := fun e he => ⟨hr _ (pthE_mem he).1, hr _ (pthE_mem he).2⟩
  rw [any_map (g := fun e => ion p e.1 e.2) (fun e he => lay_on h (m e he).1 (m e he).2 hp), sumI_map (g := fun e => icross p e.1 e.2) (fun e he => lay_cross h (m e he).1 (m e he).2 hp)]
def icrs (e : Ed) : Int := e.1.1 * e.2.2 - e.2.1 * e.1.2
theorem lay_crs (h : FrO dx dy k) {a b : Pt} (ha : LitP a) (hb : LitP b) : crs (layP dx dy k a, layP dx dy k b) = (((icrs (a, b) + (dx * b.2 - dy * b.1 - (dx * a.2 - dy * a.1))) * (2 ^ k * 2 ^ k) : Int) : Rat) := by
  obtain ⟨a1, a2, _, _⟩ := lay_val h ha
  obtain ⟨b1, b2, _, _⟩ := lay_val h hb
  unfold crs icrs
  dsimp only
  rw [a1, a2, b1, b2, ← Rat.intCast_mul, ← Rat.intCast_mul, ← Rat.intCast_sub]
  congr 1
  grind
theorem sumE_int {f : Ed → Rat} {g : Ed → Int} {K : Int} {u : Ed → Ed} : ∀ {es : List Ed}, (∀ e ∈ es, f (u e) = ((g e * K : Int) : Rat)) → sumE f (es.map u) = ((sumI g es * K : Int) : Rat)
  | [], _ => by simp [sumE, sumI]
  | e :: es, h => by
    rw [List.map_cons, sumE_cons, sumI_cons, h e List.mem_cons_self, sumE_int (fun x hx => h x (List.mem_cons_of_mem _ hx)), ← Rat.intCast_add, ← Int.add_mul]
theorem sumI_add (f g : Ed → Int) : ∀ es : List Ed, sumI (fun e => f e + g e) es = sumI f es + sumI g es
  | [] => rfl
  | e :: es => by rw [sumI_cons, sumI_cons, sumI_cons, sumI_add f g es]; omega
theorem lay_area {r : List Pt} (h : FrO dx dy k) (h0 : 0 < r.length) (hr : ∀ q ∈ r, LitP q) (hc : r.getD 0 (0, 0) = r.getD (r.length - 1) (0, 0)) :
    sumE crs (edgesR (r.map (layP dx dy k))) = ((sumI icrs (pthE r) * (2 ^ k * 2 ^ k) : Int) : Rat) := by
  have m : ∀ e ∈ pthE r, LitP e.1 ∧ LitP e.2 := fun e he => ⟨hr _ (pthE_mem he).1, hr _ (pthE_mem he).2⟩
  rw [edgesR_pth, pthE_map, sumE_int (g := fun e => icrs e + ((fun q : Pt => dx * q.2 - dy * q.1) e.2 - (fun q : Pt => dx * q.2 - dy * q.1) e.1)) (K := 2 ^ k * 2 ^ k) (fun e he => lay_crs h (m e he).1 (m e he).2)]
  rw [sumI_add]
  match r, h0 with
  | x :: l, _ =>
    have t := sumI_tele (fun q : Pt => dx * q.2 - dy * q.1) x l
    have e' : x = (x :: l).getD l.length (0, 0) := hc
    rw [← e'] at t
    rw [t, Int.sub_self, Int.add_zero]
end Go.Proofs.YtfpofmifmapmfaaGreatDoor

namespace Go.Proofs.YtfpofmifmapmfaaGreatDoor
open Go.RowKit Go.Proofs.YtfpofmifmapmfaaGreatDoorW.PrintLast
set_option linter.unusedVariables false
set_option linter.unusedSimpArgs false
def farB (s a b : Int) : Int := if qcmp (fval b) (fval a) = s then b else a
def cornK (s : Int) (f : Pt → Int) (l : List Pt) (k : Nat) : Int := (List.range k).foldl (fun a j => farB s a (f (l.getD j (0, 0)))) (f (l.getD 0 (0, 0)))
theorem cornK_zero (s : Int) (f : Pt → Int) (l : List Pt) : cornK s f l 0 = f (l.getD 0 (0, 0)) := rfl
theorem cornK_succ (s : Int) (f : Pt → Int) (l : List Pt) (k : Nat) : cornK s f l (k + 1) = farB s (cornK s f l k) (f (l.getD k (0, 0))) := by
  unfold cornK; rw [List.range_succ, List.foldl_append]; rfl
theorem cornK_one {s : Int} (hs : s ≠ 0) (f : Pt → Int) (l : List Pt) : cornK s f l 1 = f (l.getD 0 (0, 0)) := by
  rw [cornK_succ, cornK_zero]; unfold farB; rw [qcmp_self, if_neg (by omega)]
theorem cornK_is (s : Int) (f : Pt → Int) (l : List Pt) (k : Nat) (hk : k ≤ l.length) (h0 : 0 < l.length) : ∃ j, j < l.length ∧ cornK s f l k = f (l.getD j (0, 0)) := by
  induction k with
  | zero => exact ⟨0, h0, rfl⟩
  | succ k ih =>
    obtain ⟨j, hj, e⟩ := ih (by omega)
    rw [cornK_succ]
    unfold farB
    split
    · exact ⟨k, by omega, rfl⟩
    · exact ⟨j, hj, e⟩
theorem cornK_low (f : Pt → Int) (l : List Pt) (k : Nat) : ∀ j, j < k → fval (cornK (-1) f l k) ≤ fval (f (l.getD j (0, 0))) := by
  induction k with
  | zero => intro j hj; omega
  | succ k ih =>
    intro j hj
    rw [cornK_succ]
    unfold farB
    split
    · rename_i h
      rw [qcmp_lt] at h
      rcases Nat.lt_or_ge j k with g | g
      · exact Rat.le_of_lt (by have := ih j g; grind)
      · obtain rfl : j = k := by omega
        exact Rat.le_refl
    · rename_i h
      rw [qcmp_lt] at h
      rcases Nat.lt_or_ge j k with g | g
      · exact ih j g
      · obtain rfl : j = k := by omega
        exact Rat.not_lt.1 h
theorem cornK_high (f : Pt → Int) (l : List Pt) (k : Nat) : ∀ j, j < k → fval (f (l.getD j (0, 0))) ≤ fval (cornK 1 f l k) := by
  induction k with
  | zero => intro j hj; omega
  | succ k ih =>
    intro j hj
    rw [cornK_succ]
    unfold farB
    split
    · rename_i h
      rw [qcmp_gt] at h
      rcases Nat.lt_or_ge j k with g | g
      · exact Rat.le_of_lt (by have := ih j g; grind)
      · obtain rfl : j = k := by omega
        exact Rat.le_refl
    · rename_i h
      rw [qcmp_gt] at h
      rcases Nat.lt_or_ge j k with g | g
      · exact ih j g
      · obtain rfl : j = k := by omega
        exact Rat.not_lt.1 h
def fX (p : Pt) : Int := p.1
def fY (p : Pt) : Int := p.2
def boxE (l : List Pt) : Int := if l.length = 0 then 240 else if finB l = true then 0 else 220
def lowP (l : List Pt) : Pt := if boxE l = 0 then (cornK (-1) fX l l.length, cornK (-1) fY l l.length) else (0, 0)
def highP (l : List Pt) : Pt := if boxE l = 0 then (cornK 1 fX l l.length, cornK 1 fY l l.length) else (0, 0)
end Go.Proofs.YtfpofmifmapmfaaGreatDoor

namespace Go.Proofs.YtfpofmifmapmfaaGreatDoor
open Go.RowKit Go.Proofs.YtfpofmifmapmfaaGreatDoorW.PrintLast
set_option linter.unusedVariables false
set_option linter.unusedSimpArgs false
set_option maxRecDepth 100000 in
theorem lFarther (a b s : Int) (w : World) (ha : Fin64 a) (hb : Fin64 b) : Calls Tryz.prog 86 #[.int .u64 a, .int .u64 b, .int .i64 s] w fun e w' => e = .returned (.int .u64 (farB s a b)) ∧ Below w.heap.size w w' := by
  have HC := Lib.hid (fun wz => fCmp b a wz hb ha)
  have HF : Hid (farB s a b = if qcmp (fval b) (fval a) = s then b else a) := Lib.hid rfl
  clear ha hb
  generalize qcmp (fval b) (fval a) = c at *
  generalize farB s a b = r at *
  by_cases h : c = s
  · rw [if_pos h] at HF
    go_enter Tryz.func86, Tryz.ntmps86
    ((try dsimp only); repeat (first | go_values | go_skip | go_guarded | go_step | go_upon))
    refine (HC.out _).mono ?_
    rintro e w1 ⟨rfl, rfl⟩
    ((try dsimp only); repeat (first | go_values | go_skip | go_guarded | go_step | go_upon))
    go_ret
    exact ⟨by rw [HF.out]; rfl, Below.refl _ _⟩
  · rw [if_neg h] at HF
    go_enter Tryz.func86, Tryz.ntmps86
    ((try dsimp only); repeat (first | go_values | go_skip | go_guarded | go_step | go_upon))
    refine (HC.out _).mono ?_
    rintro e w1 ⟨rfl, rfl⟩
    ((try dsimp only); repeat (first | go_values | go_skip | go_guarded | go_step | go_upon))
    go_ret
    exact ⟨by rw [HF.out]; rfl, Below.refl _ _⟩
set_option maxRecDepth 100000 in
theorem lCmp24 (a b : Int) (w : World) (ha : Fin64 a) (hb : Fin64 b) : Calls Tryz.prog 34 #[.int .u64 a, .int .u64 b] w fun e w' => e = .returned (.int .i64 (qcmp (fval a) (fval b))) ∧ w = w' := by
  have HC := Lib.hid (fun wz => fCmp a b wz ha hb)
  clear ha hb
  generalize qcmp (fval a) (fval b) = c at *
  go_enter Tryz.func34, Tryz.ntmps34
  ((try dsimp only); repeat (first | go_values | go_skip | go_guarded | go_step | go_upon))
  refine (HC.out _).mono ?_
  rintro e w1 ⟨rfl, rfl⟩
  ((try dsimp only); repeat (first | go_values | go_skip | go_guarded | go_step | go_upon))
  go_ret
  exact ⟨rfl, rfl⟩
theorem corn_fin {s : Int} {l : List Pt} {k : Nat} (h : ∀ p ∈ l, FinP p) (h0 : 0 < l.length) (hk : k ≤ l.length) : Fin64 (cornK s fX l k) ∧ Fin64 (cornK s fY l k) := by
  obtain ⟨i, hi, e⟩ := cornK_is s fX l k hk h0
  obtain ⟨j, hj, e'⟩ := cornK_is s fY l k hk h0
  rw [e, e']
  exact ⟨(h _ (getD_mem hi)).1, (h _ (getD_mem hj)).2⟩
set_option maxRecDepth 100000 in
set_option maxHeartbeats 6400000 in
theorem gBox (A : Option Addr) (c : Nat) (ps : List Pt) (w : World) (hp : PtsIn w A ps) (hl : ps.length ≤ 1000000) (hu : ∀ q ∈ ps, PtU q) :
    Calls Tryz.prog 29 #[.slice A ps.length c] w fun e w' => e = .returned (.tuple #[.agg #[.int .u64 (lowP ps).1, .int .u64 (lowP ps).2], .agg #[.int .u64 (highP ps).1, .int .u64 (highP ps).2], .int .i64 (boxE ps)]) ∧ Below w.heap.size w w' := by
  by_cases h0 : ps.length = 0
  · have e0 : boxE ps = 240 := by unfold boxE; rw [if_pos h0]
    have e1 : lowP ps = (0, 0) := by unfold lowP; rw [e0]; rfl
    have e2 : highP ps = (0, 0) := by unfold highP; rw [e0]; rfl
    rw [e0, e1, e2]
    have l0 : ((ps.length : Int) == 0) = true := by rw [h0]; rfl
    clear hp hu e0 e1 e2
    have hmm : Bx w.heap.size w ((w.alloc (.cells #[.int .u64 0, .int .u64 0] 38)).alloc (.cells #[.int .u64 0, .int .u64 0] 38)) _ _ := ((Bx.start w).alloc (.cells #[.int .u64 0, .int .u64 0] 38 (0, 0))).alloc (.cells #[.int .u64 0, .int .u64 0] 38 (0, 0))
    go_enter Tryz.func29, Tryz.ntmps29
    go_upto_region 1 with (fail)
    generalize (World.alloc (World.alloc w _) _) = v at *
    (try simp only [List.nil_append, List.cons_append, World.size_alloc, List.set_cons_zero, List.set_cons_succ, putsC, pB, pC, pD] at hmm)
    have HM := Lib.hid hmm
    clear hmm
    obtain ⟨c0_0, c0_1, c0_2, c0_3⟩ := rw2 (HM.out.at 0 rfl)
    obtain ⟨c1_0, c1_1, c1_2, c1_3⟩ := rw2 (HM.out.at 1 rfl)
    ((try dsimp only); repeat (first | go_values | go_skip | go_guarded | go_step | go_upon))
    refine bodyPost_ret (results_rows2 rfl _ _ (w.heap.size) (w.heap.size + 1) _ _ _ _ _ _ _ _ rfl rfl (((HM.out.puts 0 rfl (by decide) [(0, .int .u64 0), (1, .int .u64 0)]).puts 1 rfl (by decide) [(0, .int .u64 0), (1, .int .u64 0)]).at 0 rfl) (((HM.out.puts 0 rfl (by decide) [(0, .int .u64 0), (1, .int .u64 0)]).puts 1 rfl (by decide) [(0, .int .u64 0), (1, .int .u64 0)]).at 1 rfl) rfl rfl rfl rfl rfl rfl) rfl ?_
    exact ⟨rfl, ((HM.out.puts 0 rfl (by decide) [(0, .int .u64 0), (1, .int .u64 0)]).puts 1 rfl (by decide) [(0, .int .u64 0), (1, .int .u64 0)]).m.b⟩
  have l0 : ((ps.length : Int) == 0) = false := beq_eq_false_iff_ne.2 (by omega)
  have HFi := Lib.hid (fun wz h => gFinite A c ps wz (hp.keep h) hl hu)
  by_cases hf : finB ps = true
  · have e0 : boxE ps = 0 := by unfold boxE; rw [if_neg h0, if_pos hf]
    have e1 : lowP ps = (cornK (-1) fX ps ps.length, cornK (-1) fY ps ps.length) := by unfold lowP; rw [if_pos e0]
    have e2 : highP ps = (cornK 1 fX ps ps.length, cornK 1 fY ps ps.length) := by unfold highP; rw [if_pos e0]
    rw [e0, e1, e2]
    rw [hf] at HFi
    rw [finB_iff hu] at hf
    have hlen : 0 < ps.length := by omega
    have HFP := Lib.hid (And.intro hf (And.intro hlen hl))
    obtain ⟨ba, oa, rfl, hba, hpa⟩ := hp.open hlen
    have HR : Hid (∀ k, k < ps.length → ∀ wz, Below w.heap.size w wz → wz.cell? ⟨ba, oa + k * 2, none⟩ = some (.int .u64 (ps.getD k (0, 0)).1) ∧ wz.cell? ⟨ba, oa + k * 2 + 1, none⟩ = some (.int .u64 (ps.getD k (0, 0)).2)) :=
      Lib.hid (fun k hk wz h => ⟨(h.cell (p := ⟨ba, oa + k * 2, none⟩) hba).trans (hpa k hk).1, (h.cell (p := ⟨ba, oa + k * 2 + 1, none⟩) hba).trans (hpa k hk).2⟩)
    have HR0 : Hid (∀ wz, Below w.heap.size w wz → wz.cell? ⟨ba, oa, none⟩ = some (.int .u64 (cornK (-1) fX ps 0)) ∧ wz.cell? ⟨ba, oa + 1, none⟩ = some (.int .u64 (cornK (-1) fY ps 0))) :=
      Lib.hid (fun wz h => by have := HR.out 0 hlen wz h; rwa [Nat.zero_mul, Nat.add_zero] at this)
    have HC0 : Hid (cornK 1 fX ps 0 = cornK (-1) fX ps 0 ∧ cornK 1 fY ps 0 = cornK (-1) fY ps 0) := Lib.hid ⟨rfl, rfl⟩
    clear hp hu e0 e1 e2 hpa hf h0 hl
    have hmm : Bx w.heap.size w ((w.alloc (.cells #[.int .u64 0, .int .u64 0] 38)).alloc (.cells #[.int .u64 0, .int .u64 0] 38)) _ _ := ((Bx.start w).alloc (.cells #[.int .u64 0, .int .u64 0] 38 (0, 0))).alloc (.cells #[.int .u64 0, .int .u64 0] 38 (0, 0))
    go_enter Tryz.func29, Tryz.ntmps29
    go_upto_region 1 with (fail)
    generalize (World.alloc (World.alloc w _) _) = v at *
    (try simp only [List.nil_append, List.cons_append, World.size_alloc, List.set_cons_zero, List.set_cons_succ, putsC, pB, pC, pD] at hmm)
    have HM := Lib.hid hmm
    clear hmm
    ((try dsimp only); repeat (first | go_values | go_skip | go_guarded | go_step | go_upon))
    refine (HFi.out _ HM.out.m.b).mono ?_
    rintro e w1 ⟨rfl, hb⟩
    have hm := HM.out.keep hb
    clear HM hb HFi
    have HM := Lib.hid hm
    clear hm
    go_upto_region 5 with (fail)
    generalize hx0 : cornK (-1) fX ps 0 = zx at *
    generalize hy0 : cornK (-1) fY ps 0 = zy at *
    have HXY := Lib.hid (And.intro hx0 hy0)
    clear hx0 hy0
    refine start_ (n := 10) (S := fun w' => Below w1.heap.size w1 w') (ds := [9]) (bt 10 0) (by kernel_rfl) rfl rfl ((Below.refl _ _).drew) (fun hHeld => ?_)
    refine pv_ 0 21 ?_
    refine pv_ 1 22 ?_
    refine ld_ 2 23 ?_ hHeld ?_ ?_; rotate_left
    · rintro w' hs
      obtain ⟨c0, c1⟩ := HR0.out _ (HM.out.m.b.trans (hs.mono HM.out.m.b.size))
      clear hs
      go_simp; with_reducible rfl
    refine pv_ 3 24 ?_
    refine pv_ 4 25 ?_
    refine ld_ 5 26 ?_ hHeld ?_ ?_; rotate_left
    · rintro w' hs
      obtain ⟨c0, c1⟩ := HR0.out _ (HM.out.m.b.trans (hs.mono HM.out.m.b.size))
      clear hs
      go_simp; with_reducible rfl
    refine join_ (σ := Nat × Nat) 2 (bt 10 255) (fun s => [(5, .pointer (some ⟨(s.1), 0, none⟩)), (6, .pointer (some ⟨(s.2), 0, none⟩))]) (fun s w' => Bx w1.heap.size w1 w' [((s.1), .cells #[.int .u64 0, .int .u64 0] 38 (0, 0)), ((s.2), .cells #[.int .u64 0, .int .u64 0] 38 (0, 0))] []) ?_ ?_
    rotate_left
    · intro J0
      refine join_ (σ := Nat × Nat) 3 (bt 10 127) (fun s => [(5, .pointer (some ⟨(s.1), 0, none⟩))]) (fun s w' => Bx w1.heap.size w1 w' [((s.1), .cells #[.int .u64 0, .int .u64 0] 38 (0, 0))] []) ?_ ?_
      · rintro ⟨g1_6, g1_7⟩ wj hF
        try dsimp only at hF ⊢
        refine nx ?_
        refine o1 7 6 (bt 10 255) ?_
        · intro K hK
          refine al_ (.cells #[.int .u64 0, .int .u64 0] 38) ?_
          have hN := hF.alloc (.cells #[.int .u64 0, .int .u64 0] 38 (0, 0))
          refine hK.out _ _ (by exact hN.m.b) (fun hHeld => ?_)
          exact nj (J0 (g1_6, wj.heap.size) _ hN)
      intro J1
      refine join_ (σ := Nat × Nat) 3 (bt 10 191) (fun s => [(6, .pointer (some ⟨(s.2), 0, none⟩))]) (fun s w' => Bx w1.heap.size w1 w' [((s.2), .cells #[.int .u64 0, .int .u64 0] 38 (0, 0))] []) ?_ ?_
      · rintro ⟨g1_6, g1_7⟩ wj hF
        try dsimp only at hF ⊢
        refine nx ?_
        refine o1 6 5 (bt 10 255) ?_
        · intro K hK
          refine al_ (.cells #[.int .u64 0, .int .u64 0] 38) ?_
          have hN := hF.alloc (.cells #[.int .u64 0, .int .u64 0] 38 (0, 0))
          have hN := hN.sel (L' := [(wj.heap.size, .cells #[.int .u64 0, .int .u64 0] 38 (0, 0)), (g1_7, .cells #[.int .u64 0, .int .u64 0] 38 (0, 0))]) (R' := []) (fun i => [1, 0].getD i i) (fun i x e => match i, e with | 0, e => e | 1, e => e) (fun i j hi hj => (show ∀ i, i < 2 → ∀ j, j < 2 → [1, 0].getD i i = [1, 0].getD j j → i = j by decide) i hi j hj) (by first | exact fun x h => h | (simp only [List.nil_append, List.cons_append, List.mem_cons]; grind))
          refine hK.out _ _ (by exact hN.m.b) (fun hHeld => ?_)
          exact nj (J0 (wj.heap.size, g1_7) _ hN)
      intro J2
      refine join_ (σ := Nat × Nat) 4 (bt 10 63) (fun s => []) (fun s w' => Bx w1.heap.size w1 w' [] []) ?_ ?_
      · rintro ⟨g1_6, g1_7⟩ wj hF
        try dsimp only at hF ⊢
        refine nx ?_
        refine o2 6 5 7 6 (bt 10 127) (bt 10 191) ?_ ?_
        · intro K hK
          refine al_ (.cells #[.int .u64 0, .int .u64 0] 38) ?_
          have hN := hF.alloc (.cells #[.int .u64 0, .int .u64 0] 38 (0, 0))
          refine hK.out _ _ (by exact hN.m.b) (fun hHeld => ?_)
          exact nj (J1 (wj.heap.size, g1_7) _ hN)
        · intro K hK
          refine al_ (.cells #[.int .u64 0, .int .u64 0] 38) ?_
          have hN := hF.alloc (.cells #[.int .u64 0, .int .u64 0] 38 (0, 0))
          refine hK.out _ _ (by exact hN.m.b) (fun hHeld => ?_)
          exact nj (J2 (g1_6, wj.heap.size) _ hN)
      intro J3
      exact nj (J3 (0, 0) _ ((Bx.start _).drew))
    rintro ⟨g1_6, g1_7⟩ wj hF
    try dsimp only at hF ⊢
    refine nx ?_
    have hge2 := hF.g 0 _ _ rfl
    have hge3 := hF.g 1 _ _ rfl
    have hG := HM.out.join hF
    (try simp only [List.nil_append, List.cons_append, World.size_alloc, List.set_cons_zero, List.set_cons_succ, putsC, pB, pC, pD] at hG)
    have hHeld := And.intro True.intro hF.m.b
    clear HM hF
    refine one_ (i := 8) (N := none) (bt 10 511) rfl rfl (by kernel_rfl) (by decide) (fun K hK => ?_)
    obtain ⟨y0, y1, y2, y3⟩ := rw2 (hG.at 2 rfl)
    refine skip_ (w1 := puts (g1_6) [(0, .int .u64 zx), (1, .int .u64 zy)] wj) (by rfl) rfl ?_ ?_
    · go_simp
      rfl
    replace hHeld := And.intro True.intro (puts_below hge2 [(0, .int .u64 zx), (1, .int .u64 zy)] _ hHeld.2)
    refine hK.out _ _ (by exact hHeld.2) (fun _ => ?_)
    clear hK K y0 y1 y2 y3
    replace hG := hG.puts 2 rfl (by decide) [(0, .int .u64 zx), (1, .int .u64 zy)]
    (try simp only [List.nil_append, List.cons_append, World.size_alloc, List.set_cons_zero, List.set_cons_succ, putsC, pB, pC, pD] at hG)
    generalize puts (g1_6) _ wj = wk2 at *
    refine last_ (i := 9) (N := none) (bt 10 1023) rfl rfl (by kernel_rfl) (by decide) (fun K hK => ?_)
    obtain ⟨y0, y1, y2, y3⟩ := rw2 (hG.at 3 rfl)
    refine skip_ (w1 := puts (g1_7) [(0, .int .u64 zx), (1, .int .u64 zy)] wk2) (by rfl) rfl ?_ ?_
    · go_simp
      rfl
    refine hK.out _ _ ?_
    clear hK K y0 y1 y2 y3
    replace hG := hG.puts 3 rfl (by decide) [(0, .int .u64 zx), (1, .int .u64 zy)]
    (try simp only [List.nil_append, List.cons_append, World.size_alloc, List.set_cons_zero, List.set_cons_succ, putsC, pB, pC, pD] at hG)
    generalize puts (g1_7) _ wk2 = wk3 at *
    refine done_ (by kernel_rfl) ?_
    (try simp only [List.nil_append, List.cons_append, World.size_alloc, List.set_cons_zero, List.set_cons_succ, putsC, pB, pC, pD] at hG)
    have HM := Lib.hid hG
    clear hG hHeld
    ((try dsimp only); repeat (first | go_values | go_skip | go_guarded | go_step | go_upon))
    go_loopw [29] (fun i wr => ∃ k : Nat, i = .int .i64 k ∧ k ≤ ps.length ∧ Bx w.heap.size w wr [(w.heap.size, .cells #[.int .u64 0, .int .u64 0] 38 (0, 0)), (w.heap.size + 1, .cells #[.int .u64 0, .int .u64 0] 38 (0, 0)), (g1_6, .cells #[.int .u64 (cornK (-1) fX ps k), .int .u64 (cornK (-1) fY ps k)] 38 (0, 0)), (g1_7, .cells #[.int .u64 (cornK 1 fX ps k), .int .u64 (cornK 1 fY ps k)] 38 (0, 0))] []) (fun i _ => ps.length - (intOf i).toNat)
    case atStart =>
      refine ⟨0, rfl, Nat.zero_le _, ?_⟩
      rw [HC0.out.1, HC0.out.2, HXY.out.1, HXY.out.2]
      exact HM.out
    case round =>
      obtain ⟨k, rfl, hk, hB⟩ := hrel
      clear HM HXY HC0 HR0
      have HM := Lib.hid hB
      clear hB
      by_cases h0 : k < ps.length
      · obtain ⟨x1, x2⟩ := corn_fin (s := -1) HFP.out.1 HFP.out.2.1 hk
        obtain ⟨x3, x4⟩ := corn_fin (s := 1) HFP.out.1 HFP.out.2.1 hk
        have pk := HFP.out.1 _ (getD_mem h0)
        have q0 := HR.out k h0 wr HM.out.m.b
        have HS : Hid (cornK (-1) fX ps (k + 1) = farB (-1) (cornK (-1) fX ps k) (ps.getD k (0, 0)).1 ∧ cornK (-1) fY ps (k + 1) = farB (-1) (cornK (-1) fY ps k) (ps.getD k (0, 0)).2 ∧ cornK 1 fX ps (k + 1) = farB 1 (cornK 1 fX ps k) (ps.getD k (0, 0)).1 ∧ cornK 1 fY ps (k + 1) = farB 1 (cornK 1 fY ps k) (ps.getD k (0, 0)).2) := Lib.hid ⟨cornK_succ _ _ _ _, cornK_succ _ _ _ _, cornK_succ _ _ _ _, cornK_succ _ _ _ _⟩
        generalize cornK (-1) fX ps k = l1 at *
        generalize cornK (-1) fY ps k = l2 at *
        generalize cornK 1 fX ps k = h1 at *
        generalize cornK 1 fY ps k = h2 at *
        generalize ps.getD k (0, 0) = q at *
        have H1 := Lib.hid (fun wz => lFarther l1 q.1 (-1) wz x1 pk.1)
        have H2 := Lib.hid (fun wz => lFarther l2 q.2 (-1) wz x2 pk.2)
        have H3 := Lib.hid (fun wz => lFarther h1 q.1 1 wz x3 pk.1)
        have H4 := Lib.hid (fun wz => lFarther h2 q.2 1 wz x4 pk.2)
        generalize farB (-1) l1 q.1 = m1 at *
        generalize farB (-1) l2 q.2 = m2 at *
        generalize farB 1 h1 q.1 = m3 at *
        generalize farB 1 h2 q.2 = m4 at *
        obtain ⟨q1, q2⟩ := q0
        have hi : (k : Int) < (ps.length : Int) := by omega
        have hw1 : wrap64 ((k : Int) + 1) = ((k + 1 : Nat) : Int) := by have := HFP.out.2.2; clear HM HS H1 H2 H3 H4 HR HFP; unfold wrap64; omega
        have W1 := Lib.hid hw1
        have HK0 := Lib.hid h0
        clear hw1 x1 x2 x3 x4 pk
        go_upto_region 8 with (fail)
        have hm : Bx w.heap.size w (World.alloc wr (.cells #[.int .u64 q.1, .int .u64 q.2] 38)) _ _ := (HM.out.alloc (.cells #[.int .u64 q.1, .int .u64 q.2] 38 (0, 0)))
        go_upto_region 9 with (fail)
        generalize (World.alloc wr _) = v4 at *
        clear HM 
        (try simp only [List.nil_append, List.cons_append, World.size_alloc, List.set_cons_zero, List.set_cons_succ, putsC, pB, pC, pD] at hm)
        have HM := Lib.hid hm
        clear hm
        clear q1 q2
        refine start_ (n := 14) (S := fun w' => w'.heap[g1_6]? = v4.heap[g1_6]? ∧ w'.heap[wr.heap.size]? = v4.heap[wr.heap.size]?) (ds := [11, 13]) (bt 14 0) (by kernel_rfl) rfl rfl ((And.intro rfl rfl)) (fun hHeld => ?_)
        refine pv_ 0 33 ?_
        refine ld_ 1 34 ?_ hHeld ?_ ?_; rotate_left
        · rintro w' hs
          obtain ⟨q0, q1, q2, q3⟩ := rw2 ((hs.1).trans (HM.out.at 2 rfl))
          clear hs
          go_simp; with_reducible rfl
        refine pv_ 2 35 ?_
        refine ld_ 3 36 ?_ hHeld ?_ ?_; rotate_left
        · rintro w' hs
          obtain ⟨q0, q1, q2, q3⟩ := rw2 ((hs.2).trans (HM.out.at 4 rfl))
          clear hs
          go_simp; with_reducible rfl
        refine pv_ 5 38 ?_
        refine ld_ 6 39 ?_ hHeld ?_ ?_; rotate_left
        · rintro w' hs
          obtain ⟨q0, q1, q2, q3⟩ := rw2 ((hs.1).trans (HM.out.at 2 rfl))
          clear hs
          go_simp; with_reducible rfl
        refine pv_ 7 40 ?_
        refine ld_ 8 41 ?_ hHeld ?_ ?_; rotate_left
        · rintro w' hs
          obtain ⟨q0, q1, q2, q3⟩ := rw2 ((hs.2).trans (HM.out.at 4 rfl))
          clear hs
          go_simp; with_reducible rfl
        refine join_ (σ := Unit) 3 (bt 14 2047) (fun s => [(37, .int .u64 m1), (42, .int .u64 m2), (43, .pointer (some ⟨g1_6, 0, none⟩))]) (fun s w' => Bx v4.heap.size v4 w' [] []) ?_ ?_
        rotate_left
        · intro J0
          refine join_ (σ := Unit) 4 (bt 14 1535) (fun s => [(37, .int .u64 m1), (43, .pointer (some ⟨g1_6, 0, none⟩))]) (fun s w' => Bx v4.heap.size v4 w' [] []) ?_ ?_
          · rintro _ wj hF
            try dsimp only at hF ⊢
            refine nx ?_
            refine o1 9 42 (bt 14 2047) ?_
            · intro K hK
              refine go_ Tryz.func86 #[.int .u64 l2, .int .u64 q.2, .int .i64 (-1)] ?_
              with_reducible refine (H2.out wj).mono ?_
              rintro e w' ⟨rfl, hb⟩
              refine ⟨_, rfl, ?_⟩
              have hN := hF.keep hb
              refine hK.out _ _ (by exact (And.intro (hN.m.b.block _ (HM.out.lt 2 rfl)) (hN.m.b.block _ (HM.out.lt 4 rfl)))) (fun hHeld => ?_)
              exact nj (J0 () _ hN)
          intro J1
          refine join_ (σ := Unit) 5 (bt 14 511) (fun s => [(37, .int .u64 m1)]) (fun s w' => Bx v4.heap.size v4 w' [] []) ?_ ?_
          · rintro _ wj hF
            try dsimp only at hF ⊢
            refine nx ?_
            refine pv_ 10 43 ?_
            exact nj (J1 () _ hF)
          intro J2
          refine join_ (σ := Unit) 6 (bt 14 495) (fun s => []) (fun s w' => Bx v4.heap.size v4 w' [] []) ?_ ?_
          · rintro _ wj hF
            try dsimp only at hF ⊢
            refine nx ?_
            refine o1 4 37 (bt 14 511) ?_
            · intro K hK
              refine go_ Tryz.func86 #[.int .u64 l1, .int .u64 q.1, .int .i64 (-1)] ?_
              with_reducible refine (H1.out wj).mono ?_
              rintro e w' ⟨rfl, hb⟩
              refine ⟨_, rfl, ?_⟩
              have hN := hF.keep hb
              refine hK.out _ _ (by exact (And.intro (hN.m.b.block _ (HM.out.lt 2 rfl)) (hN.m.b.block _ (HM.out.lt 4 rfl)))) (fun hHeld => ?_)
              exact nj (J2 () _ hN)
          intro J3
          exact nj (J3 () _ ((Bx.start _).drew))
        rintro _ wj hF
        try dsimp only at hF ⊢
        refine nx ?_
        have hG := HM.out.join hF
        (try simp only [List.nil_append, List.cons_append, World.size_alloc, List.set_cons_zero, List.set_cons_succ, putsC, pB, pC, pD] at hG)
        have hHeld := And.intro True.intro (And.intro (hF.m.b.block _ (HM.out.lt 2 rfl)) (hF.m.b.block _ (HM.out.lt 4 rfl)))
        clear HM hF
        refine last_ (i := 11) (N := none) (bt 14 4095) rfl rfl (by kernel_rfl) (by decide) (fun K hK => ?_)
        obtain ⟨y0, y1, y2, y3⟩ := rw2 (hG.at 2 rfl)
        refine skip_ (w1 := puts (g1_6) [(0, .int .u64 m1)] wj) (by rfl) rfl ?_ ?_
        · go_simp
          rfl
        refine hK.out _ _ ?_
        clear hK K y0 y1 y2 y3
        replace hG := hG.puts 2 rfl (by decide) [(0, .int .u64 m1)]
        (try simp only [List.nil_append, List.cons_append, World.size_alloc, List.set_cons_zero, List.set_cons_succ, putsC, pB, pC, pD] at hG)
        generalize puts (g1_6) _ wj = wk6 at *
        refine pv_ 12 44 ?_
        refine last_ (i := 13) (N := none) (bt 14 16383) rfl rfl (by kernel_rfl) (by decide) (fun K hK => ?_)
        obtain ⟨y0, y1, y2, y3⟩ := rw2 (hG.at 2 rfl)
        refine skip_ (w1 := puts (g1_6) [(1, .int .u64 m2)] wk6) (by rfl) rfl ?_ ?_
        · go_simp
          rfl
        refine hK.out _ _ ?_
        clear hK K y0 y1 y2 y3
        replace hG := hG.puts 2 rfl (by decide) [(1, .int .u64 m2)]
        (try simp only [List.nil_append, List.cons_append, World.size_alloc, List.set_cons_zero, List.set_cons_succ, putsC, pB, pC, pD] at hG)
        generalize puts (g1_6) _ wk6 = wk7 at *
        refine done_ (by kernel_rfl) ?_
        (try simp only [List.nil_append, List.cons_append, World.size_alloc, List.set_cons_zero, List.set_cons_succ, putsC, pB, pC, pD] at hG)
        have HM := Lib.hid hG
        clear hG hHeld
        go_upto_region 10 with (fail)
        refine start_ (n := 14) (S := fun w' => w'.heap[g1_7]? = wk7.heap[g1_7]? ∧ w'.heap[wr.heap.size]? = wk7.heap[wr.heap.size]?) (ds := [11, 13]) (bt 14 0) (by kernel_rfl) rfl rfl ((And.intro rfl rfl)) (fun hHeld => ?_)
        refine pv_ 0 45 ?_
        refine ld_ 1 46 ?_ hHeld ?_ ?_; rotate_left
        · rintro w' hs
          obtain ⟨q0, q1, q2, q3⟩ := rw2 ((hs.1).trans (HM.out.at 3 rfl))
          clear hs
          go_simp; with_reducible rfl
        refine pv_ 2 47 ?_
        refine ld_ 3 48 ?_ hHeld ?_ ?_; rotate_left
        · rintro w' hs
          obtain ⟨q0, q1, q2, q3⟩ := rw2 ((hs.2).trans (HM.out.at 4 rfl))
          clear hs
          go_simp; with_reducible rfl
        refine pv_ 5 50 ?_
        refine ld_ 6 51 ?_ hHeld ?_ ?_; rotate_left
        · rintro w' hs
          obtain ⟨q0, q1, q2, q3⟩ := rw2 ((hs.1).trans (HM.out.at 3 rfl))
          clear hs
          go_simp; with_reducible rfl
        refine pv_ 7 52 ?_
        refine ld_ 8 53 ?_ hHeld ?_ ?_; rotate_left
        · rintro w' hs
          obtain ⟨q0, q1, q2, q3⟩ := rw2 ((hs.2).trans (HM.out.at 4 rfl))
          clear hs
          go_simp; with_reducible rfl
        refine join_ (σ := Unit) 3 (bt 14 2047) (fun s => [(49, .int .u64 m3), (54, .int .u64 m4), (55, .pointer (some ⟨g1_7, 0, none⟩))]) (fun s w' => Bx wk7.heap.size wk7 w' [] []) ?_ ?_
        rotate_left
        · intro J0
          refine join_ (σ := Unit) 4 (bt 14 1535) (fun s => [(49, .int .u64 m3), (55, .pointer (some ⟨g1_7, 0, none⟩))]) (fun s w' => Bx wk7.heap.size wk7 w' [] []) ?_ ?_
          · rintro _ wj hF
            try dsimp only at hF ⊢
            refine nx ?_
            refine o1 9 54 (bt 14 2047) ?_
            · intro K hK
              refine go_ Tryz.func86 #[.int .u64 h2, .int .u64 q.2, .int .i64 1] ?_
              with_reducible refine (H4.out wj).mono ?_
              rintro e w' ⟨rfl, hb⟩
              refine ⟨_, rfl, ?_⟩
              have hN := hF.keep hb
              refine hK.out _ _ (by exact (And.intro (hN.m.b.block _ (HM.out.lt 3 rfl)) (hN.m.b.block _ (HM.out.lt 4 rfl)))) (fun hHeld => ?_)
              exact nj (J0 () _ hN)
          intro J1
          refine join_ (σ := Unit) 5 (bt 14 511) (fun s => [(49, .int .u64 m3)]) (fun s w' => Bx wk7.heap.size wk7 w' [] []) ?_ ?_
          · rintro _ wj hF
            try dsimp only at hF ⊢
            refine nx ?_
            refine pv_ 10 55 ?_
            exact nj (J1 () _ hF)
          intro J2
          refine join_ (σ := Unit) 6 (bt 14 495) (fun s => []) (fun s w' => Bx wk7.heap.size wk7 w' [] []) ?_ ?_
          · rintro _ wj hF
            try dsimp only at hF ⊢
            refine nx ?_
            refine o1 4 49 (bt 14 511) ?_
            · intro K hK
              refine go_ Tryz.func86 #[.int .u64 h1, .int .u64 q.1, .int .i64 1] ?_
              with_reducible refine (H3.out wj).mono ?_
              rintro e w' ⟨rfl, hb⟩
              refine ⟨_, rfl, ?_⟩
              have hN := hF.keep hb
              refine hK.out _ _ (by exact (And.intro (hN.m.b.block _ (HM.out.lt 3 rfl)) (hN.m.b.block _ (HM.out.lt 4 rfl)))) (fun hHeld => ?_)
              exact nj (J2 () _ hN)
          intro J3
          exact nj (J3 () _ ((Bx.start _).drew))
        rintro _ wj hF
        try dsimp only at hF ⊢
        refine nx ?_
        have hG := HM.out.join hF
        (try simp only [List.nil_append, List.cons_append, World.size_alloc, List.set_cons_zero, List.set_cons_succ, putsC, pB, pC, pD] at hG)
        have hHeld := And.intro True.intro (And.intro (hF.m.b.block _ (HM.out.lt 3 rfl)) (hF.m.b.block _ (HM.out.lt 4 rfl)))
        clear HM hF
        refine last_ (i := 11) (N := none) (bt 14 4095) rfl rfl (by kernel_rfl) (by decide) (fun K hK => ?_)
        obtain ⟨y0, y1, y2, y3⟩ := rw2 (hG.at 3 rfl)
        refine skip_ (w1 := puts (g1_7) [(0, .int .u64 m3)] wj) (by rfl) rfl ?_ ?_
        · go_simp
          rfl
        refine hK.out _ _ ?_
        clear hK K y0 y1 y2 y3
        replace hG := hG.puts 3 rfl (by decide) [(0, .int .u64 m3)]
        (try simp only [List.nil_append, List.cons_append, World.size_alloc, List.set_cons_zero, List.set_cons_succ, putsC, pB, pC, pD] at hG)
        generalize puts (g1_7) _ wj = wk9 at *
        refine pv_ 12 56 ?_
        refine last_ (i := 13) (N := none) (bt 14 16383) rfl rfl (by kernel_rfl) (by decide) (fun K hK => ?_)
        obtain ⟨y0, y1, y2, y3⟩ := rw2 (hG.at 3 rfl)
        refine skip_ (w1 := puts (g1_7) [(1, .int .u64 m4)] wk9) (by rfl) rfl ?_ ?_
        · go_simp
          rfl
        refine hK.out _ _ ?_
        clear hK K y0 y1 y2 y3
        replace hG := hG.puts 3 rfl (by decide) [(1, .int .u64 m4)]
        (try simp only [List.nil_append, List.cons_append, World.size_alloc, List.set_cons_zero, List.set_cons_succ, putsC, pB, pC, pD] at hG)
        generalize puts (g1_7) _ wk9 = wk10 at *
        refine done_ (by kernel_rfl) ?_
        (try simp only [List.nil_append, List.cons_append, World.size_alloc, List.set_cons_zero, List.set_cons_succ, putsC, pB, pC, pD] at hG)
        have HM := Lib.hid hG
        clear hG hHeld
        ((try dsimp only); repeat (first | go_values | go_skip | go_guarded | go_step | go_upon))
        refine ⟨⟨k + 1, vint W1.out, HK0.out, ?_⟩, ?_⟩
        · rw [HS.out.1, HS.out.2.1, HS.out.2.2.1, HS.out.2.2.2]; exact HM.out.pre ⟨_, rfl⟩ ⟨_, rfl⟩
        · show ps.length - (intOf (.int .i64 (wrap64 ((k : Int) + 1)))).toNat < ps.length - (intOf (.int .i64 (k : Int))).toNat
          rw [W1.out]
          have hk0 := HK0.out
          clear HM HS H1 H2 H3 H4 HR HFP W1 HK0
          show ps.length - (((k + 1 : Nat) : Int)).toNat < ps.length - ((k : Int)).toNat
          omega
      · obtain rfl : k = ps.length := by omega
        obtain ⟨l1, el1⟩ : ∃ x, cornK (-1) fX ps ps.length = x := ⟨_, rfl⟩
        obtain ⟨l2, el2⟩ : ∃ x, cornK (-1) fY ps ps.length = x := ⟨_, rfl⟩
        obtain ⟨h1, eh1⟩ : ∃ x, cornK 1 fX ps ps.length = x := ⟨_, rfl⟩
        obtain ⟨h2, eh2⟩ : ∃ x, cornK 1 fY ps ps.length = x := ⟨_, rfl⟩
        rw [el1, el2, eh1, eh2] at HM
        have HE := Lib.hid (And.intro el1 (And.intro el2 (And.intro eh1 eh2)))
        clear el1 el2 eh1 eh2
        go_upto_region 12 with (fail)
        refine start_ (n := 5) (S := fun w' => w'.heap[g1_6]? = wr.heap[g1_6]? ∧ w'.heap[g1_7]? = wr.heap[g1_7]?) (ds := [3]) (bt 5 0) (by kernel_rfl) rfl rfl ((And.intro rfl rfl)) (fun hHeld => ?_)
        refine ld_ 0 58 ?_ hHeld ?_ ?_; rotate_left
        · rintro w' hs
          obtain ⟨q0, q1, q2, q3⟩ := rw2 ((hs.1).trans (HM.out.at 2 rfl))
          clear hs
          go_simp; with_reducible rfl
        refine ld_ 1 59 ?_ hHeld ?_ ?_; rotate_left
        · rintro w' hs
          obtain ⟨q0, q1, q2, q3⟩ := rw2 ((hs.2).trans (HM.out.at 3 rfl))
          clear hs
          go_simp; with_reducible rfl
        have hG := HM.out.drew
        replace hHeld := And.intro True.intro hHeld
        clear HM
        generalize hwg : wr.drew = wj at *
        clear hwg
        refine one_ (i := 2) (N := none) (bt 5 7) rfl rfl (by kernel_rfl) (by decide) (fun K hK => ?_)
        obtain ⟨y0, y1, y2, y3⟩ := rw2 (hG.at 0 rfl)
        refine skip_ (w1 := puts (w.heap.size) [(0, .int .u64 l1), (1, .int .u64 l2)] wj) (by rfl) rfl ?_ ?_
        · go_simp
          rfl
        replace hHeld := And.intro True.intro (And.intro ((puts_other (hG.ne 2 0 rfl rfl (by decide)) [(0, .int .u64 l1), (1, .int .u64 l2)] wj).trans hHeld.2.1) ((puts_other (hG.ne 3 0 rfl rfl (by decide)) [(0, .int .u64 l1), (1, .int .u64 l2)] wj).trans hHeld.2.2))
        refine hK.out _ _ (by exact hHeld.2) (fun _ => ?_)
        clear hK K y0 y1 y2 y3
        replace hG := hG.puts 0 rfl (by decide) [(0, .int .u64 l1), (1, .int .u64 l2)]
        (try simp only [List.nil_append, List.cons_append, World.size_alloc, List.set_cons_zero, List.set_cons_succ, putsC, pB, pC, pD] at hG)
        generalize puts (w.heap.size) _ wj = wk4 at *
        refine last_ (i := 3) (N := none) (bt 5 15) rfl rfl (by kernel_rfl) (by decide) (fun K hK => ?_)
        obtain ⟨y0, y1, y2, y3⟩ := rw2 (hG.at 1 rfl)
        refine skip_ (w1 := puts (w.heap.size + 1) [(0, .int .u64 h1), (1, .int .u64 h2)] wk4) (by rfl) rfl ?_ ?_
        · go_simp
          rfl
        refine hK.out _ _ ?_
        clear hK K y0 y1 y2 y3
        replace hG := hG.puts 1 rfl (by decide) [(0, .int .u64 h1), (1, .int .u64 h2)]
        (try simp only [List.nil_append, List.cons_append, World.size_alloc, List.set_cons_zero, List.set_cons_succ, putsC, pB, pC, pD] at hG)
        generalize puts (w.heap.size + 1) _ wk4 = wk5 at *
        refine pv_ 4 4 ?_
        refine done_ (by kernel_rfl) ?_
        (try simp only [List.nil_append, List.cons_append, World.size_alloc, List.set_cons_zero, List.set_cons_succ, putsC, pB, pC, pD] at hG)
        have HM := Lib.hid hG
        clear hG hHeld
        ((try dsimp only); repeat (first | go_values | go_skip | go_guarded | go_step | go_upon))
        refine bodyPost_ret (results_rows2 rfl _ _ (w.heap.size) (w.heap.size + 1) _ _ _ _ _ _ _ _ rfl rfl (HM.out.at 0 rfl) (HM.out.at 1 rfl) rfl rfl rfl rfl rfl rfl) rfl ?_
        exact ⟨by rw [HE.out.1, HE.out.2.1, HE.out.2.2.1, HE.out.2.2.2]; rfl, HM.out.m.b⟩
  · have hf2 : finB ps = false := by rwa [Bool.not_eq_true] at hf
    have e0 : boxE ps = 220 := by unfold boxE; rw [if_neg h0, if_neg hf]
    have e1 : lowP ps = (0, 0) := by unfold lowP; rw [e0]; rfl
    have e2 : highP ps = (0, 0) := by unfold highP; rw [e0]; rfl
    rw [e0, e1, e2]
    rw [hf2] at HFi
    clear hp hu e0 e1 e2 hf hf2
    have hmm : Bx w.heap.size w ((w.alloc (.cells #[.int .u64 0, .int .u64 0] 38)).alloc (.cells #[.int .u64 0, .int .u64 0] 38)) _ _ := ((Bx.start w).alloc (.cells #[.int .u64 0, .int .u64 0] 38 (0, 0))).alloc (.cells #[.int .u64 0, .int .u64 0] 38 (0, 0))
    go_enter Tryz.func29, Tryz.ntmps29
    go_upto_region 1 with (fail)
    generalize (World.alloc (World.alloc w _) _) = v at *
    (try simp only [List.nil_append, List.cons_append, World.size_alloc, List.set_cons_zero, List.set_cons_succ, putsC, pB, pC, pD] at hmm)
    have HM := Lib.hid hmm
    clear hmm
    ((try dsimp only); repeat (first | go_values | go_skip | go_guarded | go_step | go_upon))
    refine (HFi.out _ HM.out.m.b).mono ?_
    rintro e w1 ⟨rfl, hb⟩
    have hm := HM.out.keep hb
    clear HM hb HFi
    have HM := Lib.hid hm
    clear hm
    obtain ⟨c0_0, c0_1, c0_2, c0_3⟩ := rw2 (HM.out.at 0 rfl)
    obtain ⟨c1_0, c1_1, c1_2, c1_3⟩ := rw2 (HM.out.at 1 rfl)
    ((try dsimp only); repeat (first | go_values | go_skip | go_guarded | go_step | go_upon))
    refine bodyPost_ret (results_rows2 rfl _ _ (w.heap.size) (w.heap.size + 1) _ _ _ _ _ _ _ _ rfl rfl (((HM.out.puts 0 rfl (by decide) [(0, .int .u64 0), (1, .int .u64 0)]).puts 1 rfl (by decide) [(0, .int .u64 0), (1, .int .u64 0)]).at 0 rfl) (((HM.out.puts 0 rfl (by decide) [(0, .int .u64 0), (1, .int .u64 0)]).puts 1 rfl (by decide) [(0, .int .u64 0), (1, .int .u64 0)]).at 1 rfl) rfl rfl rfl rfl rfl rfl) rfl ?_
    exact ⟨rfl, ((HM.out.puts 0 rfl (by decide) [(0, .int .u64 0), (1, .int .u64 0)]).puts 1 rfl (by decide) [(0, .int .u64 0), (1, .int .u64 0)]).m.b⟩
end Go.Proofs.YtfpofmifmapmfaaGreatDoor

namespace Go.Proofs.YtfpofmifmapmfaaGreatDoor
open Go.RowKit Go.Proofs.YtfpofmifmapmfaaGreatDoorW.PrintLast
set_option linter.unusedVariables false
set_option linter.unusedSimpArgs false
set_option maxRecDepth 100000 in
set_option maxHeartbeats 1600000 in
theorem fSplitNo (b : Int) (w : World) (h0 : 0 ≤ b) (h1 : b ≤ 18446744073709551615) (h : fe b = 2047) :
    Calls Tryz.prog 181 #[.int .u64 b] w fun e w' => e = .returned (.tuple #[.bool false, .int .u64 0, .int .i64 0, .int .i64 60]) ∧ w = w' := by
  have HF := Lib.hid (fFields b w h0 h1)
  have HK := Lib.hid (fClass b w h0 h1)
  have ht := top_neg h0 h1
  obtain ⟨_, _, k3⟩ := fcl_cases b
  have hc := k3 h
  have HT := Lib.hid ht
  rw [h] at HF
  clear k3 h ht
  generalize ff b = y at *
  generalize fcl b = z at *
  rcases hc with rfl | rfl
  · go_enter Tryz.func181, Tryz.ntmps181
    go_wp2_with (first | (go_at_call 210; refine HF.out.mono ?_; rintro e w1 ⟨rfl, rfl⟩) | (go_at_call 145; refine HK.out.mono ?_; rintro e w1 ⟨rfl, rfl⟩))
    refine bodyPost_ret (results_tmp4 rfl _ _ _) rfl ?_
    exact ⟨rfl, rfl⟩
  · go_enter Tryz.func181, Tryz.ntmps181
    go_wp2_with (first | (go_at_call 210; refine HF.out.mono ?_; rintro e w1 ⟨rfl, rfl⟩) | (go_at_call 145; refine HK.out.mono ?_; rintro e w1 ⟨rfl, rfl⟩))
    refine bodyPost_ret (results_tmp4 rfl _ _ _) rfl ?_
    exact ⟨rfl, rfl⟩
set_option maxRecDepth 100000 in
set_option maxHeartbeats 1600000 in
theorem vValueNo (b : Int) (w : World) (h0 : 0 ≤ b) (h1 : b ≤ 18446744073709551615) (h : fe b = 2047) :
    Calls Tryz.prog 120 #[.int .u64 b] w fun e w' => e = .returned (.tuple #[.agg #[.bool false, .slice none 0 0, .slice none 0 0], .int .i64 60]) ∧ Below w.heap.size w w' := by
  have HS := Lib.hid (fun wz => fSplitNo b wz h0 h1 h)
  clear h0 h1 h
  have hmm := (Bx.start w).alloc (.cells #[.bool false, .slice none 0 0, .slice none 0 0] 26 (0, 0))
  simp only [List.nil_append] at hmm
  go_enter Tryz.func120, Tryz.ntmps120
  ((try dsimp only); repeat (first | go_values | go_skip | go_guarded | go_step | go_upon))
  generalize World.alloc w _ = v at *
  have HM := Lib.hid hmm
  clear hmm
  refine (HS.out _).mono ?_
  rintro e w1 ⟨rfl, rfl⟩
  obtain ⟨e0, e1, e2, f0, f1, f2⟩ := rw3 (HM.out.at 0 rfl)
  ((try dsimp only); repeat (first | go_values | go_skip | go_guarded | go_step | go_upon))
  have hN := HM.out.puts 0 rfl (by decide) [(0, .bool false), (1, .slice none 0 0), (2, .slice none 0 0)]
  refine bodyPost_ret (results_row_tmp rfl _ _ w.heap.size _ _ _ _ rfl (hN.at 0 rfl) rfl rfl rfl) rfl ?_
  exact ⟨rfl, hN.m.b⟩
theorem vValueAny (b : Int) (w : World) (h : U64 b) :
    Calls Tryz.prog 120 #[.int .u64 b] w fun e w' => ∃ (z : Bool) (E F : Option Addr) (n1 n2 n3 n4 : Nat) (er : Int), e = .returned (.tuple #[.agg #[.bool z, .slice E n1 n2, .slice F n3 n4], .int .i64 er]) ∧ (er = 0 ↔ Fin64 b) ∧ Below w.heap.size w w' := by
  by_cases hf : fe b = 2047
  · refine (vValueNo b w h.1 h.2 hf).mono ?_
    rintro e w' ⟨rfl, hb⟩
    exact ⟨_, _, _, _, _, _, _, _, rfl, ⟨fun e => absurd e (by decide), fun e => absurd hf e.2.2⟩, hb⟩
  · refine (vValue b w ⟨h.1, h.2, hf⟩).mono ?_
    rintro e w' ⟨E, F, rfl, _, hb⟩
    exact ⟨_, _, _, _, _, _, _, _, rfl, ⟨fun _ => ⟨h.1, h.2, hf⟩, fun _ => rfl⟩, hb⟩
set_option maxRecDepth 100000 in
set_option maxHeartbeats 3200000 in
theorem pPlacesNo (b o : Nat) (ps : List Pt) (w : World) (hp : PtsAt w b o ps) (hb : b < w.heap.size) (hl : ps.length ≤ 1000000) (hu : ∀ p ∈ ps, PtU p) (hn : ∃ p ∈ ps, ¬ FinP p) :
    Calls Tryz.prog 98 #[.slice (some ⟨b, o, none⟩) ps.length ps.length] w fun e w' => e = .returned (.tuple #[.slice none 0 0, .bool false]) ∧ Below w.heap.size w w' := by
  have hmk := run_make_places ps.length hl
  have HP := Lib.hid hp
  have HU := Lib.hid hu
  have HN := Lib.hid hn
  clear hp hu hn
  go_enter Tryz.func98, Tryz.ntmps98
  go_wp2_with (fail)
  go_loopw [16] (fun i wr => ∃ (k : Nat) (C : Array Value), i = .int .i64 k ∧ k ≤ ps.length ∧ wr.heap[w.heap.size]? = some (.cells C 155 (0, 0)) ∧ C.size = ps.length * 6 ∧
    (∀ i, i < k → FinP (ps.getD i (0, 0))) ∧ Below w.heap.size w wr) (fun i _ => ps.length - (intOf i).toNat)
  case atStart => exact ⟨0, _, rfl, Nat.zero_le _, alloc_new _ _, size_madeCells _ _, fun i h => by omega, (by repeat (first | exact Below.refl _ _ | refine belowN ?_ _ | refine Below.drew ?_ | refine Below.alloc ?_ (by first | exact Nat.le_refl _ | (simp; done) | (simp; omega) | omega) _))⟩
  case round =>
    obtain ⟨k, C, rfl, hk, hrow, hC, hdone, hB⟩ := hrel
    by_cases h0 : k < ps.length
    · have hpk := (HP.out k h0)
      have hp1 := (hB.cell (p := ⟨b, o + k * 2, none⟩) hb).trans hpk.1
      have hp2 := (hB.cell (p := ⟨b, o + k * 2 + 1, none⟩) hb).trans hpk.2
      have huk := HU.out _ (getD_mem h0)
      have HD := Lib.hid (And.intro hrow (And.intro hC (And.intro hdone hB)))
      clear hpk hdone hB
      generalize hpp : ps.getD k (0, 0) = pt at *
      have HPP := Lib.hid hpp
      clear hpp
      have HV1 := fun wz => vValueAny pt.1 wz huk.1
      have HV2 := fun wz => vValueAny pt.2 wz huk.2
      have HV := Lib.hid (And.intro HV1 HV2)
      clear HV1 HV2 huk hrow
      go_wp2_with (fail)
      have hsw := HD.out.2.2.2.size
      have hgl := heap_lt HD.out.1
      refine (HV.out.1 _).mono ?_
      rintro e w1 ⟨z, E, F, n1, n2, n3, n4, er1, rfl, hf1, hb1⟩
      have hs1 := hb1.size
      rw [World.size_alloc] at hs1 hb1
      have hbox := (hb1.block wr.heap.size (by omega)).trans (alloc_new wr _)
      have hr1 := (hb1.block w.heap.size (by omega)).trans (alloc_old HD.out.1)
      obtain ⟨p0, p1⟩ := row2 hbox
      have HB1 := Lib.hid (And.intro hbox (And.intro hr1 (And.intro hf1 hb1)))
      clear hbox hr1 hf1 hb1 hp1 hp2
      have hlt1 : wr.heap.size < w1.heap.size := by omega
      go_wp2_with (fail)
      refine (HV.out.2 _).mono ?_
      rintro e w2 ⟨z', E', F', n1', n2', n3', n4', er2, rfl, hf2, hb2⟩
      have hs2 := hb2.size
      rw [World.size_alloc] at hs2 hb2
      obtain ⟨hbox, hr1, hf1, hb1⟩ := HB1.out
      have hr2 := (hb2.block w.heap.size (by omega)).trans (alloc_old hr1)
      have hxr := (hb2.block w1.heap.size (by omega)).trans (alloc_new w1 _)
      obtain ⟨X0, X1, X2, _⟩ := row3 hxr
      have q1 := ((HD.out.2.2.2.alloc (by omega) (.cells #[.int .u64 pt.1, .int .u64 pt.2] 38)).trans (hb1.mono (by omega)))
      have q2 := ((q1.alloc (by omega) (.cells #[.bool z, .slice E n1 n2, .slice F n3 n4] 26)).trans (hb2.mono (by omega)))
      have q3 := q2.alloc (by omega) (.cells #[.bool z', .slice E' n1' n2', .slice F' n3' n4'] 26)
      have HB2 := Lib.hid (And.intro hr2 (And.intro q2 (And.intro q3 (And.intro hf1 hf2))))
      by_cases fin : er1 = 0 ∧ er2 = 0
      · obtain ⟨rfl, rfl⟩ := fin
        obtain ⟨v0, hv0⟩ : ∃ v, C[k * 6]? = some v := ⟨_, Array.getElem?_eq_getElem (by have := HD.out.2.1; omega)⟩
        obtain ⟨v1, hv1⟩ : ∃ v, C[k * 6 + 1]? = some v := ⟨_, Array.getElem?_eq_getElem (by have := HD.out.2.1; omega)⟩
        obtain ⟨v2, hv2⟩ : ∃ v, C[k * 6 + 2]? = some v := ⟨_, Array.getElem?_eq_getElem (by have := HD.out.2.1; omega)⟩
        obtain ⟨v3, hv3⟩ : ∃ v, C[k * 6 + 3]? = some v := ⟨_, Array.getElem?_eq_getElem (by have := HD.out.2.1; omega)⟩
        obtain ⟨v4, hv4⟩ : ∃ v, C[k * 6 + 4]? = some v := ⟨_, Array.getElem?_eq_getElem (by have := HD.out.2.1; omega)⟩
        obtain ⟨v5, hv5⟩ : ∃ v, C[k * 6 + 5]? = some v := ⟨_, Array.getElem?_eq_getElem (by have := HD.out.2.1; omega)⟩
        have y0' := (cell_of_cells hr2 (k * 6)).trans hv0
        have y1' := (cell_of_cells hr2 (k * 6 + 1)).trans hv1
        have y2' := (cell_of_cells hr2 (k * 6 + 2)).trans hv2
        have y3' := (cell_of_cells hr2 (k * 6 + 3)).trans hv3
        have y4' := (cell_of_cells hr2 (k * 6 + 4)).trans hv4
        have y5' := (cell_of_cells hr2 (k * 6 + 5)).trans hv5
        have u0 := free_of_cells hr2 (k * 6)
        have u1 := free_of_cells hr2 (k * 6 + 1)
        have u2 := free_of_cells hr2 (k * 6 + 2)
        have u3 := free_of_cells hr2 (k * 6 + 3)
        have u4 := free_of_cells hr2 (k * 6 + 4)
        have u5 := free_of_cells hr2 (k * 6 + 5)
        clear hbox hr1 hf1 hb1 hr2 hxr hf2 hb2 hv0 hv1 hv2 hv3 hv4 hv5 q1 q2 q3
        have hlt2 : w1.heap.size < w2.heap.size := by omega
        have hlt3 : w.heap.size < w2.heap.size := by omega
        go_wp2_with (fail)
        obtain ⟨hr2, q2, q3, hf1, hf2⟩ := HB2.out
        obtain ⟨hrow, hC, hdone, hB⟩ := HD.out
        have hP := HPP.out
        obtain ⟨C', c0, c1, d0, d1, d2, d3, d4, d5, d6⟩ := sixSet_row (o := k * 6) (.bool z) (.slice E n1 n2) (.slice F n3 n4) (.bool z') (.slice E' n1' n2') (.slice F' n3' n4') hr2 (by omega)
        have hbt := sixSet_but (w0 := w2) (g := w.heap.size) (o := k * 6) (.bool z) (.slice E n1 n2) (.slice F n3 n4) (.bool z') (.slice E' n1' n2') (.slice F' n3' n4') (But.refl _ _)
        unfold sixSet at c0 hbt
        generalize (((((w2.setCell _ _).setCell _ _).setCell _ _).setCell _ _).setCell _ _).setCell _ _ = w3 at *
        refine ⟨⟨k + 1, C', vint (by omega), by omega, alloc_old c0, by omega, ?_, ?_⟩, by simp [intOf]; omega⟩
        · intro i hi
          rcases Nat.lt_or_ge i k with g | g
          · exact hdone i g
          · obtain rfl : i = k := by omega
            rw [hP]; exact ⟨hf1.1 (by trivial), hf2.1 (by trivial)⟩
        · exact (q2.trans (hbt.below (by omega) (Nat.le_refl _))).alloc (by have := hbt.size; omega) _
      · clear hbox hr1 hf1 hb1 hr2 hxr hf2 hb2 q1 q2 q3 p0 p1 X0 X1 X2
        by_cases e1 : er1 = 0
        · have e2 : ¬ er2 = 0 := fun e => fin ⟨e1, e⟩
          subst e1
          go_wp2_with (fail)
          go_ret2
          exact ⟨rfl, HB2.out.2.2.1⟩
        · go_wp2_with (fail)
          go_ret2
          exact ⟨rfl, HB2.out.2.2.1⟩
    · obtain rfl : k = ps.length := by omega
      exfalso
      obtain ⟨p, hp, hnp⟩ := HN.out
      obtain ⟨j, hj, rfl⟩ := List.getElem_of_mem hp
      have := hdone j hj
      rw [List.getD_eq_getElem?_getD, List.getElem?_eq_getElem hj] at this
      exact hnp this
set_option maxRecDepth 100000 in
set_option maxHeartbeats 3200000 in
theorem pOrientNo (a b c : Pt) (w : World) (ua : PtU a) (ub : PtU b) (uc : PtU c) (hn : ¬ (FinP a ∧ FinP b ∧ FinP c)) :
    Calls Tryz.prog 40 #[.agg #[.int .u64 a.1, .int .u64 a.2], .agg #[.int .u64 b.1, .int .u64 b.2], .agg #[.int .u64 c.1, .int .u64 c.2]] w fun e w' => e = .returned (.tuple #[.int .i64 0, .int .i64 220]) ∧ Below w.heap.size w w' := by
  have hx : ∃ p ∈ [a, b, c], ¬ FinP p := Classical.byContradiction fun h => hn (by
    have k : ∀ p ∈ [a, b, c], FinP p := fun p hp => Classical.byContradiction fun e => h ⟨p, hp, e⟩
    exact ⟨k a (by simp), k b (by simp), k c (by simp)⟩)
  have hu : ∀ p ∈ [a, b, c], PtU p := by intro p h; simp at h; rcases h with rfl | rfl | rfl <;> assumption
  go_enter Tryz.func40, Tryz.ntmps40
  ((try dsimp only); repeat (first | go_values | go_skip | go_guarded | go_step | go_upon))
  obtain ⟨_, _, _, h4, h5, h6⟩ := four_new w (.cells #[.int .u64 a.1, .int .u64 a.2] 38) (.cells #[.int .u64 b.1, .int .u64 b.2] 38) (.cells #[.int .u64 c.1, .int .u64 c.2] 38) (.cells #[.int .u64 a.1, .int .u64 a.2, .int .u64 b.1, .int .u64 b.2, .int .u64 c.1, .int .u64 c.2] 38)
  generalize ((((w.alloc _).alloc _).alloc _).alloc _) = w4 at *
  refine (pPlacesNo (w.heap.size + 1 + 1 + 1) 0 [a, b, c] w4 (pts3 h4) (by omega) (by simp) hu hx).mono ?_
  rintro e w5 ⟨rfl, hb⟩
  have hB := Lib.hid (h6.trans (hb.mono (by omega)))
  clear h4 h5 h6 hb hx hu
  ((try dsimp only); repeat (first | go_values | go_skip | go_guarded | go_step | go_upon))
  go_ret2
  exact ⟨rfl, hB.out⟩
set_option maxRecDepth 100000 in
set_option maxHeartbeats 3200000 in
theorem pArea2No (a b c : Pt) (w : World) (ua : PtU a) (ub : PtU b) (uc : PtU c) (hn : ¬ (FinP a ∧ FinP b ∧ FinP c)) :
    Calls Tryz.prog 39 #[.agg #[.int .u64 a.1, .int .u64 a.2], .agg #[.int .u64 b.1, .int .u64 b.2], .agg #[.int .u64 c.1, .int .u64 c.2]] w fun e w' => e = .returned (.tuple #[.agg #[.bool false, .slice none 0 0, .slice none 0 0], .int .i64 220]) ∧ Below w.heap.size w w' := by
  have hx : ∃ p ∈ [a, b, c], ¬ FinP p := Classical.byContradiction fun h => hn (by
    have k : ∀ p ∈ [a, b, c], FinP p := fun p hp => Classical.byContradiction fun e => h ⟨p, hp, e⟩
    exact ⟨k a (by simp), k b (by simp), k c (by simp)⟩)
  have hu : ∀ p ∈ [a, b, c], PtU p := by intro p h; simp at h; rcases h with rfl | rfl | rfl <;> assumption
  have hmm := (((((Bx.start w).alloc (.cells #[.int .u64 a.1, .int .u64 a.2] 38 (0, 0))).alloc (.cells #[.int .u64 b.1, .int .u64 b.2] 38 (0, 0))).alloc (.cells #[.int .u64 c.1, .int .u64 c.2] 38 (0, 0))).alloc (.cells #[.bool false, .slice none 0 0, .slice none 0 0] 26 (0, 0))).alloc (.cells #[.int .u64 a.1, .int .u64 a.2, .int .u64 b.1, .int .u64 b.2, .int .u64 c.1, .int .u64 c.2] 38 (0, 0))
  simp only [List.nil_append, List.cons_append, World.size_alloc] at hmm
  go_enter Tryz.func39, Tryz.ntmps39
  ((try dsimp only); repeat (first | go_values | go_skip | go_guarded | go_step | go_upon))
  generalize (((((w.alloc _).alloc _).alloc _).alloc _).alloc _) = w4 at *
  have HM := Lib.hid hmm
  clear hmm
  refine (pPlacesNo _ 0 [a, b, c] w4 (pts3 (HM.out.at 4 rfl)) (HM.out.lt 4 rfl) (by simp) hu hx).mono ?_
  rintro e w5 ⟨rfl, hb⟩
  have HM2 := Lib.hid (HM.out.keep hb)
  clear HM hb hx hu
  obtain ⟨e0, e1, e2, f0, f1, f2⟩ := rw3 (HM2.out.at 3 rfl)
  ((try dsimp only); repeat (first | go_values | go_skip | go_guarded | go_step | go_upon))
  have hN := HM2.out.puts 3 rfl (by decide) [(0, .bool false), (1, .slice none 0 0), (2, .slice none 0 0)]
  refine bodyPost_ret (results_row_tmp rfl _ _ (w.heap.size + 1 + 1 + 1) _ _ _ _ rfl (hN.at 3 rfl) rfl rfl rfl) rfl ?_
  exact ⟨rfl, hN.m.b⟩
end Go.Proofs.YtfpofmifmapmfaaGreatDoor

namespace Go.Proofs.YtfpofmifmapmfaaGreatDoor
open Go.RowKit Go.Proofs.YtfpofmifmapmfaaGreatDoorW.PrintLast
set_option linter.unusedVariables false
set_option linter.unusedSimpArgs false
set_option maxRecDepth 100000 in
set_option maxHeartbeats 3200000 in
theorem pArea2 (a b c : Pt) (w : World) (fa : FinP a) (fb : FinP b) (fc : FinP c) :
    Calls Tryz.prog 39 #[.agg #[.int .u64 a.1, .int .u64 a.2], .agg #[.int .u64 b.1, .int .u64 b.2], .agg #[.int .u64 c.1, .int .u64 c.2]] w fun e w' => ∃ E F, e = .returned (.tuple #[qv E F (area2 (pl a) (pl b) (pl c)), .int .i64 0]) ∧ RatIn w.heap.size w'.heap.size w' E F (area2 (pl a) (pl b) (pl c)) ∧ Below w.heap.size w w' := by
  have hmm := (((((Bx.start w).alloc (.cells #[.int .u64 a.1, .int .u64 a.2] 38 (0, 0))).alloc (.cells #[.int .u64 b.1, .int .u64 b.2] 38 (0, 0))).alloc (.cells #[.int .u64 c.1, .int .u64 c.2] 38 (0, 0))).alloc (.cells #[.bool false, .slice none 0 0, .slice none 0 0] 26 (0, 0))).alloc (.cells #[.int .u64 a.1, .int .u64 a.2, .int .u64 b.1, .int .u64 b.2, .int .u64 c.1, .int .u64 c.2] 38 (0, 0))
  simp only [List.nil_append, List.cons_append, World.size_alloc] at hmm
  go_enter Tryz.func39, Tryz.ntmps39
  ((try dsimp only); repeat (first | go_values | go_skip | go_guarded | go_step | go_upon))
  generalize (((((w.alloc _).alloc _).alloc _).alloc _).alloc _) = w4 at *
  have HM := Lib.hid hmm
  clear hmm
  refine (places3 a b c _ w4 (pts3 (HM.out.at 4 rfl)) (HM.out.lt 4 rfl) fa fb fc).mono ?_
  rintro e w5 ⟨g, A, B, C, D, A2, B2, C2, D2, A3, B3, C3, D3, hg, rfl, h3, hb⟩
  have hN := HM.out.keep hb
  have HM2 := Lib.hid hN
  have hgd : g < w5.drew.heap.size := hg
  have h3d := h3.keep (Below.refl _ _).drew hg
  have HA : Hid (∀ wz, Three wz g 0 A B C D A2 B2 C2 D2 A3 B3 C3 D3 (pl a) (pl b) (pl c) → Calls Tryz.prog 99 #[pv A B C D (pl a), pv A2 B2 C2 D2 (pl b), pv A3 B3 C3 D3 (pl c)] wz fun e w' => ∃ E F, e = .returned (qv E F (area2 (pl a) (pl b) (pl c))) ∧ RatIn wz.heap.size w'.heap.size w' E F (area2 (pl a) (pl b) (pl c)) ∧ Below wz.heap.size wz w') :=
    Lib.hid fun wz hz => pArea A B C D A2 B2 C2 D2 A3 B3 C3 D3 0 wz.heap.size 1075 _ _ _ wz hz.p1 hz.p2 hz.p3 (Nat.le_refl _) (pl_sz fa) (pl_sz fb) (pl_sz fc) (by omega)
  have H3 := Lib.hid h3d
  clear HM hN hb h3 h3d
  obtain ⟨r, hr⟩ : ∃ r, area2 (pl a) (pl b) (pl c) = r := ⟨_, rfl⟩
  rw [hr] at HA
  have HR := Lib.hid hr
  clear hr
  ((try dsimp only); repeat (first | go_values | go_skip | go_guarded | go_step | go_upon))
  refine start_ (n := 12) (S := fun w' => Three w' g 0 A B C D A2 B2 C2 D2 A3 B3 C3 D3 (pl a) (pl b) (pl c) ∧ g < w'.heap.size ∧ Below w5.heap.size w5 w') (ds := [10]) (bt 12 0) (by kernel_rfl) rfl rfl (⟨H3.out, hgd, (Below.refl _ _).drew⟩) (fun hHeld => ?_)
  refine pv_ 0 21 ?_
  refine pv_ 1 22 ?_
  refine ld_ 2 23 ?_ hHeld ?_ ?_; rotate_left
  · rintro w' ⟨⟨⟨q0, q1, q2, q3, q4, q5⟩, ⟨r0, r1, r2, r3, r4, r5⟩, ⟨s0, s1, s2, s3, s4, s5⟩, _, _, _⟩, _, _⟩
    go_simp; with_reducible rfl
  refine pv_ 3 24 ?_
  refine pv_ 4 25 ?_
  refine ld_ 5 26 ?_ hHeld ?_ ?_; rotate_left
  · rintro w' ⟨⟨⟨q0, q1, q2, q3, q4, q5⟩, ⟨r0, r1, r2, r3, r4, r5⟩, ⟨s0, s1, s2, s3, s4, s5⟩, _, _, _⟩, _, _⟩
    go_simp; with_reducible rfl
  refine pv_ 6 27 ?_
  refine pv_ 7 28 ?_
  refine ld_ 8 29 ?_ hHeld ?_ ?_; rotate_left
  · rintro w' ⟨⟨⟨q0, q1, q2, q3, q4, q5⟩, ⟨r0, r1, r2, r3, r4, r5⟩, ⟨s0, s1, s2, s3, s4, s5⟩, _, _, _⟩, _, _⟩
    go_simp; with_reducible rfl
  refine ca 9 30 Tryz.func99 rfl rfl (by kernel_rfl) (by decide) (by kernel_rfl) rfl #[pv A B C D (pl a), pv A2 B2 C2 D2 (pl b), pv A3 B3 C3 D3 (pl c)] (by rfl) rfl (by first | rfl | (simp [Act.eval]; done) | (simp [Act.eval, pv]; done) | (go_simp; rfl)) ?_
  with_reducible refine (HA.out _ hHeld.1).mono ?_
  rintro e w' ⟨E, F, rfl, hf1, hb1⟩
  refine ⟨_, rfl, (by exact ⟨hHeld.1.keep hb1 hHeld.2.1, Nat.lt_of_lt_of_le hHeld.2.1 hb1.size, hHeld.2.2.trans (hb1.mono hHeld.2.2.size)⟩), fun hHeld => ?_⟩
  refine nn ?_
  refine last_ (i := 10) (N := none) (bt 12 2047) rfl rfl (by kernel_rfl) (by decide) (fun K hK => ?_)
  have hP := HM2.out.keep hHeld.2.2
  obtain ⟨e0, e1, e2, f0, f1, f2⟩ := rw3 (hP.at 3 rfl)
  unfold qv
  refine skip_ (w1 := puts (w.heap.size + 1 + 1 + 1) [(0, .bool (decide (r.num < 0))), (1, .slice E (qn r).length (qn r).length), (2, .slice F (qd r).length (qd r).length)] w') (by rfl) rfl ?_ ?_
  · go_simp
    rfl
  refine hK.out _ _ ?_
  clear hK K
  (try unfold qv)
  refine pv_ 11 7 ?_
  refine done_ (by kernel_rfl) ?_
  have hN := hP.puts 3 rfl (by decide) [(0, .bool (decide (r.num < 0))), (1, .slice E (qn r).length (qn r).length), (2, .slice F (qd r).length (qd r).length)]
  have hsz : w.heap.size + 1 + 1 + 1 < w5.drew.heap.size := HM2.out.lt 3 rfl
  have hF := (hf1.keep (w' := puts (w.heap.size + 1 + 1 + 1) [(0, .bool (decide (r.num < 0))), (1, .slice E (qn r).length (qn r).length), (2, .slice F (qd r).length (qd r).length)] w') (fun i h1 h2 => puts_other (by omega) _ _)).wide (lo' := w.heap.size) (up' := (puts (w.heap.size + 1 + 1 + 1) [(0, .bool (decide (r.num < 0))), (1, .slice E (qn r).length (qn r).length), (2, .slice F (qd r).length (qd r).length)] w').heap.size) (by omega) (Nat.le_of_eq (puts_size _ _ _).symm)
  have HE := Lib.hid (And.intro hN hF)
  clear hN hF hf1 hb1 hHeld hP
  ((try dsimp only); repeat (first | go_values | go_skip | go_guarded | go_step | go_upon))
  refine bodyPost_ret (results_row_tmp rfl _ _ (w.heap.size + 1 + 1 + 1) _ _ _ _ rfl (HE.out.1.at 3 rfl) rfl rfl rfl) rfl ?_
  exact ⟨E, F, by rw [HR.out]; rfl, by rw [HR.out]; exact HE.out.2, HE.out.1.m.b⟩
end Go.Proofs.YtfpofmifmapmfaaGreatDoor
