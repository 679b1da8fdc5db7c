/- Package plumbref24: Box (printed by gen_ring49.py). -/
import Derived.Test.YtfpofmifmapmfaaGreatDoorRD
import Derived.Test.YtfpofmifmapmfaaGreatDoorRB
import Derived.Maps.AppendAt
namespace Go.Proofs.YtfpofmifmapmfaaGreatDoor
open Go.RowKit
set_option linter.unusedVariables false
set_option linter.unusedSimpArgs false
theorem quo_whole (s : Bool) (m : Int) (k : Nat) : quo s (m * 2 ^ k) (2 ^ k) = if s then -(m : Rat) else (m : Rat) := by
  unfold quo
  have hp : (0 : Int) < 2 ^ k := ipow_pos k
  obtain ⟨D, hD⟩ := pow_nat k
  rw [show ((2 : Int) ^ k).toNat = D by omega]
  have e : (if s then -(m * 2 ^ k) else m * 2 ^ k) = (if s then -m else m) * (D : Int) := by rw [hD]; cases s <;> simp [Int.neg_mul]
  rw [e]
  have h0 : ((D : Int) : Rat) ≠ 0 := by
    intro h
    have : (D : Int) = 0 := by exact_mod_cast h
    omega
  rw [Rat.mkRat_eq_div, Rat.intCast_mul]
  have h1 : ((D : Nat) : Rat) = ((D : Int) : Rat) := by first | rfl | exact_mod_cast rfl | simp
  rw [h1]
  cases s <;> simp only [if_true, if_false, Bool.false_eq_true, Rat.intCast_neg] <;> grind
theorem jn_parts {s : Bool} {M e : Int} (h0 : 4503599627370496 ≤ M) (h1 : M < 9007199254740992) (he : -1074 ≤ e) (he1 : e ≤ 971) :
    Fin64 (jn s M e) ∧ fneg (jn s M e) = s ∧ fm (jn s M e) = M ∧ fx (jn s M e) = e := by
  have a : fe (jn s M e) = e + 1075 := by unfold fe jn; cases s <;> simp only [if_true, if_false, Bool.false_eq_true] <;> omega
  have b : ff (jn s M e) = M - 4503599627370496 := by unfold ff jn; cases s <;> simp only [if_true, if_false, Bool.false_eq_true] <;> omega
  refine ⟨⟨?_, ?_, ?_⟩, ?_, ?_, ?_⟩
  · unfold jn; cases s <;> simp only [if_true, if_false, Bool.false_eq_true] <;> omega
  · unfold jn; cases s <;> simp only [if_true, if_false, Bool.false_eq_true] <;> omega
  · omega
  · unfold fneg jn; cases s <;> simp only [if_true, if_false, Bool.false_eq_true, decide_eq_true_eq, decide_eq_false_iff_not] <;> omega
  · unfold fm; rw [a, b, if_neg (by omega)]; omega
  · unfold fx; rw [a, if_neg (by omega)]; omega
theorem njn_val (s : Bool) {m : Int} (h0 : 0 < m) (h1 : m < 9007199254740992) : fval (njn s m 0) = (if s then -(m : Rat) else (m : Rat)) ∧ Fin64 (njn s m 0) := by
  have z0 := ctz_range m
  have z1 := ctz_lt h0 (show m ≤ 18446744073709551615 by omega)
  have z2 := ctz_dvd h0 (show m ≤ 18446744073709551615 by omega)
  unfold njn
  obtain ⟨z, hzz⟩ : ∃ z : Nat, ctz m = z := ⟨(ctz m).toNat, by omega⟩
  rw [hzz] at z1 z2 z0 ⊢
  rw [Int.toNat_natCast] at z2 ⊢
  obtain ⟨q, hq⟩ : ∃ q, m / 2 ^ z = q := ⟨_, rfl⟩
  rw [hq]
  have hqm : q * 2 ^ z = m := by rw [← hq]; exact Int.ediv_mul_cancel (Int.dvd_of_emod_eq_zero z2)
  have hq0 : 0 < q := by
    have hp := ipow_pos z
    rcases Int.lt_trichotomy q 0 with h | h | h
    · have := Int.mul_neg_of_neg_of_pos h hp; omega
    · rw [h, Int.zero_mul] at hqm; omega
    · exact h
  have hbl := blen_mul_pow z hq0
  rw [hqm] at hbl
  have hbm : blen m ≤ 53 := blen_le_of_lt (n := 53) (by show m < 9007199254740992; omega)
  have hb1 := blen_pos hq0
  obtain ⟨u, hu⟩ : ∃ u : Nat, (53 - blen q : Int) = u := ⟨(53 - blen q).toNat, by omega⟩
  have hbM := blen_mul_pow u hq0
  have hM0 : 0 < q * 2 ^ u := Int.mul_pos hq0 (ipow_pos u)
  have hM1 : 4503599627370496 ≤ q * 2 ^ u := by
    have := blen_le hM0
    rw [hbM, show (blen q + u - 1).toNat = 52 by omega] at this
    exact this
  have hM2 : q * 2 ^ u < 9007199254740992 := by
    have := blen_lt (q * 2 ^ u)
    rw [hbM, show (blen q + u).toNat = 53 by omega] at this
    exact this
  rw [hu, Int.toNat_natCast]
  obtain ⟨p1, p2, p3, p4⟩ := jn_parts (s := s) hM1 hM2 (e := 0 + (z : Int) - u) (by omega) (by omega)
  refine ⟨?_, p1⟩
  unfold fval fnum fden
  rw [p2, p3, p4]
  rcases Nat.le_total u z with h | h
  · rw [show (-(0 + (z : Int) - u)).toNat = 0 by omega, show (0 + (z : Int) - u).toNat = z - u by omega]
    have : q * 2 ^ u * 2 ^ (z - u) = m * 2 ^ 0 := by
      rw [Int.mul_assoc, ← Int.pow_add, show u + (z - u) = z by omega, hqm, Int.pow_zero, Int.mul_one]
    rw [this]
    exact quo_whole s m 0
  · rw [show (-(0 + (z : Int) - u)).toNat = u - z by omega, show (0 + (z : Int) - u).toNat = 0 by omega]
    have : q * 2 ^ u * 2 ^ 0 = m * 2 ^ (u - z) := by
      rw [Int.pow_zero, Int.mul_one, ← hqm, Int.mul_assoc, ← Int.pow_add, show z + (u - z) = u by omega]
    rw [this]
    exact quo_whole s m (u - z)
theorem numP_val {v : Int} (h : -9007199254740991 ≤ v ∧ v ≤ 9007199254740991) : fval (numP v) = (v : Rat) ∧ Fin64 (numP v) := by
  unfold numP
  split
  · rename_i e
    subst e
    exact ⟨fval_zero, ⟨by decide, by decide, by decide⟩⟩
  · rename_i e
    obtain ⟨a, b⟩ := njn_val (decide (v < 0)) (m := ((v.natAbs : Nat) : Int)) (by omega) (by omega)
    refine ⟨?_, b⟩
    rw [a]
    by_cases hv : v < 0
    · rw [decide_eq_true hv, if_pos rfl, show ((v.natAbs : Nat) : Int) = -v by omega, Rat.intCast_neg, Rat.neg_neg]
    · rw [decide_eq_false hv, if_neg (by decide), show ((v.natAbs : Nat) : Int) = v by omega]
end Go.Proofs.YtfpofmifmapmfaaGreatDoor

namespace Go.Proofs.YtfpofmifmapmfaaGreatDoor
open Go.RowKit Go.Proofs.YtfpofmifmapmfaaGreatDoorW.PrintLast
set_option linter.unusedVariables false
set_option linter.unusedSimpArgs false
theorem tricho (a b : Rat) : a < b ∨ a = b ∨ b < a := by grind
theorem mul_pp {x y : Rat} (hx : 0 < x) (hy : 0 < y) : 0 < x * y := Rat.mul_pos hx hy
theorem mul_nn {x y : Rat} (hx : 0 ≤ x) (hy : 0 ≤ y) : 0 ≤ x * y := Rat.mul_nonneg hx hy
theorem tri_one {X Y Z x y z : Rat} (e : Z * z = Y * x + X * y) (hz : 0 < z) (hx : 0 ≤ x) (hy : 0 ≤ y) (hS : 0 < X + Y + Z) (hn : X < 0 ∨ Y < 0 ∨ Z < 0) : 0 < X ↔ Y < 0 := by
  constructor
  · intro h
    refine Rat.not_le.1 fun hY => ?_
    have k1 := mul_nn hY hx
    have k2 := mul_nn (Rat.le_of_lt h) hy
    have hZ : Z < 0 := by grind
    have k3 := mul_pp (x := -Z) (y := z) (by grind) hz
    grind
  · intro h
    refine Rat.not_le.1 fun hX => ?_
    have k1 := mul_nn (x := -Y) (y := x) (by grind) hx
    have k2 := mul_nn (x := -X) (y := y) (by grind) hy
    have k3 := mul_pp (x := Z) (y := z) (by grind) hz
    grind
theorem tri_two {X Y Z x y z : Rat} (e : Z * z = Y * x + X * y) (hz : 0 ≤ z) (hx : 0 < x) (hy : 0 < y) (hS : 0 < X + Y + Z) (hn : X < 0 ∨ Y < 0 ∨ Z < 0) : 0 < X ↔ Y < 0 := by
  constructor
  · intro h
    refine Rat.not_le.1 fun hY => ?_
    have k1 := mul_nn hY (Rat.le_of_lt hx)
    have k2 := mul_pp h hy
    have hZ : Z < 0 := by grind
    have k3 := mul_nn (x := -Z) (y := z) (by grind) hz
    grind
  · intro h
    refine Rat.not_le.1 fun hX => ?_
    have k1 := mul_pp (x := -Y) (y := x) (by grind) hx
    have k2 := mul_nn (x := -X) (y := y) (by grind) (Rat.le_of_lt hy)
    have k3 := mul_nn (x := Z) (y := z) (by grind) hz
    grind
theorem tri_on {V W ax ay bx by_ cx cy : Rat} (e1 : V * ax + W * bx = 0) (e2 : V * ay + W * by_ = 0) (hW : W = cx * ay - cy * ax) (hV : V = bx * cy - by_ * cx) (hS : 0 < V + W)
    (ha : ax < 0 ∨ (ax = 0 ∧ ay ≤ 0)) (hb : 0 < bx ∨ (bx = 0 ∧ 0 ≤ by_)) : 0 ≤ V ∧ 0 ≤ W := by
  have key : ∀ {P Q : Rat}, P * ax + Q * bx = 0 → P * ay + Q * by_ = 0 → 0 < P + Q → Q < 0 → ax = 0 ∧ ay = 0 ∧ bx = 0 ∧ by_ = 0 := by
    intro P Q f1 f2 f3 f4
    have hP : 0 < P := by grind
    have hax : ax = 0 := by
      rcases ha with h | h
      · exfalso
        have k1 := mul_pp (x := P) (y := -ax) hP (by grind)
        have k2 := mul_nn (x := -Q) (y := bx) (by grind) (by grind)
        grind
      · exact h.1
    have hbx : bx = 0 := by
      rcases hb with h | h
      · exfalso
        have k2 := mul_pp (x := -Q) (y := bx) (by grind) h
        rw [hax, Rat.mul_zero, Rat.zero_add] at f1
        rw [Rat.neg_mul, f1] at k2
        grind
      · exact h.1
    have ay0 : ay ≤ 0 := by grind
    have by0 : 0 ≤ by_ := by grind
    have k1 := mul_nn (x := P) (y := -ay) (by grind) (by grind)
    have k2 := mul_nn (x := -Q) (y := by_) (by grind) by0
    have m1 : P * ay = 0 := by grind
    have m2 : Q * by_ = 0 := by grind
    have n1 := (Rat.mul_eq_zero.1 m1).resolve_left (by grind)
    have n2 := (Rat.mul_eq_zero.1 m2).resolve_left (by grind)
    exact ⟨hax, n1, hbx, n2⟩
  have key2 : ∀ {P Q : Rat}, P * ax + Q * bx = 0 → P * ay + Q * by_ = 0 → 0 < P + Q → P < 0 → ax = 0 ∧ ay = 0 ∧ bx = 0 ∧ by_ = 0 := by
    intro P Q f1 f2 f3 f4
    have hP : 0 < Q := by grind
    have hbx : bx = 0 := by
      rcases hb with h | h
      · exfalso
        have k1 := mul_pp (x := Q) (y := bx) hP h
        have k2 := mul_nn (x := -P) (y := -ax) (by grind) (by grind)
        grind
      · exact h.1
    have hax : ax = 0 := by
      rcases ha with h | h
      · exfalso
        have k2 := mul_pp (x := -P) (y := -ax) (by grind) (by grind)
        rw [hbx, Rat.mul_zero, Rat.add_zero] at f1
        have k3 : -P * -ax = P * ax := by grind
        rw [k3, f1] at k2
        grind
      · exact h.1
    have ay0 : ay ≤ 0 := by grind
    have by0 : 0 ≤ by_ := by grind
    have k1 := mul_nn (x := -P) (y := -ay) (by grind) (by grind)
    have k2 := mul_nn (x := Q) (y := by_) (by grind) by0
    have m1 : P * ay = 0 := by grind
    have m2 : Q * by_ = 0 := by grind
    have n1 := (Rat.mul_eq_zero.1 m1).resolve_left (by grind)
    have n2 := (Rat.mul_eq_zero.1 m2).resolve_left (by grind)
    exact ⟨hax, n1, hbx, n2⟩
  refine ⟨Rat.not_lt.1 fun h => ?_, Rat.not_lt.1 fun h => ?_⟩
  · obtain ⟨a1, a2, a3, a4⟩ := key2 e1 e2 hS h
    rw [a3, a4] at hV
    grind
  · obtain ⟨a1, a2, a3, a4⟩ := key e1 e2 hS h
    rw [a1, a2] at hW
    grind
theorem tri_btw {V W ax ay bx by_ : Rat} (e1 : V * ax + W * bx = 0) (e2 : V * ay + W * by_ = 0) (hS : 0 < V + W) (hV : 0 ≤ V) (hW : 0 ≤ W) :
    ((ax < 0 ∨ (ax = 0 ∧ ay ≤ 0)) ∧ (0 < bx ∨ (bx = 0 ∧ 0 ≤ by_))) ∨ ((0 < ax ∨ (ax = 0 ∧ 0 ≤ ay)) ∧ (bx < 0 ∨ (bx = 0 ∧ by_ ≤ 0))) := by
  by_cases h0 : V = 0
  · subst h0
    have hb : bx = 0 := (Rat.mul_eq_zero.1 (show W * bx = 0 by grind)).resolve_left (by grind)
    have hb2 : by_ = 0 := (Rat.mul_eq_zero.1 (show W * by_ = 0 by grind)).resolve_left (by grind)
    grind
  by_cases h1 : W = 0
  · subst h1
    have hb : ax = 0 := (Rat.mul_eq_zero.1 (show V * ax = 0 by grind)).resolve_left (by grind)
    have hb2 : ay = 0 := (Rat.mul_eq_zero.1 (show V * ay = 0 by grind)).resolve_left (by grind)
    grind
  have pV : 0 < V := by grind
  have pW : 0 < W := by grind
  have sg : ∀ {s t : Rat}, V * s + W * t = 0 → (s < 0 → 0 < t) ∧ (0 < s → t < 0) ∧ (s = 0 → t = 0) := by
    intro s t e
    refine ⟨fun h => Rat.not_le.1 fun k => ?_, fun h => Rat.not_le.1 fun k => ?_, fun h => ?_⟩
    · have k1 := mul_pp (x := V) (y := -s) pV (by grind)
      have k2 := mul_nn (x := W) (y := -t) hW (by grind)
      grind
    · have k1 := mul_pp (x := V) (y := s) pV h
      have k2 := mul_nn (x := W) (y := t) hW k
      grind
    · subst h
      exact (Rat.mul_eq_zero.1 (show W * t = 0 by grind)).resolve_left h1
  obtain ⟨x1, x2, x3⟩ := sg e1
  obtain ⟨y1, y2, y3⟩ := sg e2
  rcases tricho ax 0 with h | h | h
  · exact Or.inl ⟨Or.inl h, Or.inl (x1 h)⟩
  · rcases tricho ay 0 with g | g | g
    · exact Or.inl ⟨Or.inr ⟨h, Rat.le_of_lt g⟩, Or.inr ⟨x3 h, Rat.le_of_lt (y1 g)⟩⟩
    · exact Or.inl ⟨Or.inr ⟨h, by grind⟩, Or.inr ⟨x3 h, by have := y3 g; grind⟩⟩
    · exact Or.inr ⟨Or.inr ⟨h, Rat.le_of_lt g⟩, Or.inr ⟨x3 h, Rat.le_of_lt (y2 g)⟩⟩
  · exact Or.inr ⟨Or.inl h, Or.inl (x2 h)⟩
theorem area_form (a b p : Pl) : area2 a b p = (a.1 - p.1) * (b.2 - p.2) + (b.1 - p.1) * (p.2 - a.2) := by unfold area2; grind
theorem up_left {a b p : Pl} (h1 : p.1 < a.1) (h2 : p.1 < b.1) (h3 : a.2 ≤ p.2) (h4 : p.2 < b.2) : 0 < area2 a b p := by
  have k1 := mul_pp (x := a.1 - p.1) (y := b.2 - p.2) (by grind) (by grind)
  have k2 := mul_nn (x := b.1 - p.1) (y := p.2 - a.2) (by grind) (by grind)
  rw [area_form]; grind
theorem down_left {a b p : Pl} (h1 : p.1 < a.1) (h2 : p.1 < b.1) (h3 : b.2 ≤ p.2) (h4 : p.2 < a.2) : area2 a b p < 0 := by
  have k1 := mul_nn (x := a.1 - p.1) (y := p.2 - b.2) (by grind) (by grind)
  have k2 := mul_pp (x := b.1 - p.1) (y := a.2 - p.2) (by grind) (by grind)
  rw [area_form]; grind
theorem up_right {a b p : Pl} (h1 : a.1 < p.1) (h2 : b.1 < p.1) (h3 : a.2 ≤ p.2) (h4 : p.2 < b.2) : area2 a b p < 0 := by
  have k1 := mul_pp (x := p.1 - a.1) (y := b.2 - p.2) (by grind) (by grind)
  have k2 := mul_nn (x := p.1 - b.1) (y := p.2 - a.2) (by grind) (by grind)
  rw [area_form]; grind
theorem down_right {a b p : Pl} (h1 : a.1 < p.1) (h2 : b.1 < p.1) (h3 : b.2 ≤ p.2) (h4 : p.2 < a.2) : 0 < area2 a b p := by
  have k1 := mul_nn (x := p.1 - a.1) (y := p.2 - b.2) (by grind) (by grind)
  have k2 := mul_pp (x := p.1 - b.1) (y := a.2 - p.2) (by grind) (by grind)
  rw [area_form]; grind
theorem on_not_below {a b p : Pl} (h : area2 a b p = 0) (h1 : a.1 ≤ p.1) (h2 : p.1 ≤ b.1) (h3 : a.1 < b.1) (h4 : p.2 < a.2) (h5 : p.2 < b.2) : False := by
  have k1 := mul_nn (x := b.1 - p.1) (y := a.2 - p.2) (by grind) (by grind)
  have k2 := mul_nn (x := p.1 - a.1) (y := b.2 - p.2) (by grind) (by grind)
  rw [area_form] at h
  by_cases e2 : b.1 - p.1 = 0
  · have k3 := mul_pp (x := p.1 - a.1) (y := b.2 - p.2) (by grind) (by grind)
    grind
  · have k3 := mul_pp (x := b.1 - p.1) (y := a.2 - p.2) (by grind) (by grind)
    grind
theorem on_not_above {a b p : Pl} (h : area2 a b p = 0) (h1 : a.1 ≤ p.1) (h2 : p.1 ≤ b.1) (h3 : a.1 < b.1) (h4 : a.2 < p.2) (h5 : b.2 < p.2) : False := by
  refine on_not_below (a := (a.1, -a.2)) (b := (b.1, -b.2)) (p := (p.1, -p.2)) ?_ h1 h2 h3 (by dsimp only; grind) (by dsimp only; grind)
  unfold area2 at *; dsimp only; grind
theorem qc_le {x y : Rat} : qcmp x y ≤ 0 ↔ x ≤ y := by
  rcases qcmp_cases x y with ⟨h, k⟩ | ⟨h, k⟩ | ⟨h, k⟩ <;> rw [h]
  · exact ⟨fun _ => Rat.le_of_lt k, fun _ => by decide⟩
  · exact ⟨fun _ => by rw [k]; exact Rat.le_refl, fun _ => by decide⟩
  · exact ⟨fun e => absurd e (by decide), fun e => absurd e (Rat.not_le.2 k)⟩
theorem qc_gt {x y : Rat} : 0 < qcmp x y ↔ y < x := by
  have := qc_le (x := x) (y := y)
  rw [← Rat.not_le, ← this]; omega
theorem sd_pos {a b p : Pl} : 0 < side3 a b p ↔ 0 < area2 a b p := by
  unfold side3; rw [← qsgn_pos]; rcases qsgn_cases (area2 a b p) with h | h | h <;> rw [h] <;> decide
theorem sd_neg {a b p : Pl} : side3 a b p < 0 ↔ area2 a b p < 0 := by
  unfold side3; rw [← qsgn_neg]; rcases qsgn_cases (area2 a b p) with h | h | h <;> rw [h] <;> decide
def crossP (p a b : Pl) : Int := if a.2 ≤ p.2 ∧ p.2 < b.2 ∧ 0 < area2 a b p then 1 else if b.2 ≤ p.2 ∧ p.2 < a.2 ∧ area2 a b p < 0 then -1 else 0
theorem crossE_pl (p : Pt) (e : Ed) : crossE p e = crossP (pl p) (pl e.1) (pl e.2) := by
  unfold crossE crossP sideP
  simp only [qc_le, qc_gt, sd_pos, sd_neg]
  rfl
theorem area_sum3 (a b c p : Pl) : area2 a b p + area2 b c p + area2 c a p = area2 a b c := by unfold area2; grind
theorem area_bary (a b c p : Pl) : area2 b c p * (a.1 - p.1) + area2 c a p * (b.1 - p.1) + area2 a b p * (c.1 - p.1) = 0 ∧ area2 b c p * (a.2 - p.2) + area2 c a p * (b.2 - p.2) + area2 a b p * (c.2 - p.2) = 0 := by
  unfold area2; constructor <;> grind
theorem area_turn3 (a b c : Pl) : area2 b c a = area2 a b c := by unfold area2; grind
theorem ge_lex {a b : Pl} : 0 ≤ pcmp a b ↔ b.1 < a.1 ∨ (b.1 = a.1 ∧ b.2 ≤ a.2) := by rw [← pcmp_le, pcmp_swap b a]; omega
theorem btw_in {a b c p : Pl} (hS : 0 < area2 a b c) (h : btw a b p = true) : area2 a b p = 0 ∧ 0 ≤ area2 b c p ∧ 0 ≤ area2 c a p := by
  unfold btw side3 at h
  simp only [Bool.and_eq_true, Bool.or_eq_true, decide_eq_true_eq, qsgn_zero, ge_lex, pcmp_le] at h
  obtain ⟨h0, h1⟩ := h
  obtain ⟨e1, e2⟩ := area_bary a b c p
  have e3 := area_sum3 a b c p
  rw [h0] at e1 e2 e3
  rw [Rat.zero_mul, Rat.add_zero] at e1 e2
  rw [Rat.zero_add] at e3
  refine ⟨h0, ?_⟩
  rcases h1 with ⟨g1, g2⟩ | ⟨g1, g2⟩
  · exact tri_on (ax := a.1 - p.1) (ay := a.2 - p.2) (bx := b.1 - p.1) (by_ := b.2 - p.2) (cx := c.1 - p.1) (cy := c.2 - p.2) e1 e2 (by unfold area2; grind) (by unfold area2; grind) (by rw [e3]; exact hS) (by grind) (by grind)
  · have := tri_on (V := area2 b c p) (W := area2 c a p) (ax := -(a.1 - p.1)) (ay := -(a.2 - p.2)) (bx := -(b.1 - p.1)) (by_ := -(b.2 - p.2)) (cx := -(c.1 - p.1)) (cy := -(c.2 - p.2)) (by grind) (by grind) (by unfold area2; grind) (by unfold area2; grind) (by rw [e3]; exact hS) (by grind) (by grind)
    exact this
theorem in_btw {a b c p : Pl} (hS : 0 < area2 a b c) (h0 : area2 a b p = 0) (h1 : 0 ≤ area2 b c p) (h2 : 0 ≤ area2 c a p) : btw a b p = true := by
  obtain ⟨e1, e2⟩ := area_bary a b c p
  have e3 := area_sum3 a b c p
  rw [h0] at e1 e2 e3
  rw [Rat.zero_mul, Rat.add_zero] at e1 e2
  rw [Rat.zero_add] at e3
  have k := tri_btw e1 e2 (by rw [e3]; exact hS) h1 h2
  unfold btw side3
  simp only [Bool.and_eq_true, Bool.or_eq_true, decide_eq_true_eq, qsgn_zero, ge_lex, pcmp_le]
  refine ⟨h0, ?_⟩
  rcases k with ⟨g1, g2⟩ | ⟨g1, g2⟩
  · exact Or.inl ⟨by grind, by grind⟩
  · exact Or.inr ⟨by grind, by grind⟩
def nTri (a b c p : Pl) : Int := crossP p a b + crossP p b c + crossP p c a
theorem tri_out {a b c p : Pl} (hS : 0 < area2 a b c) (hn : area2 a b p < 0 ∨ area2 b c p < 0 ∨ area2 c a p < 0) : nTri a b c p = 0 := by
  obtain ⟨_, e2⟩ := area_bary a b c p
  have e3 := area_sum3 a b c p
  rw [← e3] at hS
  unfold nTri crossP
  generalize area2 a b p = U at *
  generalize area2 b c p = V at *
  generalize area2 c a p = W at *
  by_cases ha : a.2 ≤ p.2 <;> by_cases hb : b.2 ≤ p.2 <;> by_cases hc : c.2 ≤ p.2
  all_goals (try rw [Rat.not_le] at ha); (try rw [Rat.not_le] at hb); (try rw [Rat.not_le] at hc)
  · have na := Rat.not_lt.2 ha; have nb := Rat.not_lt.2 hb; have nc := Rat.not_lt.2 hc
    simp only [na, nb, nc, false_and, and_false, if_false]; rfl
  · -- c above: up bc, down ca
    have k := tri_one (X := V) (Y := W) (Z := U) (x := p.2 - b.2) (y := p.2 - a.2) (z := c.2 - p.2) (by grind) (by grind) (by grind) (by grind) (by grind) (by grind)
    have na := Rat.not_lt.2 ha; have nb := Rat.not_lt.2 hb; have nc := Rat.not_le.2 hc
    simp only [na, nb, nc, ha, hb, hc, false_and, and_false, if_false, true_and, k]; grind
  · have k := tri_one (X := U) (Y := V) (Z := W) (x := p.2 - a.2) (y := p.2 - c.2) (z := b.2 - p.2) (by grind) (by grind) (by grind) (by grind) (by grind) (by grind)
    have na := Rat.not_lt.2 ha; have nb := Rat.not_le.2 hb; have nc := Rat.not_lt.2 hc
    simp only [na, nb, nc, ha, hb, hc, false_and, and_false, if_false, true_and, k]; grind
  · have k := tri_two (X := U) (Y := W) (Z := V) (x := b.2 - p.2) (y := c.2 - p.2) (z := p.2 - a.2) (by grind) (by grind) (by grind) (by grind) (by grind) (by grind)
    have na := Rat.not_lt.2 ha; have nb := Rat.not_le.2 hb; have nc := Rat.not_le.2 hc
    simp only [na, nb, nc, ha, hb, hc, false_and, and_false, if_false, true_and, k]; grind
  · have k := tri_one (X := W) (Y := U) (Z := V) (x := p.2 - c.2) (y := p.2 - b.2) (z := a.2 - p.2) (by grind) (by grind) (by grind) (by grind) (by grind) (by grind)
    have na := Rat.not_le.2 ha; have nb := Rat.not_lt.2 hb; have nc := Rat.not_lt.2 hc
    simp only [na, nb, nc, ha, hb, hc, false_and, and_false, if_false, true_and, k]; grind
  · have k := tri_two (X := V) (Y := U) (Z := W) (x := c.2 - p.2) (y := a.2 - p.2) (z := p.2 - b.2) (by grind) (by grind) (by grind) (by grind) (by grind) (by grind)
    have na := Rat.not_le.2 ha; have nb := Rat.not_lt.2 hb; have nc := Rat.not_le.2 hc
    simp only [na, nb, nc, ha, hb, hc, false_and, and_false, if_false, true_and, k]; grind
  · have k := tri_two (X := W) (Y := V) (Z := U) (x := a.2 - p.2) (y := b.2 - p.2) (z := p.2 - c.2) (by grind) (by grind) (by grind) (by grind) (by grind) (by grind)
    have na := Rat.not_le.2 ha; have nb := Rat.not_le.2 hb; have nc := Rat.not_lt.2 hc
    simp only [na, nb, nc, ha, hb, hc, false_and, and_false, if_false, true_and, k]; grind
  · have na := Rat.not_le.2 ha; have nb := Rat.not_le.2 hb; have nc := Rat.not_le.2 hc
    simp only [na, nb, nc, false_and, and_false, if_false]; rfl
theorem pos_mix {U V W x y z : Rat} (hU : 0 < U) (hV : 0 < V) (hW : 0 < W) (e : V * x + W * y + U * z = 0) (hx : x ≤ 0) (hy : y ≤ 0) (hz : z ≤ 0) : x = 0 ∧ y = 0 ∧ z = 0 := by
  have k1 := mul_nn (x := V) (y := -x) (Rat.le_of_lt hV) (by grind)
  have k2 := mul_nn (x := W) (y := -y) (Rat.le_of_lt hW) (by grind)
  have k3 := mul_nn (x := U) (y := -z) (Rat.le_of_lt hU) (by grind)
  have m1 : V * x = 0 := by grind
  have m2 : W * y = 0 := by grind
  have m3 : U * z = 0 := by grind
  exact ⟨(Rat.mul_eq_zero.1 m1).resolve_left (by grind), (Rat.mul_eq_zero.1 m2).resolve_left (by grind), (Rat.mul_eq_zero.1 m3).resolve_left (by grind)⟩
theorem tri_in {a b c p : Pl} (hU : 0 < area2 a b p) (hV : 0 < area2 b c p) (hW : 0 < area2 c a p) : nTri a b c p = 1 := by
  obtain ⟨_, e2⟩ := area_bary a b c p
  have hz : ¬ (a.2 = p.2 ∧ b.2 = p.2 ∧ c.2 = p.2) := fun ⟨h1, h2, h3⟩ => by
    unfold area2 at hU; rw [h1, h2] at hU; grind
  have low : ¬ (a.2 ≤ p.2 ∧ b.2 ≤ p.2 ∧ c.2 ≤ p.2) := fun ⟨h1, h2, h3⟩ => hz (by
    have := pos_mix hU hV hW e2 (by grind) (by grind) (by grind)
    grind)
  have high : ¬ (p.2 < a.2 ∧ p.2 < b.2 ∧ p.2 < c.2) := fun ⟨h1, h2, h3⟩ => by
    have := pos_mix (x := -(a.2 - p.2)) (y := -(b.2 - p.2)) (z := -(c.2 - p.2)) hU hV hW (by grind) (by grind) (by grind) (by grind)
    grind
  unfold nTri crossP
  have nU := Rat.not_lt.2 (Rat.le_of_lt hU)
  have nV := Rat.not_lt.2 (Rat.le_of_lt hV)
  have nW := Rat.not_lt.2 (Rat.le_of_lt hW)
  simp only [hU, hV, hW, nU, nV, nW, and_false, and_true, if_false]
  by_cases ha : a.2 ≤ p.2 <;> by_cases hb : b.2 ≤ p.2 <;> by_cases hc : c.2 ≤ p.2
  all_goals (try rw [Rat.not_le] at ha); (try rw [Rat.not_le] at hb); (try rw [Rat.not_le] at hc)
  · exact absurd ⟨ha, hb, hc⟩ low
  · have na := Rat.not_lt.2 ha; have nb := Rat.not_lt.2 hb; have nc := Rat.not_le.2 hc
    simp only [na, nb, nc, ha, hb, hc, false_and, and_false, if_false, true_and, if_true]; rfl
  · have na := Rat.not_lt.2 ha; have nb := Rat.not_le.2 hb; have nc := Rat.not_lt.2 hc
    simp only [na, nb, nc, ha, hb, hc, false_and, and_false, if_false, true_and, if_true]; rfl
  · have na := Rat.not_lt.2 ha; have nb := Rat.not_le.2 hb; have nc := Rat.not_le.2 hc
    simp only [na, nb, nc, ha, hb, hc, false_and, and_false, if_false, true_and, if_true]; rfl
  · have na := Rat.not_le.2 ha; have nb := Rat.not_lt.2 hb; have nc := Rat.not_lt.2 hc
    simp only [na, nb, nc, ha, hb, hc, false_and, and_false, if_false, true_and, if_true]; rfl
  · have na := Rat.not_le.2 ha; have nb := Rat.not_lt.2 hb; have nc := Rat.not_le.2 hc
    simp only [na, nb, nc, ha, hb, hc, false_and, and_false, if_false, true_and, if_true]; rfl
  · have na := Rat.not_le.2 ha; have nb := Rat.not_le.2 hb; have nc := Rat.not_lt.2 hc
    simp only [na, nb, nc, ha, hb, hc, false_and, and_false, if_false, true_and, if_true]; rfl
  · exact absurd ⟨ha, hb, hc⟩ high
theorem area_ba (a b p : Pl) : area2 b a p = -area2 a b p := by unfold area2; grind
theorem crossP_rev (p a b : Pl) : crossP p b a = -crossP p a b := by
  unfold crossP
  rw [area_ba a b p]
  generalize area2 a b p = U
  have h1 : 0 < -U ↔ U < 0 := by grind
  have h2 : -U < 0 ↔ 0 < U := by grind
  simp only [h1, h2]
  by_cases k1 : a.2 ≤ p.2 <;> by_cases k2 : b.2 ≤ p.2
  · have n1 := Rat.not_lt.2 k1
    have n2 := Rat.not_lt.2 k2
    simp only [n1, n2, false_and, and_false, if_false]; rfl
  · have n1 := Rat.not_lt.2 k1
    have n2 := Rat.not_le.1 k2
    simp only [k1, k2, n1, n2, false_and, and_false, true_and, if_false]; by_cases q : 0 < U <;> simp [q]
  · have n1 := Rat.not_le.1 k1
    have n2 := Rat.not_lt.2 k2
    simp only [k1, k2, n1, n2, false_and, and_false, true_and, if_false]; by_cases q : U < 0 <;> simp [q]
  · simp only [k1, k2, false_and, if_false]; rfl
theorem btw_rev (a b p : Pl) : btw b a p = btw a b p := by
  rw [Bool.eq_iff_iff]
  unfold btw side3
  simp only [Bool.and_eq_true, Bool.or_eq_true, decide_eq_true_eq, qsgn_zero, ge_lex, pcmp_le]
  rw [area_ba a b p]
  constructor <;> rintro ⟨h0, h1⟩ <;> exact ⟨by grind, by grind⟩
def onT (a b c p : Pl) : Bool := btw a b p || btw b c p || btw c a p
theorem tri_pos {a b c p : Pl} (hS : 0 < area2 a b c) :
    ((0 < area2 a b p ∧ 0 < area2 b c p ∧ 0 < area2 c a p) → onT a b c p = false ∧ nTri a b c p = 1) ∧
    ((area2 a b p < 0 ∨ area2 b c p < 0 ∨ area2 c a p < 0) → onT a b c p = false ∧ nTri a b c p = 0) ∧
    (¬ (0 < area2 a b p ∧ 0 < area2 b c p ∧ 0 < area2 c a p) → ¬ (area2 a b p < 0 ∨ area2 b c p < 0 ∨ area2 c a p < 0) → onT a b c p = true) := by
  have h2 : 0 < area2 b c a := by rw [area_turn3]; exact hS
  have h3 : 0 < area2 c a b := by rw [area_turn3]; exact h2
  have k : onT a b c p = true → (area2 a b p = 0 ∨ area2 b c p = 0 ∨ area2 c a p = 0) ∧ 0 ≤ area2 a b p ∧ 0 ≤ area2 b c p ∧ 0 ≤ area2 c a p := by
    intro h
    unfold onT at h
    rw [Bool.or_eq_true, Bool.or_eq_true] at h
    rcases h with (h | h) | h
    · obtain ⟨q1, q2, q3⟩ := btw_in hS h; exact ⟨Or.inl q1, by grind, q2, q3⟩
    · obtain ⟨q1, q2, q3⟩ := btw_in h2 h; exact ⟨Or.inr (Or.inl q1), q3, by grind, q2⟩
    · obtain ⟨q1, q2, q3⟩ := btw_in h3 h; exact ⟨Or.inr (Or.inr q1), q2, q3, by grind⟩
  refine ⟨fun ⟨u, v, w⟩ => ⟨?_, tri_in u v w⟩, fun h => ⟨?_, tri_out hS h⟩, fun h g => ?_⟩
  · rw [← Bool.not_eq_true]; intro e; have := k e; grind
  · rw [← Bool.not_eq_true]; intro e; have := k e; grind
  · have u : 0 ≤ area2 a b p := by grind
    have v : 0 ≤ area2 b c p := by grind
    have w : 0 ≤ area2 c a p := by grind
    unfold onT
    rw [Bool.or_eq_true, Bool.or_eq_true]
    by_cases q1 : area2 a b p = 0
    · exact Or.inl (Or.inl (in_btw hS q1 v w))
    by_cases q2 : area2 b c p = 0
    · exact Or.inl (Or.inr (in_btw h2 q2 w u))
    · exact Or.inr (in_btw h3 (by grind) u v)
theorem onT_rev (a b c p : Pl) : onT a c b p = onT a b c p := by
  unfold onT
  rw [btw_rev a c p |>.symm, btw_rev b c p, btw_rev a b p]
  cases btw a b p <;> cases btw b c p <;> cases btw c a p <;> rfl
theorem nTri_rev (a b c p : Pl) : nTri a c b p = -nTri a b c p := by
  unfold nTri
  rw [crossP_rev p c a, crossP_rev p b c, crossP_rev p a b]; omega
theorem area_acb (a b c : Pl) : area2 a c b = -area2 a b c := by unfold area2; grind
theorem tri_all {a b c p : Pl} (ho : side3 a b c ≠ 0) :
    ((side3 a b p = side3 a b c ∧ side3 b c p = side3 a b c ∧ side3 c a p = side3 a b c) → onT a b c p = false ∧ nTri a b c p = side3 a b c) ∧
    ((side3 a b p = -side3 a b c ∨ side3 b c p = -side3 a b c ∨ side3 c a p = -side3 a b c) → onT a b c p = false ∧ nTri a b c p = 0) ∧
    (¬ (side3 a b p = side3 a b c ∧ side3 b c p = side3 a b c ∧ side3 c a p = side3 a b c) → ¬ (side3 a b p = -side3 a b c ∨ side3 b c p = -side3 a b c ∨ side3 c a p = -side3 a b c) → onT a b c p = true) := by
  have P : ∀ x y z : Pl, side3 x y z = 1 ↔ 0 < area2 x y z := fun x y z => qsgn_pos
  have N : ∀ x y z : Pl, side3 x y z = -1 ↔ area2 x y z < 0 := fun x y z => qsgn_neg
  have hc : side3 a b c = -1 ∨ side3 a b c = 0 ∨ side3 a b c = 1 := qsgn_cases (area2 a b c)
  rcases hc with h | h | h
  · have hS : 0 < area2 a c b := by rw [area_acb]; have := (N _ _ _).1 h; grind
    obtain ⟨t1, t2, t3⟩ := tri_pos (p := p) hS
    rw [area_ba c a p, area_ba b c p, area_ba a b p, onT_rev] at t1 t2 t3
    rw [nTri_rev] at t1 t2
    have Q : ∀ q : Rat, 0 < -q ↔ q < 0 := fun q => by grind
    have R : ∀ q : Rat, -q < 0 ↔ 0 < q := fun q => by grind
    simp only [Q, R] at t1 t2 t3
    rw [h]
    simp only [N, Int.neg_neg, P]
    refine ⟨fun ⟨u, v, w⟩ => ?_, fun g => ?_, fun g1 g2 => t3 (fun ⟨x, y, z⟩ => g1 ⟨z, y, x⟩) (fun g => g2 (by rcases g with g | g | g <;> simp [g]))⟩
    · obtain ⟨x1, x2⟩ := t1 ⟨w, v, u⟩; exact ⟨x1, by omega⟩
    · obtain ⟨x1, x2⟩ := t2 (by rcases g with g | g | g <;> simp [g]); exact ⟨x1, by omega⟩
  · exact absurd h ho
  · have hS := (P _ _ _).1 h
    obtain ⟨t1, t2, t3⟩ := tri_pos (p := p) hS
    rw [h]
    simp only [N, P]
    exact ⟨t1, t2, t3⟩
end Go.Proofs.YtfpofmifmapmfaaGreatDoor

namespace Go.Proofs.YtfpofmifmapmfaaGreatDoor
open Go.RowKit Go.Proofs.YtfpofmifmapmfaaGreatDoorW.PrintLast
set_option linter.unusedVariables false
set_option linter.unusedSimpArgs false
theorem pthE_mem : ∀ {r : List Pt} {e : Ed}, e ∈ pthE r → e.1 ∈ r ∧ e.2 ∈ r
  | [], e, h => by cases h
  | [_], e, h => by cases h
  | x :: y :: l, e, h => by
    rw [pthE, List.mem_cons] at h
    rcases h with rfl | h
    · exact ⟨List.mem_cons_self, List.mem_cons_of_mem _ List.mem_cons_self⟩
    · have := pthE_mem h
      exact ⟨List.mem_cons_of_mem _ this.1, List.mem_cons_of_mem _ this.2⟩
theorem sumI_congr {f g : Ed → Int} : ∀ {es : List Ed}, (∀ e ∈ es, f e = g e) → sumI f es = sumI g es
  | [], _ => rfl
  | e :: es, h => by rw [sumI_cons, sumI_cons, h e List.mem_cons_self, sumI_congr (fun x hx => h x (List.mem_cons_of_mem _ hx))]
theorem sumI_zero {f : Ed → Int} {es : List Ed} (h : ∀ e ∈ es, f e = 0) : sumI f es = 0 := by
  rw [sumI_congr (g := fun _ => 0) h]
  induction es with
  | nil => rfl
  | cons e es ih => rw [sumI_cons, ih (fun x hx => h x (List.mem_cons_of_mem _ hx))]; rfl
theorem sumI_tele (g : Pt → Int) : ∀ (x : Pt) (l : List Pt), sumI (fun e => g e.2 - g e.1) (pthE (x :: l)) = g ((x :: l).getD l.length (0, 0)) - g x
  | x, [] => by simp [pthE, sumI]
  | x, y :: l => by
    rw [pthE, sumI_cons, sumI_tele g y l]
    show g y - g x + (g ((y :: l).getD l.length (0, 0)) - g y) = g ((y :: l).getD l.length (0, 0)) - g x
    omega
theorem out_wind {r : List Pt} {p : Pt} (h0 : 0 < r.length) (hc : pcmpP (r.getD 0 (0, 0)) (r.getD (r.length - 1) (0, 0)) = 0)
    (ho : (∀ q ∈ r, (pl p).1 < (pl q).1) ∨ (∀ q ∈ r, (pl q).1 < (pl p).1) ∨ (∀ q ∈ r, (pl p).2 < (pl q).2) ∨ (∀ q ∈ r, (pl q).2 < (pl p).2)) : windR r p = (0, false) := by
  have m0 := getD_mem h0
  have hne : ¬ pcmpP (r.getD 0 (0, 0)) p = 0 := by
    intro e
    have e' := pcmp_eq.1 e
    rcases ho with h | h | h | h <;> have := h _ m0 <;> rw [e'] at this <;> exact Rat.lt_irrefl this
  have hon : ∀ e ∈ edgesR r, onE p e = false := by
    intro e he
    rw [edgesR_pth] at he
    obtain ⟨k1, k2⟩ := pthE_mem he
    rw [← Bool.not_eq_true]
    intro hb
    unfold onE btwP btw side3 at hb
    simp only [Bool.and_eq_true, Bool.or_eq_true, decide_eq_true_eq, qsgn_zero, ge_lex, pcmp_le] at hb
    obtain ⟨b0, b1⟩ := hb
    have b0' : area2 (pl e.2) (pl e.1) (pl p) = 0 := by rw [area_ba]; grind
    rcases ho with h | h | h | h <;> have c1 := h _ k1 <;> have c2 := h _ k2
    · grind
    · grind
    · rcases b1 with ⟨g1, g2⟩ | ⟨g1, g2⟩
      · exact on_not_below b0 (by grind) (by grind) (by grind) c1 c2
      · exact on_not_below b0' (by grind) (by grind) (by grind) c2 c1
    · rcases b1 with ⟨g1, g2⟩ | ⟨g1, g2⟩
      · exact on_not_above b0 (by grind) (by grind) (by grind) c1 c2
      · exact on_not_above b0' (by grind) (by grind) (by grind) c2 c1
  have hany : ¬ (edgesR r).any (onE p) = true := by
    rw [List.any_eq_true]
    rintro ⟨e, he, hf⟩
    rw [hon e he] at hf; cases hf
  unfold windR
  rw [if_neg hne, if_neg hany]
  congr 1
  have zero : (∀ e ∈ pthE r, crossP (pl p) (pl e.1) (pl e.2) = 0) → sumI (crossE p) (edgesR r) = 0 := fun h => by
    rw [edgesR_pth]
    exact sumI_zero (fun e he => by rw [crossE_pl]; exact h e he)
  rcases ho with h | h | h | h
  · -- to the left of all: each crossing counts
    have key : ∀ e ∈ pthE r, crossE p e = (fun q : Pt => if (pl q).2 ≤ (pl p).2 then (0 : Int) else 1) e.2 - (fun q : Pt => if (pl q).2 ≤ (pl p).2 then (0 : Int) else 1) e.1 := by
      intro e he
      obtain ⟨k1, k2⟩ := pthE_mem he
      have c1 := h _ k1
      have c2 := h _ k2
      rw [crossE_pl]
      unfold crossP
      dsimp only
      by_cases a : (pl e.1).2 ≤ (pl p).2 <;> by_cases b : (pl e.2).2 ≤ (pl p).2
      · have n1 := Rat.not_lt.2 a; have n2 := Rat.not_lt.2 b
        simp only [a, b, n1, n2, false_and, and_false, if_false, if_true]; rfl
      · have n1 := Rat.not_lt.2 a; have n2 := Rat.not_le.1 b
        have := up_left c1 c2 a n2
        simp only [a, b, n1, n2, this, false_and, and_false, true_and, if_false, if_true]; rfl
      · have n1 := Rat.not_le.1 a; have n2 := Rat.not_lt.2 b
        have := down_left c1 c2 b n1
        simp only [a, b, n1, n2, this, false_and, and_false, true_and, if_false, if_true]; rfl
      · simp only [a, b, false_and, if_false]; rfl
    rw [edgesR_pth, sumI_congr key]
    match r, h0 with
    | x :: l, _ =>
      refine (sumI_tele (fun q : Pt => if (pl q).2 ≤ (pl p).2 then (0 : Int) else 1) x l).trans ?_
      have e' := pcmp_eq.1 hc
      have hx : (x :: l).getD 0 (0, 0) = x := rfl
      rw [hx, show (x :: l).length - 1 = l.length from rfl] at e'
      rw [← e']; omega
  · refine zero fun e he => ?_
    obtain ⟨k1, k2⟩ := pthE_mem he
    have c1 := h _ k1
    have c2 := h _ k2
    unfold crossP
    rw [if_neg, if_neg]
    · rintro ⟨a, b, d⟩; have := down_right c1 c2 a b; grind
    · rintro ⟨a, b, d⟩; have := up_right c1 c2 a b; grind
  · refine zero fun e he => ?_
    obtain ⟨k1, k2⟩ := pthE_mem he
    have c1 := h _ k1
    have c2 := h _ k2
    unfold crossP
    rw [if_neg (by grind), if_neg (by grind)]
  · refine zero fun e he => ?_
    obtain ⟨k1, k2⟩ := pthE_mem he
    have c1 := h _ k1
    have c2 := h _ k2
    unfold crossP
    rw [if_neg (by grind), if_neg (by grind)]
theorem qcmp_int (x y : Int) : qcmp (x : Rat) (y : Rat) = icmp x y := by
  unfold qcmp
  simp only [Rat.num_intCast, Rat.den_intCast, Int.natCast_one, Int.mul_one]
theorem icmp_scale {K : Int} (hK : 0 < K) (x y : Int) : icmp (x * K) (y * K) = icmp x y := by
  unfold icmp
  have h1 : x * K < y * K ↔ x < y := ⟨fun h => Int.lt_of_mul_lt_mul_right h (Int.le_of_lt hK), fun h => Int.mul_lt_mul_of_pos_right h hK⟩
  have h2 : x * K = y * K ↔ x = y := ⟨fun h => Int.eq_of_mul_eq_mul_right (by omega) h, fun h => by rw [h]⟩
  simp only [h1, h2]
theorem qsgn_int (z : Int) : qsgn (z : Rat) = if z = 0 then 0 else if z < 0 then -1 else 1 := by
  unfold qsgn
  have e : ((z : Rat)).num = z := Rat.num_intCast z
  by_cases h : z = 0
  · rw [if_pos h, if_pos (e.trans h)]
  · rw [if_neg h, if_neg (by rw [e]; exact h)]
    by_cases g : z < 0
    · rw [if_pos g, if_pos (by rw [e]; exact g)]
    · rw [if_neg g, if_neg (by rw [e]; exact g)]
theorem qsgn_scale {K : Int} (hK : 0 < K) (z : Int) : qsgn ((z * K : Int) : Rat) = qsgn (z : Rat) := by
  rw [qsgn_int, qsgn_int]
  have h1 : z * K = 0 ↔ z = 0 := ⟨fun h => (Int.mul_eq_zero.1 h).resolve_right (by omega), fun h => by rw [h, Int.zero_mul]⟩
  have h2 : z * K < 0 ↔ z < 0 := ⟨fun h => Int.lt_of_mul_lt_mul_right (by rw [Int.zero_mul]; exact h) (Int.le_of_lt hK), fun h => by have := Int.mul_lt_mul_of_pos_right h hK; rwa [Int.zero_mul] at this⟩
  simp only [h1, h2]
def layP (dx dy : Int) (k : Nat) (a : Pt) : Pt := (numP ((a.1 + dx) * 2 ^ k), numP ((a.2 + dy) * 2 ^ k))
def LitP (a : Pt) : Prop := (-4096 ≤ a.1 ∧ a.1 ≤ 4095) ∧ (-4096 ≤ a.2 ∧ a.2 ≤ 4095)
structure FrO (dx dy : Int) (k : Nat) : Prop where
  x : -4096 ≤ dx ∧ dx ≤ 4095
  y : -4096 ≤ dy ∧ dy ≤ 4095
  k : k ≤ 7
theorem two_k {k : Nat} (h : k ≤ 7) : (2 : Int) ^ k = 1 ∨ (2 : Int) ^ k = 2 ∨ (2 : Int) ^ k = 4 ∨ (2 : Int) ^ k = 8 ∨ (2 : Int) ^ k = 16 ∨ (2 : Int) ^ k = 32 ∨ (2 : Int) ^ k = 64 ∨ (2 : Int) ^ k = 128 := by
  match k, h with
  | 0, _ | 1, _ | 2, _ | 3, _ | 4, _ | 5, _ | 6, _ | 7, _ => decide
variable {dx dy : Int} {k : Nat}
theorem lay_rng {x d : Int} (hx : -4096 ≤ x ∧ x ≤ 4095) (hd : -4096 ≤ d ∧ d ≤ 4095) (hk : k ≤ 7) : -1048576 ≤ (x + d) * 2 ^ k ∧ (x + d) * 2 ^ k ≤ 1048576 := by
  rcases two_k hk with h | h | h | h | h | h | h | h <;> rw [h] <;> omega
theorem lay_val (h : FrO dx dy k) {a : Pt} (ha : LitP a) : fval (layP dx dy k a).1 = (((a.1 + dx) * 2 ^ k : Int) : Rat) ∧ fval (layP dx dy k a).2 = (((a.2 + dy) * 2 ^ k : Int) : Rat) ∧ Fin64 (layP dx dy k a).1 ∧ Fin64 (layP dx dy k a).2 := by
  have r1 := lay_rng (k := k) ha.1 h.x h.k
  have r2 := lay_rng (k := k) ha.2 h.y h.k
  have v1 := numP_val (v := (a.1 + dx) * 2 ^ k) (by omega)
  have v2 := numP_val (v := (a.2 + dy) * 2 ^ k) (by omega)
  exact ⟨v1.1, v2.1, v1.2, v2.2⟩
theorem lay_cmp (h : FrO dx dy k) {a b : Pt} (ha : LitP a) (hb : LitP b) : qcmp (fval (layP dx dy k a).1) (fval (layP dx dy k b).1) = icmp a.1 b.1 ∧ qcmp (fval (layP dx dy k a).2) (fval (layP dx dy k b).2) = icmp a.2 b.2 := by
  have hK : (0 : Int) < 2 ^ k := Int.pow_pos (by decide)
  obtain ⟨a1, a2, _, _⟩ := lay_val h ha
  obtain ⟨b1, b2, _, _⟩ := lay_val h hb
  rw [a1, a2, b1, b2, qcmp_int, qcmp_int, icmp_scale hK, icmp_scale hK]
  constructor <;> (unfold icmp; split <;> split <;> (try split) <;> (try split) <;> omega)
def iarea (a b c : Pt) : Int := (b.1 - a.1) * (c.2 - a.2) - (b.2 - a.2) * (c.1 - a.1)
theorem lay_side (h : FrO dx dy k) {a b c : Pt} (ha : LitP a) (hb : LitP b) (hc : LitP c) : sideP (layP dx dy k a) (layP dx dy k b) (layP dx dy k c) = qsgn ((iarea a b c : Int) : Rat) := by
  have hK : (0 : Int) < 2 ^ k := Int.pow_pos (by decide)
  obtain ⟨a1, a2, _, _⟩ := lay_val h ha
  obtain ⟨b1, b2, _, _⟩ := lay_val h hb
  obtain ⟨c1, c2, _, _⟩ := lay_val h hc
  unfold sideP side3 area2 pl
  dsimp only
  rw [a1, a2, b1, b2, c1, c2]
  rw [← Rat.intCast_sub, ← Rat.intCast_sub, ← Rat.intCast_sub, ← Rat.intCast_sub, ← Rat.intCast_mul, ← Rat.intCast_mul, ← Rat.intCast_sub]
  generalize (2 : Int) ^ k = K at *
  have : ((b.1 + dx) * K - (a.1 + dx) * K) * ((c.2 + dy) * K - (a.2 + dy) * K) - ((b.2 + dy) * K - (a.2 + dy) * K) * ((c.1 + dx) * K - (a.1 + dx) * K) = iarea a b c * K * K := by unfold iarea; grind
  rw [this, qsgn_scale hK, qsgn_scale hK]
def icross (p a b : Pt) : Int :=
  if icmp a.2 p.2 ≤ 0 ∧ 0 < icmp b.2 p.2 ∧ 0 < qsgn ((iarea a b p : Int) : Rat) then 1 else if icmp b.2 p.2 ≤ 0 ∧ 0 < icmp a.2 p.2 ∧ qsgn ((iarea a b p : Int) : Rat) < 0 then -1 else 0
theorem lay_cross (h : FrO dx dy k) {a b p : Pt} (ha : LitP a) (hb : LitP b) (hp : LitP p) : crossE (layP dx dy k p) (layP dx dy k a, layP dx dy k b) = icross p a b := by
  unfold crossE icross
  rw [(lay_cmp h ha hp).2, (lay_cmp h hb hp).2, lay_side h ha hb hp]
def ipcmp (a b : Pt) : Int := if icmp a.1 b.1 ≠ 0 then icmp a.1 b.1 else icmp a.2 b.2
theorem lay_pcmp (h : FrO dx dy k) {a b : Pt} (ha : LitP a) (hb : LitP b) : pcmpP (layP dx dy k a) (layP dx dy k b) = ipcmp a b := by
  unfold pcmpP pcmp ipcmp pl
  dsimp only
  rw [(lay_cmp h ha hb).1, (lay_cmp h ha hb).2]
def ion (p a b : Pt) : Bool := decide (qsgn ((iarea a b p : Int) : Rat) = 0) && (decide (ipcmp a p ≤ 0) && decide (ipcmp p b ≤ 0) || decide (0 ≤ ipcmp a p) && decide (0 ≤ ipcmp p b))
theorem lay_on (h : FrO dx dy k) {a b p : Pt} (ha : LitP a) (hb : LitP b) (hp : LitP p) : onE (layP dx dy k p) (layP dx dy k a, layP dx dy k b) = ion p a b := by
  have e1 := lay_side h ha hb hp
  have e2 := lay_pcmp h ha hp
  have e3 := lay_pcmp h hp hb
  unfold sideP at e1
  unfold pcmpP at e2 e3
  unfold onE btwP btw ion
  rw [e1, e2, e3]
theorem pthE_map (f : Pt → Pt) : ∀ r : List Pt, pthE (r.map f) = (pthE r).map (fun e => (f e.1, f e.2))
  | [] => rfl
  | [_] => rfl
  | x :: y :: l => by
    have ih := pthE_map f (y :: l)
    show (f x, f y) :: pthE ((y :: l).map f) = (f x, f y) :: (pthE (y :: l)).map (fun e => (f e.1, f e.2))
    rw [ih]
theorem sumI_map {f : Ed → Int} {g : Ed → Int} {u : Ed → Ed} : ∀ {es : List Ed}, (∀ e ∈ es, f (u e) = g e) → sumI f (es.map u) = sumI g es
  | [], _ => rfl
  | e :: es, h => by rw [List.map_cons, sumI_cons, sumI_cons, h e List.mem_cons_self, sumI_map (fun x hx => h x (List.mem_cons_of_mem _ hx))]
theorem any_map {f : Ed → Bool} {g : Ed → Bool} {u : Ed → Ed} {es : List Ed} (h : ∀ e ∈ es, f (u e) = g e) : (es.map u).any f = es.any g := by
  induction es with
  | nil => rfl
  | cons e es ih => rw [List.map_cons, List.any_cons, List.any_cons, h e List.mem_cons_self, ih (fun x hx => h x (List.mem_cons_of_mem _ hx))]
theorem getD_map0 (f : Pt → Pt) {r : List Pt} (h : 0 < r.length) : (r.map f).getD 0 (0, 0) = f (r.getD 0 (0, 0)) := by
  match r, h with
  | x :: l, _ => rfl
theorem lay_wind {r : List Pt} {p : Pt} (h : FrO dx dy k) (h0 : 0 < r.length) (hr : ∀ q ∈ r, LitP q) (hp : LitP p) :
    windR (r.map (layP dx dy k)) (layP dx dy k p) = if ipcmp (r.getD 0 (0, 0)) p = 0 then (0, true) else if (pthE r).any (fun e => ion p e.1 e.2) then (0, true) else (sumI (fun e => icross p e.1 e.2) (pthE r), false) := by
  unfold windR
  rw [getD_map0 _ h0, lay_pcmp h (hr _ (getD_mem h0)) hp, edgesR_pth, pthE_map]
  have m : ∀ e ∈ pthE r, LitP e.1 ∧ LitP e.2 := fun e he => ⟨hr _ (pthE_mem he).1, hr _ (pthE_mem he).2⟩
  rw [any_map (g := fun e => ion p e.1 e.2) (fun e he => lay_on h (m e he).1 (m e he).2 hp), sumI_map (g := fun e => icross p e.1 e.2) (fun e he => lay_cross h (m e he).1 (m e he).2 hp)]
def icrs (e : Ed) : Int := e.1.1 * e.2.2 - e.2.1 * e.1.2
theorem lay_crs (h : FrO dx dy k) {a b : Pt} (ha : LitP a) (hb : LitP b) : crs (layP dx dy k a, layP dx dy k b) = (((icrs (a, b) + (dx * b.2 - dy * b.1 - (dx * a.2 - dy * a.1))) * (2 ^ k * 2 ^ k) : Int) : Rat) := by
  obtain ⟨a1, a2, _, _⟩ := lay_val h ha
  obtain ⟨b1, b2, _, _⟩ := lay_val h hb
  unfold crs icrs
  dsimp only
  rw [a1, a2, b1, b2, ← Rat.intCast_mul, ← Rat.intCast_mul, ← Rat.intCast_sub]
  congr 1
  grind
theorem sumE_int {f : Ed → Rat} {g : Ed → Int} {K : Int} {u : Ed → Ed} : ∀ {es : List Ed}, (∀ e ∈ es, f (u e) = ((g e * K : Int) : Rat)) → sumE f (es.map u) = ((sumI g es * K : Int) : Rat)
  | [], _ => by simp [sumE, sumI]
  | e :: es, h => by
    rw [List.map_cons, sumE_cons, sumI_cons, h e List.mem_cons_self, sumE_int (fun x hx => h x (List.mem_cons_of_mem _ hx)), ← Rat.intCast_add, ← Int.add_mul]
theorem sumI_add (f g : Ed → Int) : ∀ es : List Ed, sumI (fun e => f e + g e) es = sumI f es + sumI g es
  | [] => rfl
  | e :: es => by rw [sumI_cons, sumI_cons, sumI_cons, sumI_add f g es]; omega
theorem lay_area {r : List Pt} (h : FrO dx dy k) (h0 : 0 < r.length) (hr : ∀ q ∈ r, LitP q) (hc : r.getD 0 (0, 0) = r.getD (r.length - 1) (0, 0)) :
    sumE crs (edgesR (r.map (layP dx dy k))) = ((sumI icrs (pthE r) * (2 ^ k * 2 ^ k) : Int) : Rat) := by
  have m : ∀ e ∈ pthE r, LitP e.1 ∧ LitP e.2 := fun e he => ⟨hr _ (pthE_mem he).1, hr _ (pthE_mem he).2⟩
  rw [edgesR_pth, pthE_map, sumE_int (g := fun e => icrs e + ((fun q : Pt => dx * q.2 - dy * q.1) e.2 - (fun q : Pt => dx * q.2 - dy * q.1) e.1)) (K := 2 ^ k * 2 ^ k) (fun e he => lay_crs h (m e he).1 (m e he).2)]
  rw [sumI_add]
  match r, h0 with
  | x :: l, _ =>
    have t := sumI_tele (fun q : Pt => dx * q.2 - dy * q.1) x l
    have e' : x = (x :: l).getD l.length (0, 0) := hc
    rw [← e'] at t
    rw [t, Int.sub_self, Int.add_zero]
end Go.Proofs.YtfpofmifmapmfaaGreatDoor

namespace Go.Proofs.YtfpofmifmapmfaaGreatDoor
open Go.RowKit Go.Proofs.YtfpofmifmapmfaaGreatDoorW.PrintLast
set_option linter.unusedVariables false
set_option linter.unusedSimpArgs false
def farB (s a b : Int) : Int := if qcmp (fval b) (fval a) = s then b else a
def cornK (s : Int) (f : Pt → Int) (l : List Pt) (k : Nat) : Int := (List.range k).foldl (fun a j => farB s a (f (l.getD j (0, 0)))) (f (l.getD 0 (0, 0)))
theorem cornK_zero (s : Int) (f : Pt → Int) (l : List Pt) : cornK s f l 0 = f (l.getD 0 (0, 0)) := rfl
theorem cornK_succ (s : Int) (f : Pt → Int) (l : List Pt) (k : Nat) : cornK s f l (k + 1) = farB s (cornK s f l k) (f (l.getD k (0, 0))) := by
  unfold cornK; rw [List.range_succ, List.foldl_append]; rfl
theorem cornK_one {s : Int} (hs : s ≠ 0) (f : Pt → Int) (l : List Pt) : cornK s f l 1 = f (l.getD 0 (0, 0)) := by
  rw [cornK_succ, cornK_zero]; unfold farB; rw [qcmp_self, if_neg (by omega)]
theorem cornK_is (s : Int) (f : Pt → Int) (l : List Pt) (k : Nat) (hk : k ≤ l.length) (h0 : 0 < l.length) : ∃ j, j < l.length ∧ cornK s f l k = f (l.getD j (0, 0)) := by
  induction k with
  | zero => exact ⟨0, h0, rfl⟩
  | succ k ih =>
    obtain ⟨j, hj, e⟩ := ih (by omega)
    rw [cornK_succ]
    unfold farB
    split
    · exact ⟨k, by omega, rfl⟩
    · exact ⟨j, hj, e⟩
theorem cornK_low (f : Pt → Int) (l : List Pt) (k : Nat) : ∀ j, j < k → fval (cornK (-1) f l k) ≤ fval (f (l.getD j (0, 0))) := by
  induction k with
  | zero => intro j hj; omega
  | succ k ih =>
    intro j hj
    rw [cornK_succ]
    unfold farB
    split
    · rename_i h
      rw [qcmp_lt] at h
      rcases Nat.lt_or_ge j k with g | g
      · exact Rat.le_of_lt (by have := ih j g; grind)
      · obtain rfl : j = k := by omega
        exact Rat.le_refl
    · rename_i h
      rw [qcmp_lt] at h
      rcases Nat.lt_or_ge j k with g | g
      · exact ih j g
      · obtain rfl : j = k := by omega
        exact Rat.not_lt.1 h
theorem cornK_high (f : Pt → Int) (l : List Pt) (k : Nat) : ∀ j, j < k → fval (f (l.getD j (0, 0))) ≤ fval (cornK 1 f l k) := by
  induction k with
  | zero => intro j hj; omega
  | succ k ih =>
    intro j hj
    rw [cornK_succ]
    unfold farB
    split
    · rename_i h
      rw [qcmp_gt] at h
      rcases Nat.lt_or_ge j k with g | g
      · exact Rat.le_of_lt (by have := ih j g; grind)
      · obtain rfl : j = k := by omega
        exact Rat.le_refl
    · rename_i h
      rw [qcmp_gt] at h
      rcases Nat.lt_or_ge j k with g | g
      · exact ih j g
      · obtain rfl : j = k := by omega
        exact Rat.not_lt.1 h
def fX (p : Pt) : Int := p.1
def fY (p : Pt) : Int := p.2
def boxE (l : List Pt) : Int := if l.length = 0 then 240 else if finB l = true then 0 else 220
def lowP (l : List Pt) : Pt := if boxE l = 0 then (cornK (-1) fX l l.length, cornK (-1) fY l l.length) else (0, 0)
def highP (l : List Pt) : Pt := if boxE l = 0 then (cornK 1 fX l l.length, cornK 1 fY l l.length) else (0, 0)
end Go.Proofs.YtfpofmifmapmfaaGreatDoor

namespace Go.Proofs.YtfpofmifmapmfaaGreatDoor
open Go.RowKit Go.Proofs.YtfpofmifmapmfaaGreatDoorW.PrintLast
set_option linter.unusedVariables false
set_option linter.unusedSimpArgs false
set_option maxRecDepth 100000 in
theorem lFarther (a b s : Int) (w : World) (ha : Fin64 a) (hb : Fin64 b) : Calls Tryz.prog 86 #[.int .u64 a, .int .u64 b, .int .i64 s] w fun e w' => e = .returned (.int .u64 (farB s a b)) ∧ Below w.heap.size w w' := by
  have HC := Lib.hid (fun wz => fCmp b a wz hb ha)
  have HF : Hid (farB s a b = if qcmp (fval b) (fval a) = s then b else a) := Lib.hid rfl
  clear ha hb
  generalize qcmp (fval b) (fval a) = c at *
  generalize farB s a b = r at *
  by_cases h : c = s
  · rw [if_pos h] at HF
    go_enter Tryz.func86, Tryz.ntmps86
    ((try dsimp only); repeat (first | go_values | go_skip | go_guarded | go_step | go_upon))
    refine (HC.out _).mono ?_
    rintro e w1 ⟨rfl, rfl⟩
    ((try dsimp only); repeat (first | go_values | go_skip | go_guarded | go_step | go_upon))
    go_ret
    exact ⟨by rw [HF.out]; rfl, Below.refl _ _⟩
  · rw [if_neg h] at HF
    go_enter Tryz.func86, Tryz.ntmps86
    ((try dsimp only); repeat (first | go_values | go_skip | go_guarded | go_step | go_upon))
    refine (HC.out _).mono ?_
    rintro e w1 ⟨rfl, rfl⟩
    ((try dsimp only); repeat (first | go_values | go_skip | go_guarded | go_step | go_upon))
    go_ret
    exact ⟨by rw [HF.out]; rfl, Below.refl _ _⟩
set_option maxRecDepth 100000 in
theorem lCmp24 (a b : Int) (w : World) (ha : Fin64 a) (hb : Fin64 b) : Calls Tryz.prog 34 #[.int .u64 a, .int .u64 b] w fun e w' => e = .returned (.int .i64 (qcmp (fval a) (fval b))) ∧ w = w' := by
  have HC := Lib.hid (fun wz => fCmp a b wz ha hb)
  clear ha hb
  generalize qcmp (fval a) (fval b) = c at *
  go_enter Tryz.func34, Tryz.ntmps34
  ((try dsimp only); repeat (first | go_values | go_skip | go_guarded | go_step | go_upon))
  refine (HC.out _).mono ?_
  rintro e w1 ⟨rfl, rfl⟩
  ((try dsimp only); repeat (first | go_values | go_skip | go_guarded | go_step | go_upon))
  go_ret
  exact ⟨rfl, rfl⟩
theorem corn_fin {s : Int} {l : List Pt} {k : Nat} (h : ∀ p ∈ l, FinP p) (h0 : 0 < l.length) (hk : k ≤ l.length) : Fin64 (cornK s fX l k) ∧ Fin64 (cornK s fY l k) := by
  obtain ⟨i, hi, e⟩ := cornK_is s fX l k hk h0
  obtain ⟨j, hj, e'⟩ := cornK_is s fY l k hk h0
  rw [e, e']
  exact ⟨(h _ (getD_mem hi)).1, (h _ (getD_mem hj)).2⟩
set_option maxRecDepth 100000 in
set_option maxHeartbeats 6400000 in
theorem gBox (A : Option Addr) (c : Nat) (ps : List Pt) (w : World) (hp : PtsIn w A ps) (hl : ps.length ≤ 1000000) (hu : ∀ q ∈ ps, PtU q) :
    Calls Tryz.prog 29 #[.slice A ps.length c] w fun e w' => e = .returned (.tuple #[.agg #[.int .u64 (lowP ps).1, .int .u64 (lowP ps).2], .agg #[.int .u64 (highP ps).1, .int .u64 (highP ps).2], .int .i64 (boxE ps)]) ∧ Below w.heap.size w w' := by
  by_cases h0 : ps.length = 0
  · have e0 : boxE ps = 240 := by unfold boxE; rw [if_pos h0]
    have e1 : lowP ps = (0, 0) := by unfold lowP; rw [e0]; rfl
    have e2 : highP ps = (0, 0) := by unfold highP; rw [e0]; rfl
    rw [e0, e1, e2]
    have l0 : ((ps.length : Int) == 0) = true := by rw [h0]; rfl
    clear hp hu e0 e1 e2
    have hmm : Bx w.heap.size w ((w.alloc (.cells #[.int .u64 0, .int .u64 0] 38)).alloc (.cells #[.int .u64 0, .int .u64 0] 38)) _ _ := ((Bx.start w).alloc (.cells #[.int .u64 0, .int .u64 0] 38 (0, 0))).alloc (.cells #[.int .u64 0, .int .u64 0] 38 (0, 0))
    go_enter Tryz.func29, Tryz.ntmps29
    go_upto_region 1 with (fail)
    generalize (World.alloc (World.alloc w _) _) = v at *
    (try simp only [List.nil_append, List.cons_append, World.size_alloc, List.set_cons_zero, List.set_cons_succ, putsC, pB, pC, pD] at hmm)
    have HM := Lib.hid hmm
    clear hmm
    obtain ⟨c0_0, c0_1, c0_2, c0_3⟩ := rw2 (HM.out.at 0 rfl)
    obtain ⟨c1_0, c1_1, c1_2, c1_3⟩ := rw2 (HM.out.at 1 rfl)
    ((try dsimp only); repeat (first | go_values | go_skip | go_guarded | go_step | go_upon))
    refine bodyPost_ret (results_rows2 rfl _ _ (w.heap.size) (w.heap.size + 1) _ _ _ _ _ _ _ _ rfl rfl (((HM.out.puts 0 rfl (by decide) [(0, .int .u64 0), (1, .int .u64 0)]).puts 1 rfl (by decide) [(0, .int .u64 0), (1, .int .u64 0)]).at 0 rfl) (((HM.out.puts 0 rfl (by decide) [(0, .int .u64 0), (1, .int .u64 0)]).puts 1 rfl (by decide) [(0, .int .u64 0), (1, .int .u64 0)]).at 1 rfl) rfl rfl rfl rfl rfl rfl) rfl ?_
    exact ⟨rfl, ((HM.out.puts 0 rfl (by decide) [(0, .int .u64 0), (1, .int .u64 0)]).puts 1 rfl (by decide) [(0, .int .u64 0), (1, .int .u64 0)]).m.b⟩
  have l0 : ((ps.length : Int) == 0) = false := beq_eq_false_iff_ne.2 (by omega)
  have HFi := Lib.hid (fun wz h => gFinite A c ps wz (hp.keep h) hl hu)
  by_cases hf : finB ps = true
  · have e0 : boxE ps = 0 := by unfold boxE; rw [if_neg h0, if_pos hf]
    have e1 : lowP ps = (cornK (-1) fX ps ps.length, cornK (-1) fY ps ps.length) := by unfold lowP; rw [if_pos e0]
    have e2 : highP ps = (cornK 1 fX ps ps.length, cornK 1 fY ps ps.length) := by unfold highP; rw [if_pos e0]
    rw [e0, e1, e2]
    rw [hf] at HFi
    rw [finB_iff hu] at hf
    have hlen : 0 < ps.length := by omega
    have HFP := Lib.hid (And.intro hf (And.intro hlen hl))
    obtain ⟨ba, oa, rfl, hba, hpa⟩ := hp.open hlen
    have HR : Hid (∀ k, k < ps.length → ∀ wz, Below w.heap.size w wz → wz.cell? ⟨ba, oa + k * 2, none⟩ = some (.int .u64 (ps.getD k (0, 0)).1) ∧ wz.cell? ⟨ba, oa + k * 2 + 1, none⟩ = some (.int .u64 (ps.getD k (0, 0)).2)) :=
      Lib.hid (fun k hk wz h => ⟨(h.cell (p := ⟨ba, oa + k * 2, none⟩) hba).trans (hpa k hk).1, (h.cell (p := ⟨ba, oa + k * 2 + 1, none⟩) hba).trans (hpa k hk).2⟩)
    have HR0 : Hid (∀ wz, Below w.heap.size w wz → wz.cell? ⟨ba, oa, none⟩ = some (.int .u64 (cornK (-1) fX ps 0)) ∧ wz.cell? ⟨ba, oa + 1, none⟩ = some (.int .u64 (cornK (-1) fY ps 0))) :=
      Lib.hid (fun wz h => by have := HR.out 0 hlen wz h; rwa [Nat.zero_mul, Nat.add_zero] at this)
    have HC0 : Hid (cornK 1 fX ps 0 = cornK (-1) fX ps 0 ∧ cornK 1 fY ps 0 = cornK (-1) fY ps 0) := Lib.hid ⟨rfl, rfl⟩
    clear hp hu e0 e1 e2 hpa hf h0 hl
    have hmm : Bx w.heap.size w ((w.alloc (.cells #[.int .u64 0, .int .u64 0] 38)).alloc (.cells #[.int .u64 0, .int .u64 0] 38)) _ _ := ((Bx.start w).alloc (.cells #[.int .u64 0, .int .u64 0] 38 (0, 0))).alloc (.cells #[.int .u64 0, .int .u64 0] 38 (0, 0))
    go_enter Tryz.func29, Tryz.ntmps29
    go_upto_region 1 with (fail)
    generalize (World.alloc (World.alloc w _) _) = v at *
    (try simp only [List.nil_append, List.cons_append, World.size_alloc, List.set_cons_zero, List.set_cons_succ, putsC, pB, pC, pD] at hmm)
    have HM := Lib.hid hmm
    clear hmm
    ((try dsimp only); repeat (first | go_values | go_skip | go_guarded | go_step | go_upon))
    refine (HFi.out _ HM.out.m.b).mono ?_
    rintro e w1 ⟨rfl, hb⟩
    have hm := HM.out.keep hb
    clear HM hb HFi
    have HM := Lib.hid hm
    clear hm
    go_upto_region 5 with (fail)
    generalize hx0 : cornK (-1) fX ps 0 = zx at *
    generalize hy0 : cornK (-1) fY ps 0 = zy at *
    have HXY := Lib.hid (And.intro hx0 hy0)
    clear hx0 hy0
    refine start_ (n := 10) (S := fun w' => Below w1.heap.size w1 w') (ds := [9]) (bt 10 0) (by kernel_rfl) rfl rfl ((Below.refl _ _).drew) (fun hHeld => ?_)
    refine pv_ 0 21 ?_
    refine pv_ 1 22 ?_
    refine ld_ 2 23 ?_ hHeld ?_ ?_; rotate_left
    · rintro w' hs
      obtain ⟨c0, c1⟩ := HR0.out _ (HM.out.m.b.trans (hs.mono HM.out.m.b.size))
      clear hs
      go_simp; with_reducible rfl
    refine pv_ 3 24 ?_
    refine pv_ 4 25 ?_
    refine ld_ 5 26 ?_ hHeld ?_ ?_; rotate_left
    · rintro w' hs
      obtain ⟨c0, c1⟩ := HR0.out _ (HM.out.m.b.trans (hs.mono HM.out.m.b.size))
      clear hs
      go_simp; with_reducible rfl
    refine join_ (σ := Nat × Nat) 2 (bt 10 255) (fun s => [(5, .pointer (some ⟨(s.1), 0, none⟩)), (6, .pointer (some ⟨(s.2), 0, none⟩))]) (fun s w' => Bx w1.heap.size w1 w' [((s.1), .cells #[.int .u64 0, .int .u64 0] 38 (0, 0)), ((s.2), .cells #[.int .u64 0, .int .u64 0] 38 (0, 0))] []) ?_ ?_
    rotate_left
    · intro J0
      refine join_ (σ := Nat × Nat) 3 (bt 10 127) (fun s => [(5, .pointer (some ⟨(s.1), 0, none⟩))]) (fun s w' => Bx w1.heap.size w1 w' [((s.1), .cells #[.int .u64 0, .int .u64 0] 38 (0, 0))] []) ?_ ?_
      · rintro ⟨g1_6, g1_7⟩ wj hF
        try dsimp only at hF ⊢
        refine nx ?_
        refine o1 7 6 (bt 10 255) ?_
        · intro K hK
          refine al_ (.cells #[.int .u64 0, .int .u64 0] 38) ?_
          have hN := hF.alloc (.cells #[.int .u64 0, .int .u64 0] 38 (0, 0))
          refine hK.out _ _ (by exact hN.m.b) (fun hHeld => ?_)
          exact nj (J0 (g1_6, wj.heap.size) _ hN)
      intro J1
      refine join_ (σ := Nat × Nat) 3 (bt 10 191) (fun s => [(6, .pointer (some ⟨(s.2), 0, none⟩))]) (fun s w' => Bx w1.heap.size w1 w' [((s.2), .cells #[.int .u64 0, .int .u64 0] 38 (0, 0))] []) ?_ ?_
      · rintro ⟨g1_6, g1_7⟩ wj hF
        try dsimp only at hF ⊢
        refine nx ?_
        refine o1 6 5 (bt 10 255) ?_
        · intro K hK
          refine al_ (.cells #[.int .u64 0, .int .u64 0] 38) ?_
          have hN := hF.alloc (.cells #[.int .u64 0, .int .u64 0] 38 (0, 0))
          have hN := hN.sel (L' := [(wj.heap.size, .cells #[.int .u64 0, .int .u64 0] 38 (0, 0)), (g1_7, .cells #[.int .u64 0, .int .u64 0] 38 (0, 0))]) (R' := []) (fun i => [1, 0].getD i i) (fun i x e => match i, e with | 0, e => e | 1, e => e) (fun i j hi hj => (show ∀ i, i < 2 → ∀ j, j < 2 → [1, 0].getD i i = [1, 0].getD j j → i = j by decide) i hi j hj) (by first | exact fun x h => h | (simp only [List.nil_append, List.cons_append, List.mem_cons]; grind))
          refine hK.out _ _ (by exact hN.m.b) (fun hHeld => ?_)
          exact nj (J0 (wj.heap.size, g1_7) _ hN)
      intro J2
      refine join_ (σ := Nat × Nat) 4 (bt 10 63) (fun s => []) (fun s w' => Bx w1.heap.size w1 w' [] []) ?_ ?_
      · rintro ⟨g1_6, g1_7⟩ wj hF
        try dsimp only at hF ⊢
        refine nx ?_
        refine o2 6 5 7 6 (bt 10 127) (bt 10 191) ?_ ?_
        · intro K hK
          refine al_ (.cells #[.int .u64 0, .int .u64 0] 38) ?_
          have hN := hF.alloc (.cells #[.int .u64 0, .int .u64 0] 38 (0, 0))
          refine hK.out _ _ (by exact hN.m.b) (fun hHeld => ?_)
          exact nj (J1 (wj.heap.size, g1_7) _ hN)
        · intro K hK
          refine al_ (.cells #[.int .u64 0, .int .u64 0] 38) ?_
          have hN := hF.alloc (.cells #[.int .u64 0, .int .u64 0] 38 (0, 0))
          refine hK.out _ _ (by exact hN.m.b) (fun hHeld => ?_)
          exact nj (J2 (g1_6, wj.heap.size) _ hN)
      intro J3
      exact nj (J3 (0, 0) _ ((Bx.start _).drew))
    rintro ⟨g1_6, g1_7⟩ wj hF
    try dsimp only at hF ⊢
    refine nx ?_
    have hge2 := hF.g 0 _ _ rfl
    have hge3 := hF.g 1 _ _ rfl
    have hG := HM.out.join hF
    (try simp only [List.nil_append, List.cons_append, World.size_alloc, List.set_cons_zero, List.set_cons_succ, putsC, pB, pC, pD] at hG)
    have hHeld := And.intro True.intro hF.m.b
    clear HM hF
    refine one_ (i := 8) (N := none) (bt 10 511) rfl rfl (by kernel_rfl) (by decide) (fun K hK => ?_)
    obtain ⟨y0, y1, y2, y3⟩ := rw2 (hG.at 2 rfl)
    refine skip_ (w1 := puts (g1_6) [(0, .int .u64 zx), (1, .int .u64 zy)] wj) (by rfl) rfl ?_ ?_
    · go_simp
      rfl
    replace hHeld := And.intro True.intro (puts_below hge2 [(0, .int .u64 zx), (1, .int .u64 zy)] _ hHeld.2)
    refine hK.out _ _ (by exact hHeld.2) (fun _ => ?_)
    clear hK K y0 y1 y2 y3
    replace hG := hG.puts 2 rfl (by decide) [(0, .int .u64 zx), (1, .int .u64 zy)]
    (try simp only [List.nil_append, List.cons_append, World.size_alloc, List.set_cons_zero, List.set_cons_succ, putsC, pB, pC, pD] at hG)
    generalize puts (g1_6) _ wj = wk2 at *
    refine last_ (i := 9) (N := none) (bt 10 1023) rfl rfl (by kernel_rfl) (by decide) (fun K hK => ?_)
    obtain ⟨y0, y1, y2, y3⟩ := rw2 (hG.at 3 rfl)
    refine skip_ (w1 := puts (g1_7) [(0, .int .u64 zx), (1, .int .u64 zy)] wk2) (by rfl) rfl ?_ ?_
    · go_simp
      rfl
    refine hK.out _ _ ?_
    clear hK K y0 y1 y2 y3
    replace hG := hG.puts 3 rfl (by decide) [(0, .int .u64 zx), (1, .int .u64 zy)]
    (try simp only [List.nil_append, List.cons_append, World.size_alloc, List.set_cons_zero, List.set_cons_succ, putsC, pB, pC, pD] at hG)
    generalize puts (g1_7) _ wk2 = wk3 at *
    refine done_ (by kernel_rfl) ?_
    (try simp only [List.nil_append, List.cons_append, World.size_alloc, List.set_cons_zero, List.set_cons_succ, putsC, pB, pC, pD] at hG)
    have HM := Lib.hid hG
    clear hG hHeld
    ((try dsimp only); repeat (first | go_values | go_skip | go_guarded | go_step | go_upon))
    go_loopw [29] (fun i wr => ∃ k : Nat, i = .int .i64 k ∧ k ≤ ps.length ∧ Bx w.heap.size w wr [(w.heap.size, .cells #[.int .u64 0, .int .u64 0] 38 (0, 0)), (w.heap.size + 1, .cells #[.int .u64 0, .int .u64 0] 38 (0, 0)), (g1_6, .cells #[.int .u64 (cornK (-1) fX ps k), .int .u64 (cornK (-1) fY ps k)] 38 (0, 0)), (g1_7, .cells #[.int .u64 (cornK 1 fX ps k), .int .u64 (cornK 1 fY ps k)] 38 (0, 0))] []) (fun i _ => ps.length - (intOf i).toNat)
    case atStart =>
      refine ⟨0, rfl, Nat.zero_le _, ?_⟩
      rw [HC0.out.1, HC0.out.2, HXY.out.1, HXY.out.2]
      exact HM.out
    case round =>
      obtain ⟨k, rfl, hk, hB⟩ := hrel
      clear HM HXY HC0 HR0
      have HM := Lib.hid hB
      clear hB
      by_cases h0 : k < ps.length
      · obtain ⟨x1, x2⟩ := corn_fin (s := -1) HFP.out.1 HFP.out.2.1 hk
        obtain ⟨x3, x4⟩ := corn_fin (s := 1) HFP.out.1 HFP.out.2.1 hk
        have pk := HFP.out.1 _ (getD_mem h0)
        have q0 := HR.out k h0 wr HM.out.m.b
        have HS : Hid (cornK (-1) fX ps (k + 1) = farB (-1) (cornK (-1) fX ps k) (ps.getD k (0, 0)).1 ∧ cornK (-1) fY ps (k + 1) = farB (-1) (cornK (-1) fY ps k) (ps.getD k (0, 0)).2 ∧ cornK 1 fX ps (k + 1) = farB 1 (cornK 1 fX ps k) (ps.getD k (0, 0)).1 ∧ cornK 1 fY ps (k + 1) = farB 1 (cornK 1 fY ps k) (ps.getD k (0, 0)).2) := Lib.hid ⟨cornK_succ _ _ _ _, cornK_succ _ _ _ _, cornK_succ _ _ _ _, cornK_succ _ _ _ _⟩
        generalize cornK (-1) fX ps k = l1 at *
        generalize cornK (-1) fY ps k = l2 at *
        generalize cornK 1 fX ps k = h1 at *
        generalize cornK 1 fY ps k = h2 at *
        generalize ps.getD k (0, 0) = q at *
        have H1 := Lib.hid (fun wz => lFarther l1 q.1 (-1) wz x1 pk.1)
        have H2 := Lib.hid (fun wz => lFarther l2 q.2 (-1) wz x2 pk.2)
        have H3 := Lib.hid (fun wz => lFarther h1 q.1 1 wz x3 pk.1)
        have H4 := Lib.hid (fun wz => lFarther h2 q.2 1 wz x4 pk.2)
        generalize farB (-1) l1 q.1 = m1 at *
        generalize farB (-1) l2 q.2 = m2 at *
        generalize farB 1 h1 q.1 = m3 at *
        generalize farB 1 h2 q.2 = m4 at *
        obtain ⟨q1, q2⟩ := q0
        have hi : (k : Int) < (ps.length : Int) := by omega
        have hw1 : wrap64 ((k : Int) + 1) = ((k + 1 : Nat) : Int) := by have := HFP.out.2.2; clear HM HS H1 H2 H3 H4 HR HFP; unfold wrap64; omega
        have W1 := Lib.hid hw1
        have HK0 := Lib.hid h0
        clear hw1 x1 x2 x3 x4 pk
        go_upto_region 8 with (fail)
        have hm : Bx w.heap.size w (World.alloc wr (.cells #[.int .u64 q.1, .int .u64 q.2] 38)) _ _ := (HM.out.alloc (.cells #[.int .u64 q.1, .int .u64 q.2] 38 (0, 0)))
        go_upto_region 9 with (fail)
        generalize (World.alloc wr _) = v4 at *
        clear HM 
        (try simp only [List.nil_append, List.cons_append, World.size_alloc, List.set_cons_zero, List.set_cons_succ, putsC, pB, pC, pD] at hm)
        have HM := Lib.hid hm
        clear hm
        clear q1 q2
        refine start_ (n := 14) (S := fun w' => w'.heap[g1_6]? = v4.heap[g1_6]? ∧ w'.heap[wr.heap.size]? = v4.heap[wr.heap.size]?) (ds := [11, 13]) (bt 14 0) (by kernel_rfl) rfl rfl ((And.intro rfl rfl)) (fun hHeld => ?_)
        refine pv_ 0 33 ?_
        refine ld_ 1 34 ?_ hHeld ?_ ?_; rotate_left
        · rintro w' hs
          obtain ⟨q0, q1, q2, q3⟩ := rw2 ((hs.1).trans (HM.out.at 2 rfl))
          clear hs
          go_simp; with_reducible rfl
        refine pv_ 2 35 ?_
        refine ld_ 3 36 ?_ hHeld ?_ ?_; rotate_left
        · rintro w' hs
          obtain ⟨q0, q1, q2, q3⟩ := rw2 ((hs.2).trans (HM.out.at 4 rfl))
          clear hs
          go_simp; with_reducible rfl
        refine pv_ 5 38 ?_
        refine ld_ 6 39 ?_ hHeld ?_ ?_; rotate_left
        · rintro w' hs
          obtain ⟨q0, q1, q2, q3⟩ := rw2 ((hs.1).trans (HM.out.at 2 rfl))
          clear hs
          go_simp; with_reducible rfl
        refine pv_ 7 40 ?_
        refine ld_ 8 41 ?_ hHeld ?_ ?_; rotate_left
        · rintro w' hs
          obtain ⟨q0, q1, q2, q3⟩ := rw2 ((hs.2).trans (HM.out.at 4 rfl))
          clear hs
          go_simp; with_reducible rfl
        refine join_ (σ := Unit) 3 (bt 14 2047) (fun s => [(37, .int .u64 m1), (42, .int .u64 m2), (43, .pointer (some ⟨g1_6, 0, none⟩))]) (fun s w' => Bx v4.heap.size v4 w' [] []) ?_ ?_
        rotate_left
        · intro J0
          refine join_ (σ := Unit) 4 (bt 14 1535) (fun s => [(37, .int .u64 m1), (43, .pointer (some ⟨g1_6, 0, none⟩))]) (fun s w' => Bx v4.heap.size v4 w' [] []) ?_ ?_
          · rintro _ wj hF
            try dsimp only at hF ⊢
            refine nx ?_
            refine o1 9 42 (bt 14 2047) ?_
            · intro K hK
              refine go_ Tryz.func86 #[.int .u64 l2, .int .u64 q.2, .int .i64 (-1)] ?_
              with_reducible refine (H2.out wj).mono ?_
              rintro e w' ⟨rfl, hb⟩
              refine ⟨_, rfl, ?_⟩
              have hN := hF.keep hb
              refine hK.out _ _ (by exact (And.intro (hN.m.b.block _ (HM.out.lt 2 rfl)) (hN.m.b.block _ (HM.out.lt 4 rfl)))) (fun hHeld => ?_)
              exact nj (J0 () _ hN)
          intro J1
          refine join_ (σ := Unit) 5 (bt 14 511) (fun s => [(37, .int .u64 m1)]) (fun s w' => Bx v4.heap.size v4 w' [] []) ?_ ?_
          · rintro _ wj hF
            try dsimp only at hF ⊢
            refine nx ?_
            refine pv_ 10 43 ?_
            exact nj (J1 () _ hF)
          intro J2
          refine join_ (σ := Unit) 6 (bt 14 495) (fun s => []) (fun s w' => Bx v4.heap.size v4 w' [] []) ?_ ?_
          · rintro _ wj hF
            try dsimp only at hF ⊢
            refine nx ?_
            refine o1 4 37 (bt 14 511) ?_
            · intro K hK
              refine go_ Tryz.func86 #[.int .u64 l1, .int .u64 q.1, .int .i64 (-1)] ?_
              with_reducible refine (H1.out wj).mono ?_
              rintro e w' ⟨rfl, hb⟩
              refine ⟨_, rfl, ?_⟩
              have hN := hF.keep hb
              refine hK.out _ _ (by exact (And.intro (hN.m.b.block _ (HM.out.lt 2 rfl)) (hN.m.b.block _ (HM.out.lt 4 rfl)))) (fun hHeld => ?_)
              exact nj (J2 () _ hN)
          intro J3
          exact nj (J3 () _ ((Bx.start _).drew))
        rintro _ wj hF
        try dsimp only at hF ⊢
        refine nx ?_
        have hG := HM.out.join hF
        (try simp only [List.nil_append, List.cons_append, World.size_alloc, List.set_cons_zero, List.set_cons_succ, putsC, pB, pC, pD] at hG)
        have hHeld := And.intro True.intro (And.intro (hF.m.b.block _ (HM.out.lt 2 rfl)) (hF.m.b.block _ (HM.out.lt 4 rfl)))
        clear HM hF
        refine last_ (i := 11) (N := none) (bt 14 4095) rfl rfl (by kernel_rfl) (by decide) (fun K hK => ?_)
        obtain ⟨y0, y1, y2, y3⟩ := rw2 (hG.at 2 rfl)
        refine skip_ (w1 := puts (g1_6) [(0, .int .u64 m1)] wj) (by rfl) rfl ?_ ?_
        · go_simp
          rfl
        refine hK.out _ _ ?_
        clear hK K y0 y1 y2 y3
        replace hG := hG.puts 2 rfl (by decide) [(0, .int .u64 m1)]
        (try simp only [List.nil_append, List.cons_append, World.size_alloc, List.set_cons_zero, List.set_cons_succ, putsC, pB, pC, pD] at hG)
        generalize puts (g1_6) _ wj = wk6 at *
        refine pv_ 12 44 ?_
        refine last_ (i := 13) (N := none) (bt 14 16383) rfl rfl (by kernel_rfl) (by decide) (fun K hK => ?_)
        obtain ⟨y0, y1, y2, y3⟩ := rw2 (hG.at 2 rfl)
        refine skip_ (w1 := puts (g1_6) [(1, .int .u64 m2)] wk6) (by rfl) rfl ?_ ?_
        · go_simp
          rfl
        refine hK.out _ _ ?_
        clear hK K y0 y1 y2 y3
        replace hG := hG.puts 2 rfl (by decide) [(1, .int .u64 m2)]
        (try simp only [List.nil_append, List.cons_append, World.size_alloc, List.set_cons_zero, List.set_cons_succ, putsC, pB, pC, pD] at hG)
        generalize puts (g1_6) _ wk6 = wk7 at *
        refine done_ (by kernel_rfl) ?_
        (try simp only [List.nil_append, List.cons_append, World.size_alloc, List.set_cons_zero, List.set_cons_succ, putsC, pB, pC, pD] at hG)
        have HM := Lib.hid hG
        clear hG hHeld
        go_upto_region 10 with (fail)
        refine start_ (n := 14) (S := fun w' => w'.heap[g1_7]? = wk7.heap[g1_7]? ∧ w'.heap[wr.heap.size]? = wk7.heap[wr.heap.size]?) (ds := [11, 13]) (bt 14 0) (by kernel_rfl) rfl rfl ((And.intro rfl rfl)) (fun hHeld => ?_)
        refine pv_ 0 45 ?_
        refine ld_ 1 46 ?_ hHeld ?_ ?_; rotate_left
        · rintro w' hs
          obtain ⟨q0, q1, q2, q3⟩ := rw2 ((hs.1).trans (HM.out.at 3 rfl))
          clear hs
          go_simp; with_reducible rfl
        refine pv_ 2 47 ?_
        refine ld_ 3 48 ?_ hHeld ?_ ?_; rotate_left
        · rintro w' hs
          obtain ⟨q0, q1, q2, q3⟩ := rw2 ((hs.2).trans (HM.out.at 4 rfl))
          clear hs
          go_simp; with_reducible rfl
        refine pv_ 5 50 ?_
        refine ld_ 6 51 ?_ hHeld ?_ ?_; rotate_left
        · rintro w' hs
          obtain ⟨q0, q1, q2, q3⟩ := rw2 ((hs.1).trans (HM.out.at 3 rfl))
          clear hs
          go_simp; with_reducible rfl
        refine pv_ 7 52 ?_
        refine ld_ 8 53 ?_ hHeld ?_ ?_; rotate_left
        · rintro w' hs
          obtain ⟨q0, q1, q2, q3⟩ := rw2 ((hs.2).trans (HM.out.at 4 rfl))
          clear hs
          go_simp; with_reducible rfl
        refine join_ (σ := Unit) 3 (bt 14 2047) (fun s => [(49, .int .u64 m3), (54, .int .u64 m4), (55, .pointer (some ⟨g1_7, 0, none⟩))]) (fun s w' => Bx wk7.heap.size wk7 w' [] []) ?_ ?_
        rotate_left
        · intro J0
          refine join_ (σ := Unit) 4 (bt 14 1535) (fun s => [(49, .int .u64 m3), (55, .pointer (some ⟨g1_7, 0, none⟩))]) (fun s w' => Bx wk7.heap.size wk7 w' [] []) ?_ ?_
          · rintro _ wj hF
            try dsimp only at hF ⊢
            refine nx ?_
            refine o1 9 54 (bt 14 2047) ?_
            · intro K hK
              refine go_ Tryz.func86 #[.int .u64 h2, .int .u64 q.2, .int .i64 1] ?_
              with_reducible refine (H4.out wj).mono ?_
              rintro e w' ⟨rfl, hb⟩
              refine ⟨_, rfl, ?_⟩
              have hN := hF.keep hb
              refine hK.out _ _ (by exact (And.intro (hN.m.b.block _ (HM.out.lt 3 rfl)) (hN.m.b.block _ (HM.out.lt 4 rfl)))) (fun hHeld => ?_)
              exact nj (J0 () _ hN)
          intro J1
          refine join_ (σ := Unit) 5 (bt 14 511) (fun s => [(49, .int .u64 m3)]) (fun s w' => Bx wk7.heap.size wk7 w' [] []) ?_ ?_
          · rintro _ wj hF
            try dsimp only at hF ⊢
            refine nx ?_
            refine pv_ 10 55 ?_
            exact nj (J1 () _ hF)
          intro J2
          refine join_ (σ := Unit) 6 (bt 14 495) (fun s => []) (fun s w' => Bx wk7.heap.size wk7 w' [] []) ?_ ?_
          · rintro _ wj hF
            try dsimp only at hF ⊢
            refine nx ?_
            refine o1 4 49 (bt 14 511) ?_
            · intro K hK
              refine go_ Tryz.func86 #[.int .u64 h1, .int .u64 q.1, .int .i64 1] ?_
              with_reducible refine (H3.out wj).mono ?_
              rintro e w' ⟨rfl, hb⟩
              refine ⟨_, rfl, ?_⟩
              have hN := hF.keep hb
              refine hK.out _ _ (by exact (And.intro (hN.m.b.block _ (HM.out.lt 3 rfl)) (hN.m.b.block _ (HM.out.lt 4 rfl)))) (fun hHeld => ?_)
              exact nj (J2 () _ hN)
          intro J3
          exact nj (J3 () _ ((Bx.start _).drew))
        rintro _ wj hF
        try dsimp only at hF ⊢
        refine nx ?_
        have hG := HM.out.join hF
        (try simp only [List.nil_append, List.cons_append, World.size_alloc, List.set_cons_zero, List.set_cons_succ, putsC, pB, pC, pD] at hG)
        have hHeld := And.intro True.intro (And.intro (hF.m.b.block _ (HM.out.lt 3 rfl)) (hF.m.b.block _ (HM.out.lt 4 rfl)))
        clear HM hF
        refine last_ (i := 11) (N := none) (bt 14 4095) rfl rfl (by kernel_rfl) (by decide) (fun K hK => ?_)
        obtain ⟨y0, y1, y2, y3⟩ := rw2 (hG.at 3 rfl)
        refine skip_ (w1 := puts (g1_7) [(0, .int .u64 m3)] wj) (by rfl) rfl ?_ ?_
        · go_simp
          rfl
        refine hK.out _ _ ?_
        clear hK K y0 y1 y2 y3
        replace hG := hG.puts 3 rfl (by decide) [(0, .int .u64 m3)]
        (try simp only [List.nil_append, List.cons_append, World.size_alloc, List.set_cons_zero, List.set_cons_succ, putsC, pB, pC, pD] at hG)
        generalize puts (g1_7) _ wj = wk9 at *
        refine pv_ 12 56 ?_
        refine last_ (i := 13) (N := none) (bt 14 16383) rfl rfl (by kernel_rfl) (by decide) (fun K hK => ?_)
        obtain ⟨y0, y1, y2, y3⟩ := rw2 (hG.at 3 rfl)
        refine skip_ (w1 := puts (g1_7) [(1, .int .u64 m4)] wk9) (by rfl) rfl ?_ ?_
        · go_simp
          rfl
        refine hK.out _ _ ?_
        clear hK K y0 y1 y2 y3
        replace hG := hG.puts 3 rfl (by decide) [(1, .int .u64 m4)]
        (try simp only [List.nil_append, List.cons_append, World.size_alloc, List.set_cons_zero, List.set_cons_succ, putsC, pB, pC, pD] at hG)
        generalize puts (g1_7) _ wk9 = wk10 at *
        refine done_ (by kernel_rfl) ?_
        (try simp only [List.nil_append, List.cons_append, World.size_alloc, List.set_cons_zero, List.set_cons_succ, putsC, pB, pC, pD] at hG)
        have HM := Lib.hid hG
        clear hG hHeld
        ((try dsimp only); repeat (first | go_values | go_skip | go_guarded | go_step | go_upon))
        refine ⟨⟨k + 1, vint W1.out, HK0.out, ?_⟩, ?_⟩
        · rw [HS.out.1, HS.out.2.1, HS.out.2.2.1, HS.out.2.2.2]; exact HM.out.pre ⟨_, rfl⟩ ⟨_, rfl⟩
        · show ps.length - (intOf (.int .i64 (wrap64 ((k : Int) + 1)))).toNat < ps.length - (intOf (.int .i64 (k : Int))).toNat
          rw [W1.out]
          have hk0 := HK0.out
          clear HM HS H1 H2 H3 H4 HR HFP W1 HK0
          show ps.length - (((k + 1 : Nat) : Int)).toNat < ps.length - ((k : Int)).toNat
          omega
      · obtain rfl : k = ps.length := by omega
        obtain ⟨l1, el1⟩ : ∃ x, cornK (-1) fX ps ps.length = x := ⟨_, rfl⟩
        obtain ⟨l2, el2⟩ : ∃ x, cornK (-1) fY ps ps.length = x := ⟨_, rfl⟩
        obtain ⟨h1, eh1⟩ : ∃ x, cornK 1 fX ps ps.length = x := ⟨_, rfl⟩
        obtain ⟨h2, eh2⟩ : ∃ x, cornK 1 fY ps ps.length = x := ⟨_, rfl⟩
        rw [el1, el2, eh1, eh2] at HM
        have HE := Lib.hid (And.intro el1 (And.intro el2 (And.intro eh1 eh2)))
        clear el1 el2 eh1 eh2
        go_upto_region 12 with (fail)
        refine start_ (n := 5) (S := fun w' => w'.heap[g1_6]? = wr.heap[g1_6]? ∧ w'.heap[g1_7]? = wr.heap[g1_7]?) (ds := [3]) (bt 5 0) (by kernel_rfl) rfl rfl ((And.intro rfl rfl)) (fun hHeld => ?_)
        refine ld_ 0 58 ?_ hHeld ?_ ?_; rotate_left
        · rintro w' hs
          obtain ⟨q0, q1, q2, q3⟩ := rw2 ((hs.1).trans (HM.out.at 2 rfl))
          clear hs
          go_simp; with_reducible rfl
        refine ld_ 1 59 ?_ hHeld ?_ ?_; rotate_left
        · rintro w' hs
          obtain ⟨q0, q1, q2, q3⟩ := rw2 ((hs.2).trans (HM.out.at 3 rfl))
          clear hs
          go_simp; with_reducible rfl
        have hG := HM.out.drew
        replace hHeld := And.intro True.intro hHeld
        clear HM
        generalize hwg : wr.drew = wj at *
        clear hwg
        refine one_ (i := 2) (N := none) (bt 5 7) rfl rfl (by kernel_rfl) (by decide) (fun K hK => ?_)
        obtain ⟨y0, y1, y2, y3⟩ := rw2 (hG.at 0 rfl)
        refine skip_ (w1 := puts (w.heap.size) [(0, .int .u64 l1), (1, .int .u64 l2)] wj) (by rfl) rfl ?_ ?_
        · go_simp
          rfl
        replace hHeld := And.intro True.intro (And.intro ((puts_other (hG.ne 2 0 rfl rfl (by decide)) [(0, .int .u64 l1), (1, .int .u64 l2)] wj).trans hHeld.2.1) ((puts_other (hG.ne 3 0 rfl rfl (by decide)) [(0, .int .u64 l1), (1, .int .u64 l2)] wj).trans hHeld.2.2))
        refine hK.out _ _ (by exact hHeld.2) (fun _ => ?_)
        clear hK K y0 y1 y2 y3
        replace hG := hG.puts 0 rfl (by decide) [(0, .int .u64 l1), (1, .int .u64 l2)]
        (try simp only [List.nil_append, List.cons_append, World.size_alloc, List.set_cons_zero, List.set_cons_succ, putsC, pB, pC, pD] at hG)
        generalize puts (w.heap.size) _ wj = wk4 at *
        refine last_ (i := 3) (N := none) (bt 5 15) rfl rfl (by kernel_rfl) (by decide) (fun K hK => ?_)
        obtain ⟨y0, y1, y2, y3⟩ := rw2 (hG.at 1 rfl)
        refine skip_ (w1 := puts (w.heap.size + 1) [(0, .int .u64 h1), (1, .int .u64 h2)] wk4) (by rfl) rfl ?_ ?_
        · go_simp
          rfl
        refine hK.out _ _ ?_
        clear hK K y0 y1 y2 y3
        replace hG := hG.puts 1 rfl (by decide) [(0, .int .u64 h1), (1, .int .u64 h2)]
        (try simp only [List.nil_append, List.cons_append, World.size_alloc, List.set_cons_zero, List.set_cons_succ, putsC, pB, pC, pD] at hG)
        generalize puts (w.heap.size + 1) _ wk4 = wk5 at *
        refine pv_ 4 4 ?_
        refine done_ (by kernel_rfl) ?_
        (try simp only [List.nil_append, List.cons_append, World.size_alloc, List.set_cons_zero, List.set_cons_succ, putsC, pB, pC, pD] at hG)
        have HM := Lib.hid hG
        clear hG hHeld
        ((try dsimp only); repeat (first | go_values | go_skip | go_guarded | go_step | go_upon))
        refine bodyPost_ret (results_rows2 rfl _ _ (w.heap.size) (w.heap.size + 1) _ _ _ _ _ _ _ _ rfl rfl (HM.out.at 0 rfl) (HM.out.at 1 rfl) rfl rfl rfl rfl rfl rfl) rfl ?_
        exact ⟨by rw [HE.out.1, HE.out.2.1, HE.out.2.2.1, HE.out.2.2.2]; rfl, HM.out.m.b⟩
  · have hf2 : finB ps = false := by rwa [Bool.not_eq_true] at hf
    have e0 : boxE ps = 220 := by unfold boxE; rw [if_neg h0, if_neg hf]
    have e1 : lowP ps = (0, 0) := by unfold lowP; rw [e0]; rfl
    have e2 : highP ps = (0, 0) := by unfold highP; rw [e0]; rfl
    rw [e0, e1, e2]
    rw [hf2] at HFi
    clear hp hu e0 e1 e2 hf hf2
    have hmm : Bx w.heap.size w ((w.alloc (.cells #[.int .u64 0, .int .u64 0] 38)).alloc (.cells #[.int .u64 0, .int .u64 0] 38)) _ _ := ((Bx.start w).alloc (.cells #[.int .u64 0, .int .u64 0] 38 (0, 0))).alloc (.cells #[.int .u64 0, .int .u64 0] 38 (0, 0))
    go_enter Tryz.func29, Tryz.ntmps29
    go_upto_region 1 with (fail)
    generalize (World.alloc (World.alloc w _) _) = v at *
    (try simp only [List.nil_append, List.cons_append, World.size_alloc, List.set_cons_zero, List.set_cons_succ, putsC, pB, pC, pD] at hmm)
    have HM := Lib.hid hmm
    clear hmm
    ((try dsimp only); repeat (first | go_values | go_skip | go_guarded | go_step | go_upon))
    refine (HFi.out _ HM.out.m.b).mono ?_
    rintro e w1 ⟨rfl, hb⟩
    have hm := HM.out.keep hb
    clear HM hb HFi
    have HM := Lib.hid hm
    clear hm
    obtain ⟨c0_0, c0_1, c0_2, c0_3⟩ := rw2 (HM.out.at 0 rfl)
    obtain ⟨c1_0, c1_1, c1_2, c1_3⟩ := rw2 (HM.out.at 1 rfl)
    ((try dsimp only); repeat (first | go_values | go_skip | go_guarded | go_step | go_upon))
    refine bodyPost_ret (results_rows2 rfl _ _ (w.heap.size) (w.heap.size + 1) _ _ _ _ _ _ _ _ rfl rfl (((HM.out.puts 0 rfl (by decide) [(0, .int .u64 0), (1, .int .u64 0)]).puts 1 rfl (by decide) [(0, .int .u64 0), (1, .int .u64 0)]).at 0 rfl) (((HM.out.puts 0 rfl (by decide) [(0, .int .u64 0), (1, .int .u64 0)]).puts 1 rfl (by decide) [(0, .int .u64 0), (1, .int .u64 0)]).at 1 rfl) rfl rfl rfl rfl rfl rfl) rfl ?_
    exact ⟨rfl, ((HM.out.puts 0 rfl (by decide) [(0, .int .u64 0), (1, .int .u64 0)]).puts 1 rfl (by decide) [(0, .int .u64 0), (1, .int .u64 0)]).m.b⟩
end Go.Proofs.YtfpofmifmapmfaaGreatDoor

namespace Go.Proofs.YtfpofmifmapmfaaGreatDoor
open Go.RowKit Go.Proofs.YtfpofmifmapmfaaGreatDoorW.PrintLast
set_option linter.unusedVariables false
set_option linter.unusedSimpArgs false
def rotL (m : List Pt) (j : Nat) : List Pt := m.drop j ++ m.take j
theorem closedL_of {m : List Pt} (h : m ≠ []) : closedL m = m ++ [m.getD 0 (0, 0)] := by
  unfold closedL
  rw [if_neg (by intro e; exact h (List.eq_nil_of_length_eq_zero e))]
theorem closedL_cons (x : Pt) (l : List Pt) : closedL (x :: l) = x :: l ++ [x] := by rw [closedL_of (by simp)]; rfl
theorem rot_edges (m : List Pt) (j : Nat) : ∃ a b : List Ed, pthE (closedL m) = a ++ b ∧ pthE (closedL (rotL m j)) = b ++ a := by
  unfold rotL
  rcases e1 : m.take j with _ | ⟨x, a⟩
  · have hm : m.drop j = m := by
      rcases (List.take_eq_nil_iff).1 e1 with h | h
      · subst h; rfl
      · subst h; simp
    exact ⟨[], pthE (closedL m), rfl, by rw [hm, List.append_nil, List.append_nil]⟩
  · rcases e2 : m.drop j with _ | ⟨y, b⟩
    · have hm : m.take j = m := by
        have := List.take_append_drop j m
        rw [e2, List.append_nil] at this; exact this
      rw [e1] at hm
      rw [List.nil_append, hm]
      exact ⟨[], pthE (closedL m), rfl, by rw [List.append_nil]⟩
    · have hm : m = x :: a ++ y :: b := by rw [← List.take_append_drop j m, e1, e2]
      refine ⟨pthE (x :: a ++ [y]), pthE (y :: b ++ [x]), ?_, ?_⟩
      · rw [hm, List.cons_append, closedL_cons]
        have := pthE_app (x :: a) y (b ++ [x])
        simp only [List.cons_append, List.append_assoc] at this ⊢
        exact this
      · rw [List.cons_append, closedL_cons]
        have := pthE_app (y :: b) x (a ++ [y])
        simp only [List.cons_append, List.append_assoc] at this ⊢
        exact this
theorem rot_sumE (f : Ed → Rat) (m : List Pt) (j : Nat) : sumE f (pthE (closedL (rotL m j))) = sumE f (pthE (closedL m)) := by
  obtain ⟨a, b, h1, h2⟩ := rot_edges m j
  rw [h1, h2, sumE_app, sumE_app, Rat.add_comm]
theorem rot_sumI (f : Ed → Int) (m : List Pt) (j : Nat) : sumI f (pthE (closedL (rotL m j))) = sumI f (pthE (closedL m)) := by
  obtain ⟨a, b, h1, h2⟩ := rot_edges m j
  rw [h1, h2, sumI_app, sumI_app, Int.add_comm]
theorem rot_any (f : Ed → Bool) (m : List Pt) (j : Nat) : (pthE (closedL (rotL m j))).any f = (pthE (closedL m)).any f := by
  obtain ⟨a, b, h1, h2⟩ := rot_edges m j
  rw [h1, h2, List.any_append, List.any_append, Bool.or_comm]
theorem pthE_snoc : ∀ (l : List Pt) (x y : Pt), pthE (l ++ [x, y]) = pthE (l ++ [x]) ++ [(x, y)]
  | l, x, y => pthE_app l x [y]
theorem pthE_rev : ∀ l : List Pt, pthE l.reverse = ((pthE l).map (fun e => (e.2, e.1))).reverse
  | [] => rfl
  | [_] => rfl
  | x :: y :: l => by
    have ih := pthE_rev (y :: l)
    rw [pthE, List.map_cons, (show ∀ (a : Ed) (t : List Ed), (a :: t).reverse = t.reverse ++ [a] from fun a t => List.reverse_cons), ← ih]
    have e1 : (x :: y :: l).reverse = l.reverse ++ [y, x] := by simp
    have e2 : (y :: l).reverse = l.reverse ++ [y] := by simp
    rw [e1, e2]
    exact pthE_snoc _ _ _
theorem closed_rev (m : List Pt) : ∃ j, closedL (rotL m.reverse j) = (closedL m).reverse := by
  rcases m with _ | ⟨x, l⟩
  · exact ⟨0, rfl⟩
  · refine ⟨l.length, ?_⟩
    unfold rotL
    rw [List.reverse_cons, show List.drop l.length (l.reverse ++ [x]) = [x] by rw [show l.length = l.reverse.length from (List.length_reverse).symm, List.drop_left], show List.take l.length (l.reverse ++ [x]) = l.reverse by rw [show l.length = l.reverse.length from (List.length_reverse).symm, List.take_left]]
    show closedL (x :: l.reverse) = _
    rw [closedL_cons, closedL_cons]
    simp
theorem sumE_neg {f : Ed → Rat} (hf : ∀ x y, f (x, y) + f (y, x) = 0) : ∀ es : List Ed, sumE f ((es.map (fun e => (e.2, e.1))).reverse) = -sumE f es
  | [] => by simp [sumE]
  | (x, y) :: es => by
    have := hf x y
    have h0 : sumE f [] = 0 := rfl
    rw [List.map_cons, List.reverse_cons, sumE_app, sumE_neg hf es, sumE_cons, sumE_cons, h0]
    show -sumE f es + (f (y, x) + 0) = -(f (x, y) + sumE f es)
    grind
theorem sumI_neg {f : Ed → Int} (hf : ∀ x y, f (x, y) + f (y, x) = 0) : ∀ es : List Ed, sumI f ((es.map (fun e => (e.2, e.1))).reverse) = -sumI f es
  | [] => by simp [sumI]
  | (x, y) :: es => by
    have := hf x y
    have h0 : sumI f [] = 0 := rfl
    rw [List.map_cons, List.reverse_cons, sumI_app, sumI_neg hf es, sumI_cons, sumI_cons, h0]
    show -sumI f es + (f (y, x) + 0) = -(f (x, y) + sumI f es)
    omega
theorem any_rev {f : Ed → Bool} (hf : ∀ x y, f (y, x) = f (x, y)) (es : List Ed) : ((es.map (fun e => (e.2, e.1))).reverse).any f = es.any f := by
  rw [List.any_reverse, List.any_map]
  congr 1
  funext e
  exact hf e.1 e.2
def bgnL (l : List Pt) (j : Nat) (back : Bool) : List Pt := rotL (if back then l.reverse else l) j
theorem bgn_sumE {f : Ed → Rat} (hf : ∀ x y, f (x, y) + f (y, x) = 0) (l : List Pt) (j : Nat) (back : Bool) : sumE f (pthE (closedL (bgnL l j back))) = if back then -sumE f (pthE (closedL l)) else sumE f (pthE (closedL l)) := by
  unfold bgnL
  rw [rot_sumE]
  cases back
  · rfl
  · obtain ⟨i, hi⟩ := closed_rev l
    rw [if_pos rfl, if_pos rfl, ← rot_sumE f l.reverse i, hi, pthE_rev, sumE_neg hf]
theorem bgn_sumI {f : Ed → Int} (hf : ∀ x y, f (x, y) + f (y, x) = 0) (l : List Pt) (j : Nat) (back : Bool) : sumI f (pthE (closedL (bgnL l j back))) = if back then -sumI f (pthE (closedL l)) else sumI f (pthE (closedL l)) := by
  unfold bgnL
  rw [rot_sumI]
  cases back
  · rfl
  · obtain ⟨i, hi⟩ := closed_rev l
    rw [if_pos rfl, if_pos rfl, ← rot_sumI f l.reverse i, hi, pthE_rev, sumI_neg hf]
theorem bgn_any {f : Ed → Bool} (hf : ∀ x y, f (y, x) = f (x, y)) (l : List Pt) (j : Nat) (back : Bool) : (pthE (closedL (bgnL l j back))).any f = (pthE (closedL l)).any f := by
  unfold bgnL
  rw [rot_any]
  cases back
  · rfl
  · obtain ⟨i, hi⟩ := closed_rev l
    rw [if_pos rfl, ← rot_any f l.reverse i, hi, pthE_rev, any_rev hf]
end Go.Proofs.YtfpofmifmapmfaaGreatDoor

namespace Go.Proofs.YtfpofmifmapmfaaGreatDoor
open Go.RowKit Go.Proofs.YtfpofmifmapmfaaGreatDoorW.PrintLast
set_option linter.unusedVariables false
set_option linter.unusedSimpArgs false
def keyP (b : Int) : Int := if 9223372036854775808 ≤ b then 18446744073709551615 - b else b + 9223372036854775808
theorem keyP_inj {a b : Int} (ha : U64 a) (hb : U64 b) (h : keyP a = keyP b) : a = b := by
  unfold keyP at h
  unfold U64 at ha hb
  split at h <;> split at h <;> omega
def cmpPt (a b : Pt) : Int := if keyP a.1 ≠ keyP b.1 then (if keyP a.1 < keyP b.1 then -1 else 1) else if keyP a.2 ≠ keyP b.2 then (if keyP a.2 < keyP b.2 then -1 else 1) else 0
theorem cmpPt_cases (a b : Pt) : cmpPt a b = -1 ∨ cmpPt a b = 0 ∨ cmpPt a b = 1 := by
  unfold cmpPt; repeat' split
  all_goals simp
theorem cmpPt_swap (a b : Pt) : cmpPt a b = -cmpPt b a := by
  unfold cmpPt
  repeat' split
  all_goals omega
theorem cmpPt_eq {a b : Pt} (ha : PtU a) (hb : PtU b) : cmpPt a b = 0 ↔ a = b := by
  constructor
  · intro h
    have h1 : keyP a.1 = keyP b.1 ∧ keyP a.2 = keyP b.2 := by
      unfold cmpPt at h
      repeat' split at h
      all_goals omega
    exact Prod.ext (keyP_inj ha.1 hb.1 h1.1) (keyP_inj ha.2 hb.2 h1.2)
  · rintro rfl
    unfold cmpPt; simp
theorem cmpPt_trans {a b c : Pt} (h : cmpPt a b ≤ 0) (k : cmpPt b c ≤ 0) : cmpPt a c ≤ 0 ∧ (cmpPt a c = 0 → cmpPt a b = 0 ∧ cmpPt b c = 0) := by
  unfold cmpPt at *
  repeat' split at h
  all_goals (repeat' split at k)
  all_goals (repeat' split)
  all_goals (first | omega | (constructor <;> omega))
def cmpL : List Pt → List Pt → Int
  | [], [] => 0
  | [], _ :: _ => -1
  | _ :: _, [] => 1
  | x :: a, y :: b => if cmpPt x y ≠ 0 then cmpPt x y else cmpL a b
theorem cmpL_swap : ∀ a b : List Pt, cmpL a b = -cmpL b a
  | [], [] => rfl
  | [], _ :: _ => rfl
  | _ :: _, [] => rfl
  | x :: a, y :: b => by
    have ih := cmpL_swap a b
    have e := cmpPt_swap x y
    unfold cmpL
    split <;> split <;> omega
theorem cmpL_cases : ∀ a b : List Pt, cmpL a b = -1 ∨ cmpL a b = 0 ∨ cmpL a b = 1
  | [], [] => by simp [cmpL]
  | [], _ :: _ => by simp [cmpL]
  | _ :: _, [] => by simp [cmpL]
  | x :: a, y :: b => by
    unfold cmpL
    split
    · exact cmpPt_cases x y
    · exact cmpL_cases a b
theorem cmpL_eq : ∀ {a b : List Pt}, (∀ q ∈ a, PtU q) → (∀ q ∈ b, PtU q) → (cmpL a b = 0 ↔ a = b)
  | [], [], _, _ => by simp [cmpL]
  | [], _ :: _, _, _ => by simp [cmpL]
  | _ :: _, [], _, _ => by simp [cmpL]
  | x :: a, y :: b, ha, hb => by
    have ih := cmpL_eq (a := a) (b := b) (fun q hq => ha q (List.mem_cons_of_mem _ hq)) (fun q hq => hb q (List.mem_cons_of_mem _ hq))
    have e := cmpPt_eq (ha x List.mem_cons_self) (hb y List.mem_cons_self)
    unfold cmpL
    split
    · rename_i h
      constructor
      · intro h'; exact absurd h' h
      · intro h'; cases h'; exact absurd (e.2 rfl) h
    · rename_i h
      have h' : cmpPt x y = 0 := by omega
      have hx := e.1 h'
      rw [ih, hx]; simp
theorem cmpL_trans : ∀ {a b c : List Pt}, cmpL a b ≤ 0 → cmpL b c ≤ 0 → cmpL a c ≤ 0
  | [], [], c, _, k => k
  | [], _ :: _, [], _, k => by simp [cmpL] at k
  | [], _ :: _, _ :: _, _, _ => by simp [cmpL]
  | _ :: _, [], _, h, _ => by simp [cmpL] at h
  | _ :: _, _ :: _, [], _, k => by simp [cmpL] at k
  | x :: a, y :: b, z :: c, h, k => by
    unfold cmpL at h k ⊢
    have t : cmpPt x y ≤ 0 → cmpPt y z ≤ 0 → cmpPt x z ≤ 0 ∧ (cmpPt x z = 0 → cmpPt x y = 0 ∧ cmpPt y z = 0) := cmpPt_trans
    split at h <;> split at k
    · have := t h k; split <;> omega
    · have := t h (by omega); split <;> omega
    · have := t (by omega) k; split <;> omega
    · have := t (by omega) (by omega)
      split
      · exact this.1
      · exact cmpL_trans h k
theorem cmpL_self (a : List Pt) : cmpL a a = 0 := by
  have := cmpL_swap a a; omega
def lessL (b : Option (List Pt)) (m : List Pt) : Option (List Pt) := match b with | none => some m | some x => if cmpL m x < 0 then some m else some x
def leastK (l : List Pt) (b : Option (List Pt)) (k : Nat) : Option (List Pt) := (List.range k).foldl (fun b i => lessL b (rotL l i)) b
theorem leastK_succ (l : List Pt) (b : Option (List Pt)) (k : Nat) : leastK l b (k + 1) = lessL (leastK l b k) (rotL l k) := by
  unfold leastK; rw [List.range_succ, List.foldl_append]; rfl
def LeastOf (S : List Pt → Prop) (m : List Pt) : Prop := S m ∧ ∀ x, S x → cmpL m x ≤ 0
theorem LeastOf.unique {S : List Pt → Prop} {m m' : List Pt} (h : LeastOf S m) (h' : LeastOf S m') (hu : ∀ x, S x → ∀ q ∈ x, PtU q) : m = m' := by
  have a := h.2 _ h'.1
  have b := h'.2 _ h.1
  have c := cmpL_swap m m'
  exact (cmpL_eq (hu _ h.1) (hu _ h'.1)).1 (by omega)
theorem LeastOf.congr {S T : List Pt → Prop} {m : List Pt} (h : LeastOf S m) (e : ∀ x, S x ↔ T x) : LeastOf T m := ⟨(e _).1 h.1, fun x hx => h.2 x ((e x).2 hx)⟩
theorem lessL_least {S : List Pt → Prop} {b : List Pt} (h : LeastOf S b) (m : List Pt) : ∃ x, lessL (some b) m = some x ∧ LeastOf (fun y => S y ∨ y = m) x := by
  unfold lessL
  dsimp only
  split
  · rename_i hl
    refine ⟨m, rfl, Or.inr rfl, fun x hx => ?_⟩
    rcases hx with hx | rfl
    · exact cmpL_trans (Int.le_of_lt hl) (h.2 x hx)
    · rw [cmpL_self]; decide
  · rename_i hl
    refine ⟨b, rfl, Or.inl h.1, fun x hx => ?_⟩
    rcases hx with hx | rfl
    · exact h.2 x hx
    · have := cmpL_swap b x; omega
theorem leastK_none (l : List Pt) (k : Nat) (hk : 0 < k) : ∃ m, leastK l none k = some m ∧ LeastOf (fun y => ∃ i, i < k ∧ y = rotL l i) m := by
  induction k with
  | zero => omega
  | succ k ih =>
    rcases Nat.eq_zero_or_pos k with rfl | h
    · refine ⟨rotL l 0, rfl, ⟨0, by omega, rfl⟩, fun x hx => ?_⟩
      obtain ⟨i, hi, rfl⟩ := hx
      obtain rfl : i = 0 := by omega
      rw [cmpL_self]; decide
    · obtain ⟨m, e, hm⟩ := ih h
      obtain ⟨x, e', hx⟩ := lessL_least hm (rotL l k)
      refine ⟨x, by rw [leastK_succ, e, e'], hx.congr fun y => ?_⟩
      constructor
      · rintro (⟨i, hi, rfl⟩ | rfl)
        · exact ⟨i, by omega, rfl⟩
        · exact ⟨k, by omega, rfl⟩
      · rintro ⟨i, hi, rfl⟩
        rcases Nat.lt_or_ge i k with g | g
        · exact Or.inl ⟨i, g, rfl⟩
        · obtain rfl : i = k := by omega
          exact Or.inr rfl
theorem leastK_some {S : List Pt → Prop} (l : List Pt) {b : List Pt} (hb : LeastOf S b) (k : Nat) : ∃ m, leastK l (some b) k = some m ∧ LeastOf (fun y => S y ∨ ∃ i, i < k ∧ y = rotL l i) m := by
  induction k with
  | zero => exact ⟨b, rfl, hb.congr fun y => ⟨Or.inl, fun h => by rcases h with h | ⟨i, hi, _⟩; exact h; omega⟩⟩
  | succ k ih =>
    obtain ⟨m, e, hm⟩ := ih
    obtain ⟨x, e', hx⟩ := lessL_least hm (rotL l k)
    refine ⟨x, by rw [leastK_succ, e, e'], hx.congr fun y => ?_⟩
    constructor
    · rintro ((h | ⟨i, hi, rfl⟩) | rfl)
      · exact Or.inl h
      · exact Or.inr ⟨i, by omega, rfl⟩
      · exact Or.inr ⟨k, by omega, rfl⟩
    · rintro (h | ⟨i, hi, rfl⟩)
      · exact Or.inl (Or.inl h)
      rcases Nat.lt_or_ge i k with g | g
      · exact Or.inl (Or.inr ⟨i, g, rfl⟩)
      · obtain rfl : i = k := by omega
        exact Or.inr rfl
def Ways (l : List Pt) (y : List Pt) : Prop := ∃ i, i < l.length ∧ y = rotL l i
theorem rot_len (l : List Pt) (i : Nat) : (rotL l i).length = l.length := by unfold rotL; rw [List.length_append, List.length_drop, List.length_take]; omega
theorem rot_mem {l : List Pt} {i : Nat} {q : Pt} : q ∈ rotL l i ↔ q ∈ l := by
  unfold rotL
  rw [List.mem_append]
  constructor
  · rintro (h | h)
    · exact List.mem_of_mem_drop h
    · exact List.mem_of_mem_take h
  · intro h
    rw [← List.take_append_drop i l, List.mem_append] at h
    exact h.symm
theorem rot_at (l : List Pt) {i : Nat} (hi : i ≤ l.length) {t : Nat} (ht : t < l.length) : (rotL l i)[t]? = l[if i + t < l.length then i + t else i + t - l.length]? := by
  unfold rotL
  by_cases h : i + t < l.length
  · rw [if_pos h, List.getElem?_append_left (by rw [List.length_drop]; omega), List.getElem?_drop]
  · rw [if_neg h, List.getElem?_append_right (by rw [List.length_drop]; omega), List.length_drop, List.getElem?_take_of_lt (by omega)]
    congr 1; omega
theorem rot_rot (l : List Pt) {i j : Nat} (hi : i ≤ l.length) (hj : j ≤ l.length) : rotL (rotL l i) j = rotL l (if i + j ≤ l.length then i + j else i + j - l.length) := by
  apply List.ext_getElem?
  intro t
  rcases Nat.lt_or_ge t l.length with ht | ht
  · rw [rot_at (rotL l i) (by rw [rot_len]; exact hj) (by rw [rot_len]; exact ht), rot_len, rot_at l hi (by split <;> omega), rot_at l (by split <;> omega) ht]
    congr 1
    repeat' split
    all_goals omega
  · rw [List.getElem?_eq_none (by rw [rot_len, rot_len]; exact ht), List.getElem?_eq_none (by rw [rot_len]; exact ht)]
theorem rot_zero (l : List Pt) : rotL l 0 = l := by simp [rotL]
theorem rot_all (l : List Pt) : rotL l l.length = l := by simp [rotL]
theorem ways_rot {l : List Pt} {j : Nat} (hj : j ≤ l.length) (y : List Pt) : Ways (rotL l j) y ↔ Ways l y := by
  unfold Ways
  rw [rot_len]
  constructor
  · rintro ⟨i, hi, rfl⟩
    rw [rot_rot l hj (Nat.le_of_lt hi)]
    split
    · rename_i h
      rcases Nat.lt_or_ge (j + i) l.length with g | g
      · exact ⟨j + i, g, rfl⟩
      · rw [show j + i = l.length by omega, rot_all]; exact ⟨0, by omega, (rot_zero l).symm⟩
    · exact ⟨j + i - l.length, by omega, rfl⟩
  · rintro ⟨i, hi, rfl⟩
    rcases Nat.lt_or_ge i j with g | g
    · refine ⟨i + l.length - j, by omega, ?_⟩
      rw [rot_rot l hj (by omega)]
      split
      · rw [show j + (i + l.length - j) = i + l.length by omega] at *
        rename_i h
        obtain rfl : i = 0 := by omega
        rw [Nat.zero_add, rot_all, rot_zero]
      · congr 1; omega
    · refine ⟨i - j, by omega, ?_⟩
      rw [rot_rot l hj (by omega), if_pos (by omega)]
      congr 1; omega
theorem rot_reverse (l : List Pt) {j : Nat} (hj : j ≤ l.length) : (rotL l j).reverse = rotL l.reverse (l.length - j) := by
  unfold rotL
  rw [List.reverse_append, List.drop_reverse, List.take_reverse]
  rw [show l.length - (l.length - j) = j by omega]
theorem ways_reverse_rot {l : List Pt} {j : Nat} (hj : j ≤ l.length) (y : List Pt) : Ways (rotL l j).reverse y ↔ Ways l.reverse y := by
  rw [rot_reverse l hj]
  exact ways_rot (by rw [List.length_reverse]; omega) y
end Go.Proofs.YtfpofmifmapmfaaGreatDoor

namespace Go.Proofs.YtfpofmifmapmfaaGreatDoor
open Go.RowKit Go.Proofs.YtfpofmifmapmfaaGreatDoorW.PrintLast
set_option linter.unusedVariables false
set_option linter.unusedSimpArgs false
def turnP (l : List Pt) : Int := qsgn (sumE crs (pthE (closedL l)))
theorem turn_cases (l : List Pt) : turnP l = -1 ∨ turnP l = 0 ∨ turnP l = 1 := qsgn_cases _
theorem turn_bgn (l : List Pt) (j : Nat) (back : Bool) : turnP (bgnL l j back) = if back then -turnP l else turnP l := by
  unfold turnP
  rw [bgn_sumE crs_rev]
  cases back
  · rfl
  · rw [if_pos rfl, if_pos rfl, qsgn_turn]
theorem turn_rot (l : List Pt) (j : Nat) : turnP (rotL l j) = turnP l := turn_bgn l j false
theorem turn_rev (l : List Pt) (j : Nat) : turnP (rotL l.reverse j) = -turnP l := turn_bgn l j true
def StartOf (l : List Pt) (left : Bool) (t : Int) (y : List Pt) : Prop :=
  if t = 0 then Ways l y ∨ Ways l.reverse y else if decide (0 < t) = left then Ways l y else Ways l.reverse y
def bestL (l : List Pt) (left : Bool) (t : Int) : Option (List Pt) :=
  if t = 0 then leastK l.reverse (leastK l none l.length) l.reverse.length else if decide (0 < t) = left then leastK l none l.length else leastK l.reverse none l.reverse.length
theorem bestL_least {l : List Pt} (h : 0 < l.length) (left : Bool) (t : Int) : ∃ m, bestL l left t = some m ∧ LeastOf (StartOf l left t) m := by
  unfold bestL StartOf
  split
  · obtain ⟨m, e, hm⟩ := leastK_none l l.length h
    obtain ⟨x, e', hx⟩ := leastK_some l.reverse hm l.reverse.length
    exact ⟨x, by rw [e, e'], hx⟩
  · split
    · exact leastK_none l l.length h
    · exact leastK_none l.reverse l.reverse.length (by rw [List.length_reverse]; exact h)
theorem ways_len {l y : List Pt} (h : Ways l y) : y.length = l.length := by
  obtain ⟨i, _, rfl⟩ := h; exact rot_len l i
theorem start_in {l y : List Pt} {left : Bool} {t : Int} (h : StartOf l left t y) : Ways l y ∨ Ways l.reverse y := by
  unfold StartOf at h
  split at h
  · exact h
  · split at h
    · exact Or.inl h
    · exact Or.inr h
theorem start_len {l y : List Pt} {left : Bool} {t : Int} (h : StartOf l left t y) : y.length = l.length := by
  rcases start_in h with h | h
  · exact ways_len h
  · rw [ways_len h, List.length_reverse]
theorem start_mem {l y : List Pt} {left : Bool} {t : Int} (h : StartOf l left t y) (q : Pt) : q ∈ y ↔ q ∈ l := by
  rcases start_in h with ⟨i, _, rfl⟩ | ⟨i, _, rfl⟩
  · exact rot_mem
  · rw [rot_mem, List.mem_reverse]
theorem start_turn {l y : List Pt} {left : Bool} (h : StartOf l left (turnP l) y) : turnP y = if turnP l = 0 then 0 else if left then 1 else -1 := by
  have c := turn_cases l
  unfold StartOf at h
  split at h
  · rename_i h0
    rw [if_pos h0]
    rcases h with ⟨i, _, rfl⟩ | ⟨i, _, rfl⟩
    · rw [turn_rot]; exact h0
    · rw [turn_rev]; omega
  · rename_i h0
    rw [if_neg h0]
    split at h
    · rename_i hl
      obtain ⟨i, _, rfl⟩ := h
      rw [turn_rot, ← hl]
      by_cases g : 0 < turnP l
      · rw [decide_eq_true g, if_pos rfl]; omega
      · rw [decide_eq_false g]; simp only [Bool.false_eq_true, if_false]; omega
    · rename_i hl
      obtain ⟨i, _, rfl⟩ := h
      rw [turn_rev]
      by_cases g : 0 < turnP l
      · rw [decide_eq_true g] at hl
        have : left = false := by cases left; rfl; exact absurd rfl hl
        rw [this]; simp only [Bool.false_eq_true, if_false]; omega
      · rw [decide_eq_false g] at hl
        have : left = true := by cases left; exact absurd rfl hl; rfl
        rw [this, if_pos rfl]; omega
theorem start_head {l m : List Pt} {left : Bool} {t : Int} (h0 : 0 < l.length) (h : LeastOf (StartOf l left t) m) : ∀ q ∈ l, 0 ≤ cmpPt q (m.getD 0 (0, 0)) := by
  intro q hq
  have key : ∃ y, StartOf l left t y ∧ y.getD 0 (0, 0) = q ∧ 0 < y.length := by
    have way : ∀ r : List Pt, q ∈ r → ∃ y, Ways r y ∧ y.getD 0 (0, 0) = q ∧ 0 < y.length := by
      intro r hr
      obtain ⟨i, hi, e⟩ := List.getElem_of_mem hr
      refine ⟨rotL r i, ⟨i, hi, rfl⟩, ?_, by rw [rot_len]; omega⟩
      rw [List.getD_eq_getElem?_getD, rot_at r (Nat.le_of_lt hi) (by omega), if_pos (by omega), Nat.add_zero, List.getElem?_eq_getElem hi, e]; rfl
    unfold StartOf
    split
    · obtain ⟨y, a, b⟩ := way l hq; exact ⟨y, Or.inl a, b⟩
    · split
      · exact way l hq
      · exact way l.reverse (List.mem_reverse.2 hq)
  obtain ⟨y, hy, e, hl⟩ := key
  have hc := h.2 y hy
  have hm : m.length = l.length := start_len h.1
  have sw := cmpPt_swap q (m.getD 0 (0, 0))
  rcases m with _ | ⟨x, m⟩
  · simp at hm; omega
  rcases y with _ | ⟨z, y⟩
  · simp at hl
  have e' : z = q := e
  subst e'
  have sw' : cmpPt z x = -cmpPt x z := cmpPt_swap z x
  show 0 ≤ cmpPt z x
  unfold cmpL at hc
  split at hc <;> omega
theorem start_same {l : List Pt} {j : Nat} {back left : Bool} (hj : j ≤ l.length) (y : List Pt) : StartOf (bgnL l j back) left (turnP (bgnL l j back)) y ↔ StartOf l left (turnP l) y := by
  have c := turn_cases l
  rw [turn_bgn]
  cases back
  · have e : bgnL l j false = rotL l j := rfl
    rw [e]
    unfold StartOf
    simp only [Bool.false_eq_true, if_false]
    rw [ways_rot hj, ways_reverse_rot hj]
  · have e : bgnL l j true = rotL l.reverse j := rfl
    have hj' : j ≤ l.reverse.length := by rw [List.length_reverse]; exact hj
    rw [e]
    unfold StartOf
    simp only [if_true]
    rw [ways_rot hj', ways_reverse_rot hj', List.reverse_reverse]
    by_cases h0 : turnP l = 0
    · rw [if_pos h0, if_pos (by omega)]
      exact Or.comm
    · rw [if_neg h0, if_neg (by omega)]
      rcases c with c | c | c
      · rw [c, decide_eq_true (show (0 : Int) < - -1 by decide), decide_eq_false (show ¬ (0 : Int) < -1 by decide)]
        cases left <;> simp
      · exact absurd c h0
      · rw [c, decide_eq_false (show ¬ (0 : Int) < -1 by decide), decide_eq_true (show (0 : Int) < 1 by decide)]
        cases left <;> simp
theorem start_again {l m : List Pt} {left : Bool} (h : StartOf l left (turnP l) m) (y : List Pt) : StartOf m left (turnP m) y ↔ StartOf l left (turnP l) y := by
  have t := start_turn h
  unfold StartOf at h
  split at h
  · rename_i h0
    rw [if_pos h0] at t
    rw [t, h0]
    unfold StartOf
    rw [if_pos rfl, if_pos rfl]
    rcases h with ⟨i, hi, rfl⟩ | ⟨i, hi, rfl⟩
    · rw [ways_rot (Nat.le_of_lt hi), ways_reverse_rot (Nat.le_of_lt hi)]
    · rw [ways_rot (Nat.le_of_lt hi), ways_reverse_rot (Nat.le_of_lt hi), List.reverse_reverse]
      exact Or.comm
  · rename_i h0
    rw [if_neg h0] at t
    have t2 : turnP m ≠ 0 := by rw [t]; split <;> decide
    have t3 : decide (0 < turnP m) = left := by rw [t]; cases left <;> rfl
    unfold StartOf
    rw [if_neg t2, if_neg h0, if_pos t3]
    split at h
    · rename_i hl
      rw [if_pos hl]
      obtain ⟨i, hi, rfl⟩ := h
      exact ways_rot (Nat.le_of_lt hi) y
    · rename_i hl
      rw [if_neg hl]
      obtain ⟨i, hi, rfl⟩ := h
      exact ways_rot (Nat.le_of_lt hi) y
end Go.Proofs.YtfpofmifmapmfaaGreatDoor

namespace Go.Proofs.YtfpofmifmapmfaaGreatDoor
open Go.RowKit Go.Proofs.YtfpofmifmapmfaaGreatDoorW.PrintLast
set_option linter.unusedVariables false
set_option linter.unusedSimpArgs false
theorem nat_or_top (n : Nat) (h : n < 9223372036854775808) : n ||| 9223372036854775808 = n + 9223372036854775808 := by
  have := Nat.two_pow_add_eq_or_of_lt (i := 63) (b := n) (by simpa using h) 1
  rw [Nat.or_comm, Nat.add_comm]
  simpa using this.symm
theorem nat_xor_max (n : Nat) (h : n < 18446744073709551616) : 18446744073709551615 ^^^ n = 18446744073709551615 - n := by
  have e : (18446744073709551615 : Nat) = 2 ^ 64 - 1 := by decide
  apply Nat.eq_of_testBit_eq
  intro i
  rw [e, Nat.testBit_xor, Nat.testBit_two_pow_sub_one]
  have := Nat.testBit_two_pow_sub_succ (n := 64) (x := n) (by simpa using h) i
  rw [show 2 ^ 64 - 1 - n = 2 ^ 64 - (n + 1) by omega, this]
  by_cases hi : i < 64 <;> simp [hi]
  exact Nat.testBit_lt_two_pow (Nat.lt_of_lt_of_le (by simpa using h) (Nat.pow_le_pow_right (by decide) (by omega : 64 ≤ i)))
theorem xor_max {x : Int} (h0 : 0 ≤ x) (h1 : x ≤ 18446744073709551615) : bits .xor .u64 18446744073709551615 x = 18446744073709551615 - x := by
  obtain ⟨n, rfl⟩ := Int.eq_ofNat_of_zero_le h0
  rw [show (18446744073709551615 : Int) = ((18446744073709551615 : Nat) : Int) from rfl, bits_xor_u64_nat 18446744073709551615 n (by decide) (by omega), nat_xor_max n (by omega)]
  omega
theorem or_top {x : Int} (h0 : 0 ≤ x) (h1 : x < 9223372036854775808) : bits .or .u64 x 9223372036854775808 = x + 9223372036854775808 := by
  obtain ⟨n, rfl⟩ := Int.eq_ofNat_of_zero_le h0
  rw [show (9223372036854775808 : Int) = ((9223372036854775808 : Nat) : Int) from rfl, bits_or_u64_nat n 9223372036854775808 (by omega) (by decide), nat_or_top n (by omega)]
  rfl
set_option maxRecDepth 100000 in
theorem lKey24 (b : Int) (w : World) (h : U64 b) : Calls Tryz.prog 106 #[.int .u64 b] w fun e w' => e = .returned (.int .u64 (keyP b)) ∧ Below w.heap.size w w' := by
  obtain ⟨h0, h1⟩ := h
  have HK : Hid (keyP b = if 9223372036854775808 ≤ b then 18446744073709551615 - b else b + 9223372036854775808) := Lib.hid rfl
  generalize keyP b = r at *
  by_cases hb : 9223372036854775808 ≤ b
  · rw [if_pos hb] at HK
    have e : IntKind.u64.wrap (18446744073709551615 - b) = 18446744073709551615 - b := wrap_u64_in (by omega) (by omega)
    go_enter Tryz.func106, Tryz.ntmps106
    ((try dsimp only); repeat (first | go_values | go_skip | go_guarded | go_step | go_upon))
    go_ret
    refine ⟨?_, Below.refl _ _⟩
    rw [HK.out]
    first | rfl | (show Ending.returned (.int .u64 (IntKind.u64.wrap (18446744073709551615 - b))) = _; rw [e])
  · rw [if_neg hb] at HK
    have e : IntKind.u64.wrap (b + 9223372036854775808) = b + 9223372036854775808 := wrap_u64_in (by omega) (by omega)
    go_enter Tryz.func106, Tryz.ntmps106
    ((try dsimp only); repeat (first | go_values | go_skip | go_guarded | go_step | go_upon))
    go_ret
    refine ⟨?_, Below.refl _ _⟩
    rw [HK.out]
    first | rfl | (show Ending.returned (.int .u64 (IntKind.u64.wrap (b + 9223372036854775808))) = _; rw [e])
set_option maxRecDepth 100000 in
theorem lKey (b : Int) (w : World) (h : U64 b) : Calls Tryz.prog 214 #[.int .u64 b] w fun e w' => e = .returned (.int .u64 (keyP b)) ∧ Below w.heap.size w w' := by
  obtain ⟨h0, h1⟩ := h
  have HK : Hid (keyP b = if 9223372036854775808 ≤ b then 18446744073709551615 - b else b + 9223372036854775808) := Lib.hid rfl
  have ht := top_neg h0 h1
  generalize keyP b = r at *
  by_cases hb : 9223372036854775808 ≤ b
  · rw [if_pos hb] at HK
    unfold fneg at ht
    rw [decide_eq_true hb] at ht
    go_enter Tryz.func214, Tryz.ntmps214
    ((try dsimp only); repeat (first | go_values | go_skip | go_guarded | go_step | go_upon))
    go_ret
    refine ⟨?_, Below.refl _ _⟩
    rw [HK.out]
    show Ending.returned (.int .u64 (bits .xor .u64 18446744073709551615 b)) = _
    rw [xor_max h0 h1]
  · rw [if_neg hb] at HK
    unfold fneg at ht
    rw [decide_eq_false hb] at ht
    have e := or_top h0 (by omega)
    go_enter Tryz.func214, Tryz.ntmps214
    ((try dsimp only); repeat (first | go_values | go_skip | go_guarded | go_step | go_upon))
    go_ret
    refine ⟨?_, Below.refl _ _⟩
    rw [HK.out]
    first | rfl | (show Ending.returned (.int .u64 (bits .or .u64 b 9223372036854775808)) = _; rw [e])
end Go.Proofs.YtfpofmifmapmfaaGreatDoor

namespace Go.Proofs.YtfpofmifmapmfaaGreatDoor
open Go.RowKit Go.Proofs.YtfpofmifmapmfaaGreatDoorW.PrintLast
set_option linter.unusedVariables false
set_option linter.unusedSimpArgs false
set_option maxRecDepth 100000 in
set_option maxHeartbeats 3200000 in
theorem lCompare24 (a b : Pt) (w : World) (ua : PtU a) (ub : PtU b) : Calls Tryz.prog 46 #[.agg #[.int .u64 a.1, .int .u64 a.2], .agg #[.int .u64 b.1, .int .u64 b.2]] w fun e w' => e = .returned (.int .i64 (cmpPt a b)) ∧ Below w.heap.size w w' := by
  have HR : Hid (cmpPt a b = if keyP a.1 ≠ keyP b.1 then (if keyP a.1 < keyP b.1 then -1 else 1) else if keyP a.2 ≠ keyP b.2 then (if keyP a.2 < keyP b.2 then -1 else 1) else 0) := Lib.hid rfl
  have H1 := Lib.hid (fun wz => lKey24 a.1 wz ua.1)
  have H2 := Lib.hid (fun wz => lKey24 b.1 wz ub.1)
  have H3 := Lib.hid (fun wz => lKey24 a.2 wz ua.2)
  have H4 := Lib.hid (fun wz => lKey24 b.2 wz ub.2)
  have i1 : keyP a.1 = keyP b.1 ↔ a.1 = b.1 := ⟨keyP_inj ua.1 ub.1, fun h => by rw [h]⟩
  have i2 : keyP a.2 = keyP b.2 ↔ a.2 = b.2 := ⟨keyP_inj ua.2 ub.2, fun h => by rw [h]⟩
  generalize keyP a.1 = ka at *
  generalize keyP b.1 = kb at *
  generalize keyP a.2 = kc at *
  generalize keyP b.2 = kd at *
  generalize cmpPt a b = r at *
  clear ua ub
  have hmm : Bx w.heap.size w ((w.alloc (.cells #[.int .u64 a.1, .int .u64 a.2] 38)).alloc (.cells #[.int .u64 b.1, .int .u64 b.2] 38)) _ _ := ((Bx.start w).alloc (.cells #[.int .u64 a.1, .int .u64 a.2] 38 (0, 0))).alloc (.cells #[.int .u64 b.1, .int .u64 b.2] 38 (0, 0))
  by_cases hx : a.1 = b.1
  · have hxk := i1.2 hx
    have hxb : (a.1 == b.1) = true := beq_iff_eq.2 hx
    have hxn : (a.1 != b.1) = false := by rw [bne, hxb]; rfl
    clear hx
    by_cases hy : a.2 = b.2
    · have hyk := i2.2 hy
      have hyb : (a.2 == b.2) = true := beq_iff_eq.2 hy
      have hyn : (a.2 != b.2) = false := by rw [bne, hyb]; rfl
      rw [if_neg (by simp [hxk]), if_neg (by simp [hyk])] at HR
      clear hy hyk hxk i1 i2
      go_enter Tryz.func46, Tryz.ntmps46
      go_upto_region 1 with (fail)
      generalize (World.alloc (World.alloc w _) _) = v at *
      (try simp only [List.nil_append, List.cons_append, World.size_alloc, List.set_cons_zero, List.set_cons_succ, putsC, pB, pC, pD] at hmm)
      have HM := Lib.hid hmm
      clear hmm
      obtain ⟨c0_0, c0_1, c0_2, c0_3⟩ := rw2 (HM.out.at 0 rfl)
      obtain ⟨c1_0, c1_1, c1_2, c1_3⟩ := rw2 (HM.out.at 1 rfl)
      ((try dsimp only); repeat (first | go_values | go_skip | go_guarded | go_step | go_upon))
      go_ret
      exact ⟨by rw [HR.out]; first | rfl | (rfl; rfl), HM.out.m.b⟩
    · have hyk : kc ≠ kd := fun h => hy (i2.1 h)
      have hyb : (a.2 == b.2) = false := beq_eq_false_iff_ne.2 hy
      have hyn : (a.2 != b.2) = true := by rw [bne, hyb]; rfl
      rw [if_neg (by simp [hxk]), if_pos hyk] at HR
      clear hy hyk hxk i1 i2
      go_enter Tryz.func46, Tryz.ntmps46
      go_upto_region 1 with (fail)
      generalize (World.alloc (World.alloc w _) _) = v at *
      (try simp only [List.nil_append, List.cons_append, World.size_alloc, List.set_cons_zero, List.set_cons_succ, putsC, pB, pC, pD] at hmm)
      have HM := Lib.hid hmm
      clear hmm
      obtain ⟨c0_0, c0_1, c0_2, c0_3⟩ := rw2 (HM.out.at 0 rfl)
      obtain ⟨c1_0, c1_1, c1_2, c1_3⟩ := rw2 (HM.out.at 1 rfl)
      go_upto_region 6 with (fail)
      clear c0_0 c0_1 c0_2 c0_3 c1_0 c1_1 c1_2 c1_3
      refine start_ (n := 7) (S := fun w' => w'.heap[w.heap.size]? = v.heap[w.heap.size]? ∧ w'.heap[w.heap.size + 1]? = v.heap[w.heap.size + 1]?) (ds := []) (bt 7 0) (by kernel_rfl) rfl rfl ((And.intro rfl rfl)) (fun hHeld => ?_)
      refine pv_ 0 22 ?_
      refine ld_ 1 23 ?_ hHeld ?_ ?_; rotate_left
      · rintro w' hs
        obtain ⟨q0, q1, q2, q3⟩ := rw2 ((hs.1).trans (HM.out.at 0 rfl))
        clear hs
        go_simp; with_reducible rfl
      refine pv_ 3 25 ?_
      refine ld_ 4 26 ?_ hHeld ?_ ?_; rotate_left
      · rintro w' hs
        obtain ⟨q0, q1, q2, q3⟩ := rw2 ((hs.2).trans (HM.out.at 1 rfl))
        clear hs
        go_simp; with_reducible rfl
      refine join_ (σ := Unit) 0 (bt 7 127) (fun s => [(24, .int .u64 kc), (27, .int .u64 kd), (28, .bool (decide (kc < kd)))]) (fun s w' => Bx v.heap.size v w' [] []) ?_ ?_
      rotate_left
      · intro J0
        refine join_ (σ := Unit) 1 (bt 7 63) (fun s => [(24, .int .u64 kc), (27, .int .u64 kd)]) (fun s w' => Bx v.heap.size v w' [] []) ?_ ?_
        · rintro _ wj hF
          try dsimp only at hF ⊢
          refine nx ?_
          refine pv_ 6 28 ?_
          exact nj (J0 () _ hF)
        intro J1
        refine join_ (σ := Unit) 2 (bt 7 31) (fun s => [(24, .int .u64 kc)]) (fun s w' => Bx v.heap.size v w' [] []) ?_ ?_
        · rintro _ wj hF
          try dsimp only at hF ⊢
          refine nx ?_
          refine o1 5 27 (bt 7 63) ?_
          · intro K hK
            refine go_ Tryz.func106 #[.int .u64 b.2] ?_
            with_reducible refine (H4.out wj).mono ?_
            rintro e w' ⟨rfl, hb⟩
            refine ⟨_, rfl, ?_⟩
            have hN := hF.keep hb
            refine hK.out _ _ (by exact (And.intro (hN.m.b.block _ (HM.out.lt 0 rfl)) (hN.m.b.block _ (HM.out.lt 1 rfl)))) (fun hHeld => ?_)
            exact nj (J1 () _ hN)
        intro J2
        refine join_ (σ := Unit) 3 (bt 7 27) (fun s => []) (fun s w' => Bx v.heap.size v w' [] []) ?_ ?_
        · rintro _ wj hF
          try dsimp only at hF ⊢
          refine nx ?_
          refine o1 2 24 (bt 7 31) ?_
          · intro K hK
            refine go_ Tryz.func106 #[.int .u64 a.2] ?_
            with_reducible refine (H3.out wj).mono ?_
            rintro e w' ⟨rfl, hb⟩
            refine ⟨_, rfl, ?_⟩
            have hN := hF.keep hb
            refine hK.out _ _ (by exact (And.intro (hN.m.b.block _ (HM.out.lt 0 rfl)) (hN.m.b.block _ (HM.out.lt 1 rfl)))) (fun hHeld => ?_)
            exact nj (J2 () _ hN)
        intro J3
        exact nj (J3 () _ ((Bx.start _).drew))
      rintro _ wj hF
      try dsimp only at hF ⊢
      refine nx ?_
      have hG := HM.out.join hF
      (try simp only [List.nil_append, List.cons_append, World.size_alloc, List.set_cons_zero, List.set_cons_succ, putsC, pB, pC, pD] at hG)
      have hHeld := And.intro True.intro (And.intro (hF.m.b.block _ (HM.out.lt 0 rfl)) (hF.m.b.block _ (HM.out.lt 1 rfl)))
      clear HM hF
      refine done_ (by kernel_rfl) ?_
      (try simp only [List.nil_append, List.cons_append, World.size_alloc, List.set_cons_zero, List.set_cons_succ, putsC, pB, pC, pD] at hG)
      have HM := Lib.hid hG
      clear hG hHeld
      by_cases hlt : kc < kd
      · ((try dsimp only); repeat (first | go_values | go_skip | go_guarded | go_step | go_upon))
        go_ret
        exact ⟨by rw [HR.out]; first | rfl | (rw [if_pos hlt]; rfl), HM.out.m.b⟩
      · ((try dsimp only); repeat (first | go_values | go_skip | go_guarded | go_step | go_upon))
        go_ret
        exact ⟨by rw [HR.out]; first | rfl | (rw [if_neg hlt]; rfl), HM.out.m.b⟩
  · have hxk : ka ≠ kb := fun h => hx (i1.1 h)
    have hxb : (a.1 == b.1) = false := beq_eq_false_iff_ne.2 hx
    have hxn : (a.1 != b.1) = true := by rw [bne, hxb]; rfl
    rw [if_pos hxk] at HR
    clear hx hxk i1 i2
    go_enter Tryz.func46, Tryz.ntmps46
    go_upto_region 1 with (fail)
    generalize (World.alloc (World.alloc w _) _) = v at *
    (try simp only [List.nil_append, List.cons_append, World.size_alloc, List.set_cons_zero, List.set_cons_succ, putsC, pB, pC, pD] at hmm)
    have HM := Lib.hid hmm
    clear hmm
    obtain ⟨c0_0, c0_1, c0_2, c0_3⟩ := rw2 (HM.out.at 0 rfl)
    obtain ⟨c1_0, c1_1, c1_2, c1_3⟩ := rw2 (HM.out.at 1 rfl)
    go_upto_region 2 with (fail)
    clear c0_0 c0_1 c0_2 c0_3 c1_0 c1_1 c1_2 c1_3
    refine start_ (n := 7) (S := fun w' => w'.heap[w.heap.size]? = v.heap[w.heap.size]? ∧ w'.heap[w.heap.size + 1]? = v.heap[w.heap.size + 1]?) (ds := []) (bt 7 0) (by kernel_rfl) rfl rfl ((And.intro rfl rfl)) (fun hHeld => ?_)
    refine pv_ 0 10 ?_
    refine ld_ 1 11 ?_ hHeld ?_ ?_; rotate_left
    · rintro w' hs
      obtain ⟨q0, q1, q2, q3⟩ := rw2 ((hs.1).trans (HM.out.at 0 rfl))
      clear hs
      go_simp; with_reducible rfl
    refine pv_ 3 13 ?_
    refine ld_ 4 14 ?_ hHeld ?_ ?_; rotate_left
    · rintro w' hs
      obtain ⟨q0, q1, q2, q3⟩ := rw2 ((hs.2).trans (HM.out.at 1 rfl))
      clear hs
      go_simp; with_reducible rfl
    refine join_ (σ := Unit) 0 (bt 7 127) (fun s => [(12, .int .u64 ka), (15, .int .u64 kb), (16, .bool (decide (ka < kb)))]) (fun s w' => Bx v.heap.size v w' [] []) ?_ ?_
    rotate_left
    · intro J0
      refine join_ (σ := Unit) 1 (bt 7 63) (fun s => [(12, .int .u64 ka), (15, .int .u64 kb)]) (fun s w' => Bx v.heap.size v w' [] []) ?_ ?_
      · rintro _ wj hF
        try dsimp only at hF ⊢
        refine nx ?_
        refine pv_ 6 16 ?_
        exact nj (J0 () _ hF)
      intro J1
      refine join_ (σ := Unit) 2 (bt 7 31) (fun s => [(12, .int .u64 ka)]) (fun s w' => Bx v.heap.size v w' [] []) ?_ ?_
      · rintro _ wj hF
        try dsimp only at hF ⊢
        refine nx ?_
        refine o1 5 15 (bt 7 63) ?_
        · intro K hK
          refine go_ Tryz.func106 #[.int .u64 b.1] ?_
          with_reducible refine (H2.out wj).mono ?_
          rintro e w' ⟨rfl, hb⟩
          refine ⟨_, rfl, ?_⟩
          have hN := hF.keep hb
          refine hK.out _ _ (by exact (And.intro (hN.m.b.block _ (HM.out.lt 0 rfl)) (hN.m.b.block _ (HM.out.lt 1 rfl)))) (fun hHeld => ?_)
          exact nj (J1 () _ hN)
      intro J2
      refine join_ (σ := Unit) 3 (bt 7 27) (fun s => []) (fun s w' => Bx v.heap.size v w' [] []) ?_ ?_
      · rintro _ wj hF
        try dsimp only at hF ⊢
        refine nx ?_
        refine o1 2 12 (bt 7 31) ?_
        · intro K hK
          refine go_ Tryz.func106 #[.int .u64 a.1] ?_
          with_reducible refine (H1.out wj).mono ?_
          rintro e w' ⟨rfl, hb⟩
          refine ⟨_, rfl, ?_⟩
          have hN := hF.keep hb
          refine hK.out _ _ (by exact (And.intro (hN.m.b.block _ (HM.out.lt 0 rfl)) (hN.m.b.block _ (HM.out.lt 1 rfl)))) (fun hHeld => ?_)
          exact nj (J2 () _ hN)
      intro J3
      exact nj (J3 () _ ((Bx.start _).drew))
    rintro _ wj hF
    try dsimp only at hF ⊢
    refine nx ?_
    have hG := HM.out.join hF
    (try simp only [List.nil_append, List.cons_append, World.size_alloc, List.set_cons_zero, List.set_cons_succ, putsC, pB, pC, pD] at hG)
    have hHeld := And.intro True.intro (And.intro (hF.m.b.block _ (HM.out.lt 0 rfl)) (hF.m.b.block _ (HM.out.lt 1 rfl)))
    clear HM hF
    refine done_ (by kernel_rfl) ?_
    (try simp only [List.nil_append, List.cons_append, World.size_alloc, List.set_cons_zero, List.set_cons_succ, putsC, pB, pC, pD] at hG)
    have HM := Lib.hid hG
    clear hG hHeld
    by_cases hlt : ka < kb
    · ((try dsimp only); repeat (first | go_values | go_skip | go_guarded | go_step | go_upon))
      go_ret
      exact ⟨by rw [HR.out]; first | rfl | (rw [if_pos hlt]; rfl), HM.out.m.b⟩
    · ((try dsimp only); repeat (first | go_values | go_skip | go_guarded | go_step | go_upon))
      go_ret
      exact ⟨by rw [HR.out]; first | rfl | (rw [if_neg hlt]; rfl), HM.out.m.b⟩
set_option maxRecDepth 100000 in
theorem run_index_pairs (a b c d : Value) (w : World) : (Instr.index 263 (.agg #[a, b, c, d]) (.int .i64 0)).run Tryz.prog w = .ok (.agg #[a, b]) w ∧ (Instr.index 263 (.agg #[a, b, c, d]) (.int .i64 1)).run Tryz.prog w = .ok (.agg #[c, d]) w := ⟨by rfl, by rfl⟩
set_option maxRecDepth 100000 in
set_option maxHeartbeats 3200000 in
theorem lCompareR (a b : Pt) (w : World) (ua : PtU a) (ub : PtU b) : Calls Tryz.prog 162 #[.agg #[.int .u64 a.1, .int .u64 a.2], .agg #[.int .u64 b.1, .int .u64 b.2]] w fun e w' => e = .returned (.int .i64 (cmpPt a b)) ∧ Below w.heap.size w w' := by
  have HR : Hid (cmpPt a b = if keyP a.1 ≠ keyP b.1 then (if keyP a.1 < keyP b.1 then -1 else 1) else if keyP a.2 ≠ keyP b.2 then (if keyP a.2 < keyP b.2 then -1 else 1) else 0) := Lib.hid rfl
  have H1 := Lib.hid (fun wz => lKey a.1 wz ua.1)
  have H2 := Lib.hid (fun wz => lKey b.1 wz ub.1)
  have H3 := Lib.hid (fun wz => lKey a.2 wz ua.2)
  have H4 := Lib.hid (fun wz => lKey b.2 wz ub.2)
  have i1 : keyP a.1 = keyP b.1 ↔ a.1 = b.1 := ⟨keyP_inj ua.1 ub.1, fun h => by rw [h]⟩
  have i2 : keyP a.2 = keyP b.2 ↔ a.2 = b.2 := ⟨keyP_inj ua.2 ub.2, fun h => by rw [h]⟩
  generalize keyP a.1 = ka at *
  generalize keyP b.1 = kb at *
  generalize keyP a.2 = kc at *
  generalize keyP b.2 = kd at *
  generalize cmpPt a b = r at *
  clear ua ub
  clear i1 i2
  have hmm : Bx w.heap.size w ((w.alloc (.cells #[.int .u64 a.1, .int .u64 a.2] 38)).alloc (.cells #[.int .u64 b.1, .int .u64 b.2] 38)) _ _ := ((Bx.start w).alloc (.cells #[.int .u64 a.1, .int .u64 a.2] 38 (0, 0))).alloc (.cells #[.int .u64 b.1, .int .u64 b.2] 38 (0, 0))
  go_enter Tryz.func162, Tryz.ntmps162
  go_upto_region 1 with (fail)
  generalize (World.alloc (World.alloc w _) _) = v at *
  (try simp only [List.nil_append, List.cons_append, World.size_alloc, List.set_cons_zero, List.set_cons_succ, putsC, pB, pC, pD] at hmm)
  have HM := Lib.hid hmm
  clear hmm
  refine start_ (n := 16) (S := fun w' => w'.heap[w.heap.size]? = v.heap[w.heap.size]? ∧ w'.heap[w.heap.size + 1]? = v.heap[w.heap.size + 1]?) (ds := []) (bt 16 0) (by kernel_rfl) rfl rfl ((And.intro rfl rfl)) (fun hHeld => ?_)
  refine pv_ 0 7 ?_
  refine ld_ 1 8 ?_ hHeld ?_ ?_; rotate_left
  · rintro w' hs
    obtain ⟨q0, q1, q2, q3⟩ := rw2 ((hs.1).trans (HM.out.at 0 rfl))
    clear hs
    go_simp; with_reducible rfl
  refine pv_ 3 10 ?_
  refine ld_ 4 11 ?_ hHeld ?_ ?_; rotate_left
  · rintro w' hs
    obtain ⟨q0, q1, q2, q3⟩ := rw2 ((hs.2).trans (HM.out.at 1 rfl))
    clear hs
    go_simp; with_reducible rfl
  refine pv_ 7 14 ?_
  refine ld_ 8 15 ?_ hHeld ?_ ?_; rotate_left
  · rintro w' hs
    obtain ⟨q0, q1, q2, q3⟩ := rw2 ((hs.1).trans (HM.out.at 0 rfl))
    clear hs
    go_simp; with_reducible rfl
  refine pv_ 10 17 ?_
  refine ld_ 11 18 ?_ hHeld ?_ ?_; rotate_left
  · rintro w' hs
    obtain ⟨q0, q1, q2, q3⟩ := rw2 ((hs.2).trans (HM.out.at 1 rfl))
    clear hs
    go_simp; with_reducible rfl
  refine pv_ 15 22 ?_
  refine join_ (σ := Unit) 0 (bt 16 65535) (fun s => [(9, .int .u64 ka), (12, .int .u64 kb), (13, .agg #[.int .u64 ka, .int .u64 kb]), (16, .int .u64 kc), (19, .int .u64 kd), (20, .agg #[.int .u64 kc, .int .u64 kd]), (21, .agg #[.int .u64 ka, .int .u64 kb, .int .u64 kc, .int .u64 kd])]) (fun s w' => Bx v.heap.size v w' [] []) ?_ ?_
  rotate_left
  · intro J0
    refine join_ (σ := Unit) 1 (bt 16 49151) (fun s => [(9, .int .u64 ka), (12, .int .u64 kb), (13, .agg #[.int .u64 ka, .int .u64 kb]), (16, .int .u64 kc), (19, .int .u64 kd), (20, .agg #[.int .u64 kc, .int .u64 kd])]) (fun s w' => Bx v.heap.size v w' [] []) ?_ ?_
    · rintro _ wj hF
      try dsimp only at hF ⊢
      refine nx ?_
      refine pv_ 14 21 ?_
      exact nj (J0 () _ hF)
    intro J1
    refine join_ (σ := Unit) 2 (bt 16 40959) (fun s => [(9, .int .u64 ka), (12, .int .u64 kb), (13, .agg #[.int .u64 ka, .int .u64 kb]), (16, .int .u64 kc), (19, .int .u64 kd)]) (fun s w' => Bx v.heap.size v w' [] []) ?_ ?_
    · rintro _ wj hF
      try dsimp only at hF ⊢
      refine nx ?_
      refine pv_ 13 20 ?_
      exact nj (J1 () _ hF)
    intro J2
    refine join_ (σ := Unit) 3 (bt 16 36863) (fun s => [(9, .int .u64 ka), (12, .int .u64 kb), (13, .agg #[.int .u64 ka, .int .u64 kb]), (16, .int .u64 kc)]) (fun s w' => Bx v.heap.size v w' [] []) ?_ ?_
    · rintro _ wj hF
      try dsimp only at hF ⊢
      refine nx ?_
      refine o1 12 19 (bt 16 40959) ?_
      · intro K hK
        refine go_ Tryz.func214 #[.int .u64 b.2] ?_
        with_reducible refine (H4.out wj).mono ?_
        rintro e w' ⟨rfl, hb⟩
        refine ⟨_, rfl, ?_⟩
        have hN := hF.keep hb
        refine hK.out _ _ (by exact (And.intro (hN.m.b.block _ (HM.out.lt 0 rfl)) (hN.m.b.block _ (HM.out.lt 1 rfl)))) (fun hHeld => ?_)
        exact nj (J2 () _ hN)
    intro J3
    refine join_ (σ := Unit) 4 (bt 16 36351) (fun s => [(9, .int .u64 ka), (12, .int .u64 kb), (13, .agg #[.int .u64 ka, .int .u64 kb])]) (fun s w' => Bx v.heap.size v w' [] []) ?_ ?_
    · rintro _ wj hF
      try dsimp only at hF ⊢
      refine nx ?_
      refine o1 9 16 (bt 16 36863) ?_
      · intro K hK
        refine go_ Tryz.func214 #[.int .u64 a.2] ?_
        with_reducible refine (H3.out wj).mono ?_
        rintro e w' ⟨rfl, hb⟩
        refine ⟨_, rfl, ?_⟩
        have hN := hF.keep hb
        refine hK.out _ _ (by exact (And.intro (hN.m.b.block _ (HM.out.lt 0 rfl)) (hN.m.b.block _ (HM.out.lt 1 rfl)))) (fun hHeld => ?_)
        exact nj (J3 () _ hN)
    intro J4
    refine join_ (σ := Unit) 5 (bt 16 36287) (fun s => [(9, .int .u64 ka), (12, .int .u64 kb)]) (fun s w' => Bx v.heap.size v w' [] []) ?_ ?_
    · rintro _ wj hF
      try dsimp only at hF ⊢
      refine nx ?_
      refine pv_ 6 13 ?_
      exact nj (J4 () _ hF)
    intro J5
    refine join_ (σ := Unit) 6 (bt 16 36255) (fun s => [(9, .int .u64 ka)]) (fun s w' => Bx v.heap.size v w' [] []) ?_ ?_
    · rintro _ wj hF
      try dsimp only at hF ⊢
      refine nx ?_
      refine o1 5 12 (bt 16 36287) ?_
      · intro K hK
        refine go_ Tryz.func214 #[.int .u64 b.1] ?_
        with_reducible refine (H2.out wj).mono ?_
        rintro e w' ⟨rfl, hb⟩
        refine ⟨_, rfl, ?_⟩
        have hN := hF.keep hb
        refine hK.out _ _ (by exact (And.intro (hN.m.b.block _ (HM.out.lt 0 rfl)) (hN.m.b.block _ (HM.out.lt 1 rfl)))) (fun hHeld => ?_)
        exact nj (J5 () _ hN)
    intro J6
    refine join_ (σ := Unit) 7 (bt 16 36251) (fun s => []) (fun s w' => Bx v.heap.size v w' [] []) ?_ ?_
    · rintro _ wj hF
      try dsimp only at hF ⊢
      refine nx ?_
      refine o1 2 9 (bt 16 36255) ?_
      · intro K hK
        refine go_ Tryz.func214 #[.int .u64 a.1] ?_
        with_reducible refine (H1.out wj).mono ?_
        rintro e w' ⟨rfl, hb⟩
        refine ⟨_, rfl, ?_⟩
        have hN := hF.keep hb
        refine hK.out _ _ (by exact (And.intro (hN.m.b.block _ (HM.out.lt 0 rfl)) (hN.m.b.block _ (HM.out.lt 1 rfl)))) (fun hHeld => ?_)
        exact nj (J6 () _ hN)
    intro J7
    exact nj (J7 () _ ((Bx.start _).drew))
  rintro _ wj hF
  try dsimp only at hF ⊢
  refine nx ?_
  have hG := HM.out.join hF
  (try simp only [List.nil_append, List.cons_append, World.size_alloc, List.set_cons_zero, List.set_cons_succ, putsC, pB, pC, pD] at hG)
  have hHeld := And.intro True.intro (And.intro (hF.m.b.block _ (HM.out.lt 0 rfl)) (hF.m.b.block _ (HM.out.lt 1 rfl)))
  clear HM hF
  refine done_ (by kernel_rfl) ?_
  (try simp only [List.nil_append, List.cons_append, World.size_alloc, List.set_cons_zero, List.set_cons_succ, putsC, pB, pC, pD] at hG)
  have HM := Lib.hid hG
  clear hG hHeld
  have HB := Lib.hid HM.out.m.b
  clear HM
  ((try dsimp only); repeat (first | go_values | go_skip | go_guarded | go_step | go_upon))
  go_loopw [22] (fun i wr => ∃ k : Nat, i = .int .i64 (k : Int) ∧ k ≤ 2 ∧ (0 < k → ka = kb) ∧ (1 < k → kc = kd) ∧ Below w.heap.size w wr) (fun i _ => 2 - (intOf i).toNat)
  case atStart => exact ⟨0, rfl, by omega, fun h => absurd h (by omega), fun h => absurd h (by omega), HB.out⟩
  case round =>
    obtain ⟨k, rfl, hk, e1, e2, hB⟩ := hrel
    have HB := Lib.hid hB
    clear hB
    have HE := Lib.hid (And.intro e1 e2)
    clear e1 e2
    obtain ⟨x0, x1⟩ := run_index_pairs (.int .u64 ka) (.int .u64 kb) (.int .u64 kc) (.int .u64 kd) wr
    rcases k with _ | _ | _ | k
    · by_cases hq : ka = kb
      · have hqb : (ka == kb) = true := beq_iff_eq.2 hq
        have hqn : (ka != kb) = false := by rw [bne, hqb]; rfl
        have HQ := Lib.hid hq
        clear hq
        ((try dsimp only); repeat (first | go_values | go_skip | go_guarded | go_step | go_upon))
        exact ⟨⟨1, rfl, by omega, fun _ => HQ.out, fun h => absurd h (by omega), HB.out.alloc HB.out.size _⟩, by simp [intOf]⟩
      · have hqb : (ka == kb) = false := beq_eq_false_iff_ne.2 hq
        have hqn : (ka != kb) = true := by rw [bne, hqb]; rfl
        have HQ : Hid (ka ≠ kb) := Lib.hid hq
        clear hq
        rw [if_pos HQ.out] at HR
        by_cases hlt : ka < kb
        · ((try dsimp only); repeat (first | go_values | go_skip | go_guarded | go_step | go_upon))
          go_ret
          exact ⟨by rw [HR.out]; first | rfl | (rw [if_pos hlt]; rfl), HB.out.alloc HB.out.size _⟩
        · ((try dsimp only); repeat (first | go_values | go_skip | go_guarded | go_step | go_upon))
          go_ret
          exact ⟨by rw [HR.out]; first | rfl | (rw [if_neg hlt]; rfl), HB.out.alloc HB.out.size _⟩
    · by_cases hq : kc = kd
      · have hqb : (kc == kd) = true := beq_iff_eq.2 hq
        have hqn : (kc != kd) = false := by rw [bne, hqb]; rfl
        have HQ := Lib.hid hq
        clear hq
        ((try dsimp only); repeat (first | go_values | go_skip | go_guarded | go_step | go_upon))
        exact ⟨⟨2, rfl, by omega, fun _ => HE.out.1 (by omega), fun _ => HQ.out, HB.out.alloc HB.out.size _⟩, by simp [intOf]⟩
      · have hqb : (kc == kd) = false := beq_eq_false_iff_ne.2 hq
        have hqn : (kc != kd) = true := by rw [bne, hqb]; rfl
        have HQ : Hid (kc ≠ kd) := Lib.hid hq
        clear hq
        rw [if_neg (by simp [HE.out.1 (by omega)]), if_pos HQ.out] at HR
        by_cases hlt : kc < kd
        · ((try dsimp only); repeat (first | go_values | go_skip | go_guarded | go_step | go_upon))
          go_ret
          exact ⟨by rw [HR.out]; first | rfl | (rw [if_pos hlt]; rfl), HB.out.alloc HB.out.size _⟩
        · ((try dsimp only); repeat (first | go_values | go_skip | go_guarded | go_step | go_upon))
          go_ret
          exact ⟨by rw [HR.out]; first | rfl | (rw [if_neg hlt]; rfl), HB.out.alloc HB.out.size _⟩
    · ((try dsimp only); repeat (first | go_values | go_skip | go_guarded | go_step | go_upon))
      go_ret
      exact ⟨by rw [HR.out, if_neg (by simp [HE.out.1 (by omega)]), if_neg (by simp [HE.out.2 (by omega)])]; rfl, HB.out⟩
    · exfalso
      omega
end Go.Proofs.YtfpofmifmapmfaaGreatDoor

namespace Go.Proofs.YtfpofmifmapmfaaGreatDoor
open Go.RowKit Go.Proofs.YtfpofmifmapmfaaGreatDoorW.PrintLast
set_option linter.unusedVariables false
set_option linter.unusedSimpArgs false
theorem cmpL_drop : ∀ (k : Nat) (a b : List Pt), k ≤ a.length → k ≤ b.length → (∀ j, j < k → cmpPt (a.getD j (0, 0)) (b.getD j (0, 0)) = 0) → cmpL a b = cmpL (a.drop k) (b.drop k)
  | 0, _, _, _, _, _ => rfl
  | k + 1, [], b, h, _, _ => by simp at h
  | k + 1, _ :: _, [], _, h, _ => by simp at h
  | k + 1, x :: a, y :: b, h1, h2, h => by
    have h0 : cmpPt x y = 0 := h 0 (by omega)
    have ih := cmpL_drop k a b (by simpa using h1) (by simpa using h2) (fun j hj => h (j + 1) (by omega))
    rw [cmpL, if_neg (by omega), ih]; rfl
theorem cmpL_ne {k : Nat} {a b : List Pt} (ha : k < a.length) (hb : k < b.length) (h : ∀ j, j < k → cmpPt (a.getD j (0, 0)) (b.getD j (0, 0)) = 0) (hc : cmpPt (a.getD k (0, 0)) (b.getD k (0, 0)) ≠ 0) : cmpL a b = cmpPt (a.getD k (0, 0)) (b.getD k (0, 0)) := by
  rw [cmpL_drop k a b (by omega) (by omega) h, List.drop_eq_getElem_cons ha, List.drop_eq_getElem_cons hb]
  have e1 : a.getD k (0, 0) = a[k] := by rw [List.getD_eq_getElem?_getD, List.getElem?_eq_getElem ha]; rfl
  have e2 : b.getD k (0, 0) = b[k] := by rw [List.getD_eq_getElem?_getD, List.getElem?_eq_getElem hb]; rfl
  rw [e1, e2] at hc ⊢
  rw [cmpL, if_pos hc]
theorem cmpL_long {k : Nat} {a b : List Pt} (ha : k < a.length) (hb : k = b.length) (h : ∀ j, j < k → cmpPt (a.getD j (0, 0)) (b.getD j (0, 0)) = 0) : cmpL a b = 1 := by
  have hd : b.drop k = [] := List.drop_of_length_le (by omega)
  rw [cmpL_drop k a b (by omega) (by omega) h, List.drop_eq_getElem_cons ha, hd]; rfl
theorem cmpL_end {k : Nat} {a b : List Pt} (ha : k = a.length) (hb : k ≤ b.length) (h : ∀ j, j < k → cmpPt (a.getD j (0, 0)) (b.getD j (0, 0)) = 0) : cmpL a b = if a.length < b.length then -1 else 0 := by
  have hd : a.drop k = [] := List.drop_of_length_le (by omega)
  rw [cmpL_drop k a b (by omega) (by omega) h, hd]
  rcases Nat.lt_or_ge k b.length with g | g
  · rw [List.drop_eq_getElem_cons g, if_pos (by omega)]; rfl
  · have hd2 : b.drop k = [] := List.drop_of_length_le g
    rw [hd2, if_neg (by omega)]; rfl
set_option maxRecDepth 100000 in
set_option maxHeartbeats 3200000 in
theorem lCompareFunc (A B : Option Addr) (ca cb : Nat) (a b : List Pt) (w : World) (ha : PtsIn w A a) (hb : PtsIn w B b) (la : a.length ≤ 1000000) (lb : b.length ≤ 1000000) (ua : ∀ q ∈ a, PtU q) (ub : ∀ q ∈ b, PtU q) :
    Calls Tryz.prog 161 #[.slice A a.length ca, .slice B b.length cb, .func (.func 162) #[] #[]] w fun e w' => e = .returned (.int .i64 (cmpL a b)) ∧ Below w.heap.size w w' := by
  have HA := Lib.hid ha
  have HB := Lib.hid hb
  have HU := Lib.hid (And.intro ua ub)
  have HL := Lib.hid (And.intro la lb)
  clear ha hb ua ub la lb
  go_enter Tryz.func161, Tryz.ntmps161
  ((try dsimp only); repeat (first | go_values | go_skip | go_guarded | go_step | go_upon))
  go_loopw [13] (fun i wr => ∃ k : Nat, i = .int .i64 (k : Int) ∧ k ≤ a.length ∧ k ≤ b.length ∧ (∀ j, j < k → cmpPt (a.getD j (0, 0)) (b.getD j (0, 0)) = 0) ∧ Below w.heap.size w wr) (fun i _ => a.length - (intOf i).toNat)
  case atStart => exact ⟨0, rfl, Nat.zero_le _, Nat.zero_le _, fun j hj => absurd hj (by omega), Below.refl _ _⟩
  case round =>
    obtain ⟨k, rfl, hk, hkb, hF, hB⟩ := hrel
    have HK := Lib.hid hB
    have HF := Lib.hid hF
    clear hB hF
    by_cases h0 : k < a.length
    · obtain ⟨b1, o1, rfl, hb1, hpa⟩ := HA.out.open h0
      have hp1 := (HK.out.cell (p := ⟨b1, o1 + k * 2, none⟩) hb1).trans (hpa k h0).1
      have hp2 := (HK.out.cell (p := ⟨b1, o1 + k * 2 + 1, none⟩) hb1).trans (hpa k h0).2
      have hki : (k : Int) < (a.length : Int) := by omega
      have hsB := HK.out.size
      by_cases h1 : k < b.length
      · obtain ⟨b2, o2, rfl, hb2, hpb⟩ := HB.out.open h1
        have hb3 := HK.out.alloc hsB (.cells #[.int .u64 (a.getD k (0, 0)).1, .int .u64 (a.getD k (0, 0)).2] 38)
        have hq1 := (hb3.cell (p := ⟨b2, o2 + k * 2, none⟩) hb2).trans (hpb k h1).1
        have hq2 := (hb3.cell (p := ⟨b2, o2 + k * 2 + 1, none⟩) hb2).trans (hpb k h1).2
        have hkj : (k : Int) < (b.length : Int) := by omega
        have hkn : ¬ (b.length : Int) ≤ (k : Int) := by omega
        have hkn2 : ¬ b.length ≤ k := by omega
        have HNe := Lib.hid (cmpL_ne h0 h1 HF.out)
        have HEq : Hid (cmpPt (a.getD k (0, 0)) (b.getD k (0, 0)) = 0 → ∀ j, j < k + 1 → cmpPt (a.getD j (0, 0)) (b.getD j (0, 0)) = 0) := Lib.hid (fun h j hj => by
          rcases Nat.lt_or_ge j k with g | g
          · exact HF.out j g
          · obtain rfl : j = k := by omega
            exact h)
        have HC := Lib.hid (fun wz => lCompareR (a.getD k (0, 0)) (b.getD k (0, 0)) wz (HU.out.1 _ (getD_mem h0)) (HU.out.2 _ (getD_mem h1)))
        have HX := Lib.hid (And.intro h0 h1)
        have hw1 : wrap64 ((k : Int) + 1) = ((k + 1 : Nat) : Int) := by have := HL.out.1; clear HA HB HU HC HK HF HNe HEq; unfold wrap64; omega
        have W1 := Lib.hid hw1
        clear hpa hpb hw1 hb3
        generalize cmpPt (a.getD k (0, 0)) (b.getD k (0, 0)) = c at *
        generalize a.getD k (0, 0) = p at *
        generalize b.getD k (0, 0) = q at *
        ((try dsimp only); repeat (first | go_values | go_skip | go_guarded | go_step | go_upon))
        have hb4 := (HK.out.alloc hsB (.cells #[.int .u64 p.1, .int .u64 p.2] 38))
        have hb5 := hb4.alloc hb4.size (.cells #[.int .u64 q.1, .int .u64 q.2] 38)
        have HD := Lib.hid hb5
        clear hb4 hb5 hp1 hp2 hq1 hq2
        generalize World.alloc (World.alloc wr _) _ = w5 at *
        refine (HC.out _).mono ?_
        rintro e w6 ⟨rfl, hb6⟩
        have HE := Lib.hid (HD.out.trans (hb6.mono HD.out.size))
        clear hb6
        by_cases hc : c = 0
        · subst hc
          ((try dsimp only); repeat (first | go_values | go_skip | go_guarded | go_step | go_upon))
          refine ⟨⟨k + 1, vint W1.out, HX.out.1, HX.out.2, HEq.out rfl, HE.out⟩, ?_⟩
          show a.length - (intOf (.int .i64 (wrap64 ((k : Int) + 1)))).toNat < a.length - (intOf (.int .i64 (k : Int))).toNat
          rw [W1.out]
          have hk0 := HX.out.1
          clear HA HB HU HC HK HF HNe HEq HD HE HL W1 HX
          show a.length - (((k + 1 : Nat) : Int)).toNat < a.length - ((k : Int)).toNat
          omega
        · have hcb : (c == 0) = false := beq_eq_false_iff_ne.2 hc
          have hcn : (c != 0) = true := by rw [bne, hcb]; rfl
          ((try dsimp only); repeat (first | go_values | go_skip | go_guarded | go_step | go_upon))
          go_ret
          exact ⟨by rw [HNe.out hc]; rfl, HE.out⟩
      · have hkn : (b.length : Int) ≤ (k : Int) := by omega
        have hkn2 : b.length ≤ k := by omega
        have HR := Lib.hid (cmpL_long h0 (by omega) HF.out)
        ((try dsimp only); repeat (first | go_values | go_skip | go_guarded | go_step | go_upon))
        go_ret
        exact ⟨by rw [HR.out]; rfl, HK.out.alloc hsB _⟩
    · have hka : k = a.length := by omega
      have HR := Lib.hid (cmpL_end hka hkb HF.out)
      subst hka
      have hki : ¬ (a.length : Int) < (a.length : Int) := by omega
      by_cases h1 : a.length < b.length
      · rw [if_pos h1] at HR
        have h2 : (a.length : Int) < (b.length : Int) := by omega
        ((try dsimp only); repeat (first | go_values | go_skip | go_guarded | go_step | go_upon))
        go_ret
        exact ⟨by rw [HR.out]; rfl, HK.out⟩
      · rw [if_neg h1] at HR
        have h2 : ¬ (a.length : Int) < (b.length : Int) := by omega
        ((try dsimp only); repeat (first | go_values | go_skip | go_guarded | go_step | go_upon))
        go_ret
        exact ⟨by rw [HR.out]; rfl, HK.out⟩
set_option maxRecDepth 100000 in
set_option maxHeartbeats 3200000 in
theorem lCompareLines (A B : Option Addr) (ca cb : Nat) (a b : List Pt) (w : World) (ha : PtsIn w A a) (hb : PtsIn w B b) (la : a.length ≤ 1000000) (lb : b.length ≤ 1000000) (ua : ∀ q ∈ a, PtU q) (ub : ∀ q ∈ b, PtU q) :
    Calls Tryz.prog 77 #[.slice A a.length ca, .slice B b.length cb] w fun e w' => e = .returned (.int .i64 (cmpL a b)) ∧ Below w.heap.size w w' := by
  have HA := Lib.hid ha
  have HB := Lib.hid hb
  have HU := Lib.hid (And.intro ua ub)
  have HL := Lib.hid (And.intro la lb)
  clear ha hb ua ub la lb
  go_enter Tryz.func77, Tryz.ntmps77
  ((try dsimp only); repeat (first | go_values | go_skip | go_guarded | go_step | go_upon))
  go_loopw [5] (fun i wr => ∃ k : Nat, i = .int .i64 (k : Int) ∧ k ≤ a.length ∧ k ≤ b.length ∧ (∀ j, j < k → cmpPt (a.getD j (0, 0)) (b.getD j (0, 0)) = 0) ∧ Below w.heap.size w wr) (fun i _ => a.length - (intOf i).toNat)
  case atStart => exact ⟨0, rfl, Nat.zero_le _, Nat.zero_le _, fun j hj => absurd hj (by omega), Below.refl _ _⟩
  case round =>
    obtain ⟨k, rfl, hk, hkb, hF, hB⟩ := hrel
    have HK := Lib.hid hB
    have HF := Lib.hid hF
    clear hB hF
    by_cases h0 : k < a.length
    · have hki : (k : Int) < (a.length : Int) := by omega
      by_cases h1 : k < b.length
      · obtain ⟨b1, o1, rfl, hb1, hpa⟩ := HA.out.open h0
        obtain ⟨b2, o2, rfl, hb2, hpb⟩ := HB.out.open h1
        have HR : Hid (∀ wz : World, Below w.heap.size w wz → (wz.cell? ⟨b1, o1 + k * 2, none⟩ = some (.int .u64 (a.getD k (0, 0)).1) ∧ wz.cell? ⟨b1, o1 + k * 2 + 1, none⟩ = some (.int .u64 (a.getD k (0, 0)).2)) ∧ wz.cell? ⟨b2, o2 + k * 2, none⟩ = some (.int .u64 (b.getD k (0, 0)).1) ∧ wz.cell? ⟨b2, o2 + k * 2 + 1, none⟩ = some (.int .u64 (b.getD k (0, 0)).2)) :=
          Lib.hid (fun wz h => ⟨⟨(h.cell (p := ⟨b1, o1 + k * 2, none⟩) hb1).trans (hpa k h0).1, (h.cell (p := ⟨b1, o1 + k * 2 + 1, none⟩) hb1).trans (hpa k h0).2⟩, (h.cell (p := ⟨b2, o2 + k * 2, none⟩) hb2).trans (hpb k h1).1, (h.cell (p := ⟨b2, o2 + k * 2 + 1, none⟩) hb2).trans (hpb k h1).2⟩)
        have hkj : (k : Int) < (b.length : Int) := by omega
        have HNe := Lib.hid (cmpL_ne h0 h1 HF.out)
        have HEq : Hid (cmpPt (a.getD k (0, 0)) (b.getD k (0, 0)) = 0 → ∀ j, j < k + 1 → cmpPt (a.getD j (0, 0)) (b.getD j (0, 0)) = 0) := Lib.hid (fun h j hj => by
          rcases Nat.lt_or_ge j k with g | g
          · exact HF.out j g
          · obtain rfl : j = k := by omega
            exact h)
        have HC := Lib.hid (fun wz => lCompare24 (a.getD k (0, 0)) (b.getD k (0, 0)) wz (HU.out.1 _ (getD_mem h0)) (HU.out.2 _ (getD_mem h1)))
        have HX := Lib.hid (And.intro h0 h1)
        have hw1 : wrap64 ((k : Int) + 1) = ((k + 1 : Nat) : Int) := by have := HL.out.1; clear HA HB HU HC HK HF HNe HEq; unfold wrap64; omega
        have W1 := Lib.hid hw1
        clear hpa hpb hw1
        generalize cmpPt (a.getD k (0, 0)) (b.getD k (0, 0)) = c at *
        generalize a.getD k (0, 0) = p at *
        generalize b.getD k (0, 0) = q at *
        go_upto_region 4 with (fail)
        refine start_ (n := 10) (S := fun w' => Below wr.heap.size wr w') (ds := []) (bt 10 0) (by kernel_rfl) rfl rfl ((Below.refl _ _).drew) (fun hHeld => ?_)
        refine pv_ 0 19 ?_
        refine pv_ 1 20 ?_
        refine pv_ 2 21 ?_
        refine ld_ 3 22 ?_ hHeld ?_ ?_; rotate_left
        · rintro w' hs
          obtain ⟨⟨c0, c1⟩, c2, c3⟩ := HR.out _ (HK.out.trans (hs.mono HK.out.size))
          clear hs
          go_simp; with_reducible rfl
        refine pv_ 4 23 ?_
        refine pv_ 5 24 ?_
        refine pv_ 6 25 ?_
        refine ld_ 7 26 ?_ hHeld ?_ ?_; rotate_left
        · rintro w' hs
          obtain ⟨⟨c0, c1⟩, c2, c3⟩ := HR.out _ (HK.out.trans (hs.mono HK.out.size))
          clear hs
          go_simp; with_reducible rfl
        refine ca_ 8 27 Tryz.func46 #[.agg #[.int .u64 p.1, .int .u64 p.2], .agg #[.int .u64 q.1, .int .u64 q.2]] ?_
        with_reducible refine (HC.out _).mono ?_
        rintro e w' ⟨rfl, hb⟩
        refine ⟨_, rfl, (by exact hHeld.trans (hb.mono hHeld.size)), fun hHeld => ?_⟩
        refine nn ?_
        refine pv_ 9 6 ?_
        refine done_ (by kernel_rfl) ?_
        have HE := Lib.hid (HK.out.trans (hHeld.mono HK.out.size))
        clear hHeld hb
        by_cases hc : c = 0
        · subst hc
          ((try dsimp only); repeat (first | go_values | go_skip | go_guarded | go_step | go_upon))
          refine ⟨⟨k + 1, vint W1.out, HX.out.1, HX.out.2, HEq.out rfl, HE.out⟩, ?_⟩
          show a.length - (intOf (.int .i64 (wrap64 ((k : Int) + 1)))).toNat < a.length - (intOf (.int .i64 (k : Int))).toNat
          rw [W1.out]
          have hk0 := HX.out.1
          clear HA HB HU HC HK HF HNe HEq HR HE HL W1 HX
          show a.length - (((k + 1 : Nat) : Int)).toNat < a.length - ((k : Int)).toNat
          omega
        · have hcb : (c == 0) = false := beq_eq_false_iff_ne.2 hc
          have hcn : (c != 0) = true := by rw [bne, hcb]; rfl
          ((try dsimp only); repeat (first | go_values | go_skip | go_guarded | go_step | go_upon))
          go_ret
          exact ⟨by rw [HNe.out hc]; rfl, HE.out⟩
      · have hkn : ¬ (k : Int) < (b.length : Int) := by omega
        have hln : ¬ (a.length : Int) < (b.length : Int) := by omega
        have hlp : (b.length : Int) < (a.length : Int) := by omega
        have hln2 : ¬ a.length < b.length := by omega
        have hlp2 : b.length < a.length := by omega
        have HR := Lib.hid (cmpL_long h0 (by omega) HF.out)
        ((try dsimp only); repeat (first | go_values | go_skip | go_guarded | go_step | go_upon))
        go_ret
        exact ⟨by rw [HR.out]; rfl, HK.out⟩
    · have hka : k = a.length := by omega
      have HR := Lib.hid (cmpL_end hka hkb HF.out)
      subst hka
      have hki : ¬ (a.length : Int) < (a.length : Int) := by omega
      by_cases h1 : a.length < b.length
      · rw [if_pos h1] at HR
        have h2 : (a.length : Int) < (b.length : Int) := by omega
        ((try dsimp only); repeat (first | go_values | go_skip | go_guarded | go_step | go_upon))
        go_ret
        exact ⟨by rw [HR.out]; rfl, HK.out⟩
      · rw [if_neg h1] at HR
        have h2 : ¬ (a.length : Int) < (b.length : Int) := by omega
        have h3 : ¬ (b.length : Int) < (a.length : Int) := by omega
        have h4 : ¬ b.length < a.length := by omega
        ((try dsimp only); repeat (first | go_values | go_skip | go_guarded | go_step | go_upon))
        go_ret
        exact ⟨by rw [HR.out]; rfl, HK.out⟩
set_option maxRecDepth 100000 in
set_option maxHeartbeats 1600000 in
theorem lEq24 (A B : Option Addr) (ca cb : Nat) (a b : List Pt) (w : World) (ha : PtsIn w A a) (hb : PtsIn w B b) (la : a.length ≤ 1000000) (lb : b.length ≤ 1000000) (ua : ∀ q ∈ a, PtU q) (ub : ∀ q ∈ b, PtU q) :
    Calls Tryz.prog 24 #[.slice A a.length ca, .slice B b.length cb] w fun e w' => e = .returned (.bool (decide (a = b))) ∧ Below w.heap.size w w' := by
  have HC := Lib.hid (lCompareLines A B ca cb a b w ha hb la lb ua ub)
  have hE := cmpL_eq ua ub
  have HD : Hid (a.length ≠ b.length → decide (a = b) = false) := Lib.hid (fun h => decide_eq_false (fun e => h (by rw [e])))
  have HT : Hid (cmpL a b = 0 → decide (a = b) = true) := Lib.hid (fun h => decide_eq_true (hE.1 h))
  have HF : Hid (¬ cmpL a b = 0 → decide (a = b) = false) := Lib.hid (fun h => decide_eq_false (fun e => h (hE.2 e)))
  clear hE ha hb la lb ua ub
  generalize cmpL a b = c at *
  generalize hr : decide (a = b) = r at *
  clear hr
  by_cases h : a.length = b.length
  · have h1 : ((a.length : Int) == (b.length : Int)) = true := beq_iff_eq.2 (by omega)
    have h2 : (a.length == b.length) = true := beq_iff_eq.2 h
    clear h
    go_enter Tryz.func24, Tryz.ntmps24
    ((try dsimp only); repeat (first | go_values | go_skip | go_guarded | go_step | go_upon))
    refine HC.out.mono ?_
    rintro e w1 ⟨rfl, hb1⟩
    by_cases hc : c = 0
    · subst hc
      ((try dsimp only); repeat (first | go_values | go_skip | go_guarded | go_step | go_upon))
      go_ret
      exact ⟨by rw [HT.out rfl]; rfl, hb1⟩
    · have hcb : (c == 0) = false := beq_eq_false_iff_ne.2 hc
      ((try dsimp only); repeat (first | go_values | go_skip | go_guarded | go_step | go_upon))
      go_ret
      exact ⟨by rw [HF.out hc]; first | rfl | (show Ending.returned (.bool (c == 0)) = _; rw [hcb]), hb1⟩
  · have h1 : ((a.length : Int) == (b.length : Int)) = false := beq_eq_false_iff_ne.2 (by omega)
    have h2 : (a.length == b.length) = false := beq_eq_false_iff_ne.2 h
    go_enter Tryz.func24, Tryz.ntmps24
    ((try dsimp only); repeat (first | go_values | go_skip | go_guarded | go_step | go_upon))
    go_ret
    exact ⟨by rw [HD.out h]; rfl, Below.refl _ _⟩
end Go.Proofs.YtfpofmifmapmfaaGreatDoor

namespace Go.Proofs.YtfpofmifmapmfaaGreatDoor
open Go.RowKit Go.Proofs.YtfpofmifmapmfaaGreatDoorW.PrintLast
set_option linter.unusedVariables false
set_option linter.unusedSimpArgs false
theorem pts_take {w : World} {A : Option Addr} {l : List Pt} (h : PtsIn w A l) (i : Nat) : PtsIn w A (l.take i) := by
  rcases h with rfl | ⟨b, o, rfl, hb, hp⟩
  · left; simp
  · refine Or.inr ⟨b, o, rfl, hb, fun j hj => ?_⟩
    rw [List.length_take] at hj
    have := hp j (by omega)
    have e : (l.take i).getD j (0, 0) = l.getD j (0, 0) := by rw [List.getD_eq_getElem?_getD, List.getElem?_take_of_lt (by omega), ← List.getD_eq_getElem?_getD]
    rw [e]; exact this
theorem pts_drop {w : World} {b o : Nat} {l : List Pt} (hb : b < w.heap.size) (hp : PtsAt w b o l) (i : Nat) : PtsIn w (some ⟨b, o + i * 2, none⟩) (l.drop i) := by
  refine Or.inr ⟨b, o + i * 2, rfl, hb, fun j hj => ?_⟩
  rw [List.length_drop] at hj
  have := hp (i + j) (by omega)
  have e : (l.drop i).getD j (0, 0) = l.getD (i + j) (0, 0) := by rw [List.getD_eq_getElem?_getD, List.getElem?_drop, ← List.getD_eq_getElem?_getD]
  rw [e, show o + i * 2 + j * 2 = o + (i + j) * 2 by omega]; exact this
set_option maxRecDepth 100000 in
theorem run_eql_nil (w : World) : (binOp .eql 22 (.slice none 0 0) (.slice none 0 0)).run Tryz.prog w = .ok (.bool true) w := by rfl
set_option maxRecDepth 100000 in
theorem run_eql_some (a : Addr) (n c : Nat) (w : World) : (binOp .eql 22 (.slice (some a) n c) (.slice none 0 0)).run Tryz.prog w = .ok (.bool false) w := by rfl
def PtV (w : World) (v : Value) (m : List Pt) : Prop := ∃ b c, v = .slice (some ⟨b, 0, none⟩) m.length c ∧ PtsIn w (some ⟨b, 0, none⟩) m ∧ m.length ≤ c
theorem PtV.keep {w w' : World} {v : Value} {m : List Pt} (h : PtV w v m) (k : Below w.heap.size w w') : PtV w' v m := by
  obtain ⟨b, c, h1, h2, h3⟩ := h
  exact ⟨b, c, h1, h2.keep k, h3⟩
def BestV (B : Nat) (w : World) (v : Value) : Option (List Pt) → Prop
  | none => v = .slice none 0 0
  | some m => w.ownsRow B 38 2 v m.length (ptC m) ∧ 0 < m.length
theorem BestV.keep {B : Nat} {w w' : World} {v : Value} {bo : Option (List Pt)} (h : BestV B w v bo) (k : Below w.heap.size w w') : BestV B w' v bo := by
  cases bo with
  | none => exact h
  | some m => exact ⟨ownsRow_keep h.1 k, h.2⟩
theorem own_best {w : World} {base n : Nat} {v : Value} {l : List Pt} (h : w.ownsRow base 38 2 v n (ptC l)) (hn : n = l.length) (h0 : 0 < n) : PtV w v l := by
  subst hn
  have hp := h
  rcases h.2 with ⟨_, e⟩ | ⟨g, cap, cur, rfl, hbg, hg, hnc, hcm, hcs, htake⟩
  · omega
  · exact ⟨g, cap, rfl, own_pts hp rfl, hnc⟩
theorem leastK_from (l : List Pt) (bo : Option (List Pt)) : ∀ (k : Nat) {m : List Pt}, leastK l bo k = some m → bo = some m ∨ ∃ i, m = rotL l i
  | 0, m, h => Or.inl h
  | k + 1, m, h => by
    rw [leastK_succ] at h
    rcases hb : leastK l bo k with _ | x
    · rw [hb] at h
      cases h
      exact Or.inr ⟨k, rfl⟩
    · rw [hb] at h
      unfold lessL at h
      dsimp only at h
      split at h
      · cases h; exact Or.inr ⟨k, rfl⟩
      · cases h; exact leastK_from l bo k hb
set_option maxRecDepth 100000 in
set_option maxHeartbeats 3200000 in
theorem lLeast (A : Option Addr) (c : Nat) (l : List Pt) (bv : Value) (bo : Option (List Pt)) (w : World) (hp : PtsIn w A l) (hl : l.length ≤ 100000) (hc : l.length ≤ c) (B : Nat) (hB0 : B ≤ w.heap.size) (hbv : BestV B w bv bo) (hu : ∀ q ∈ l, PtU q) (hub : ∀ m, bo = some m → m.length ≤ 1000000 ∧ ∀ q ∈ m, PtU q) :
    Calls Tryz.prog 101 #[.slice A l.length c, bv] w fun e w' => ∃ v, e = .returned v ∧ BestV B w' v (leastK l bo l.length) ∧ Below w.heap.size w w' := by
  have HP := Lib.hid hp
  have HU := Lib.hid (And.intro hu hub)
  have HL := Lib.hid (And.intro hl hc)
  have HBV := Lib.hid hbv
  have HB0 := Lib.hid hB0
  clear hp hu hub hl hc hbv hB0
  go_enter Tryz.func101, Tryz.ntmps101
  ((try dsimp only); repeat (first | go_values | go_skip | go_guarded | go_step | go_upon))
  go_loopw [1, 9] (fun v i wr => ∃ (k : Nat) (vv : Value), v = vv ∧ i = .int .i64 (k : Int) ∧ k ≤ l.length ∧ BestV B wr vv (leastK l bo k) ∧ Below w.heap.size w wr) (fun _ i _ => l.length - (intOf i).toNat)
  case atStart => exact ⟨0, bv, rfl, rfl, Nat.zero_le _, HBV.out, Below.refl _ _⟩
  case round =>
    obtain ⟨k, vv, hvv, rfl, hk, hbest, hB⟩ := hrel
    have hvv' := hvv.symm
    subst hvv'
    have HK := Lib.hid hB
    have HBk := Lib.hid hbest
    clear hB hbest
    by_cases h0 : k < l.length
    · obtain ⟨b, o, rfl, hb, hpa⟩ := HP.out.open h0
      have HS : Hid (∀ wz : World, Below w.heap.size w wz → PtsIn wz (some ⟨b, o + k * 2, none⟩) (l.drop k) ∧ PtsIn wz (some ⟨b, o, none⟩) (l.take k)) := Lib.hid (fun wz h => ⟨(pts_drop hb hpa k).keep h, (pts_take HP.out k).keep h⟩)
      have hki : (k : Int) < (l.length : Int) := by omega
      have hkl : (k : Int) ≤ (l.length : Int) := by omega
      have hkl2 : k ≤ l.length := by omega
      have hkc : (k : Int) ≤ (c : Int) := by have := HL.out.2; omega
      have hkc2 : k ≤ c := by have := HL.out.2; omega
      have hlc : (l.length : Int) ≤ (c : Int) := by have := HL.out.2; omega
      have hlc2 : l.length ≤ c := HL.out.2
      have hk0 : (0 : Int) ≤ (k : Int) := by omega
      have hck : ¬ c = k := by have := HL.out.2; omega
      have HX := Lib.hid (And.intro h0 hb)
      clear hpa
      go_upto_region 4 with (fail)
      refine start_ (n := 9) (S := fun w' => Below wr.heap.size wr w') (ds := []) (bt 9 0) (by kernel_rfl) rfl rfl ((Below.refl _ _).drew) (fun hHeld => ?_)
      refine pv_ 0 12 ?_
      refine pv_ 1 13 ?_
      refine pv_ 2 14 ?_
      refine pv_ 4 16 ?_
      refine pv_ 5 17 ?_
      refine pv_ 6 18 ?_
      refine one_ (i := 3) (N := some 15) (bt 9 127) rfl rfl (by kernel_rfl) (by decide) (fun K hK => ?_)
      rw [if_pos (by rfl)]
      refine wp_app_pts (.const (.slice none 0 0)) (.tmp 14) rfl rfl wr.heap.size 0 (c - k) (.slice none 0 0) [] (l.drop k) (some ⟨b, o + k * 2, none⟩) rfl (by rw [List.length_drop]; rfl) (World.ownsRow_nil _ _ _ _) (HS.out _ (HK.out.trans (hHeld.mono HK.out.size))).1 (by omega) (by rw [List.length_drop]; have := HL.out.1; omega) hHeld.size ?_
      intro v1 w1 hown1 hgr1
      have hk1 := ownsRow_below (e := 38) (size := 2) (World.ownsRow_nil _ _ _ _) hHeld hHeld.size hgr1
      refine hK.out (Act.put _ (some 15) v1) _ hk1 (fun hHeld => ?_)
      clear hK K
      refine nn ?_
      refine one_ (i := 7) (N := some 19) (bt 9 255) rfl rfl (by kernel_rfl) (by decide) (fun K hK => ?_)
      rw [if_pos (by rfl)]
      refine wp_app_pts (.tmp 15) (.tmp 18) rfl rfl wr.heap.size (0 + (l.drop k).length) c v1 ([] ++ l.drop k) (l.take k) (some ⟨b, o, none⟩) rfl (by rw [List.length_take, Nat.min_eq_left hkl2]; rfl) hown1 (HS.out _ (HK.out.trans (hHeld.mono HK.out.size))).2 (by rw [List.length_drop]; have := HL.out.1; omega) (by rw [List.length_take]; have := HL.out.1; omega) hHeld.size ?_
      intro v2 w2 hown2 hgr2
      have hk2 := ownsRow_below hown1 hHeld hHeld.size hgr2
      refine hK.out (Act.put _ (some 19) v2) _ hk2 (fun hHeld => ?_)
      clear hK K
      refine nn ?_
      refine pv_ 8 6 ?_
      refine done_ (by kernel_rfl) ?_
      have hrl : (rotL l k).length = l.length := rot_len l k
      have hown3 : w2.ownsRow wr.heap.size 38 2 v2 (0 + (l.drop k).length + (l.take k).length) (ptC (rotL l k)) := hown2
      have hlen3 : 0 + (l.drop k).length + (l.take k).length = (rotL l k).length := by rw [hrl, List.length_drop, List.length_take, Nat.min_eq_left hkl2]; omega
      have hown4 := own_lower hown3 (Nat.le_trans HB0.out HK.out.size)
      rw [hlen3] at hown4
      obtain ⟨gw, cw, rfl, hpw, hcw⟩ := own_best hown3 (by rw [hrl, List.length_drop, List.length_take, Nat.min_eq_left hkl2]; omega) (by rw [List.length_drop]; omega)
      have HPw := Lib.hid (And.intro hpw hcw)
      have HOw : Hid (BestV B w2 (.slice (some ⟨gw, 0, none⟩) (rotL l k).length cw) (some (rotL l k))) := Lib.hid ⟨hown4, by rw [hrl]; omega⟩
      have HE := Lib.hid (HK.out.trans (hHeld.mono HK.out.size))
      have HBk2 := Lib.hid (HBk.out.keep hHeld)
      have HW := Lib.hid hrl
      have HUw : Hid (∀ q ∈ rotL l k, PtU q) := Lib.hid (fun q hq => HU.out.1 q (rot_mem.1 hq))
      have hw1 : wrap64 ((k : Int) + 1) = ((k + 1 : Nat) : Int) := by have := HL.out.1; clear HP HU HL HBV HB0 HK HBk HS HX HPw HOw HE HBk2 HW HUw; unfold wrap64; omega
      have W1 := Lib.hid hw1
      have HN := Lib.hid (leastK_succ l bo k)
      have HFr := Lib.hid (fun m h => leastK_from l bo k (m := m) h)
      clear hHeld hgr1 hgr2 hown1 hown2 hown3 hown4 hlen3 hk1 hk2 hpw hcw hrl hw1 HBk HP HBV hki hkl hkc hkc2 hlc hlc2 hk0 hck
      have hend : ∀ (x : World → Value → Prop), l.length - (intOf (.int .i64 (wrap64 ((k : Int) + 1)))).toNat < l.length - (intOf (.int .i64 (k : Int))).toNat := fun _ => by
        rw [W1.out]
        have hk0 := HX.out.1
        clear HU HL HK HS HX HPw HOw HB0 HE HBk2 HW HUw W1 HN HFr
        show l.length - (((k + 1 : Nat) : Int)).toNat < l.length - ((k : Int)).toNat
        omega
      have HEnd := Lib.hid (hend (fun _ _ => True))
      clear hend
      rcases hb0 : leastK l bo k with _ | m
      · rw [hb0] at HBk2 HN
        obtain rfl : vv = .slice none 0 0 := HBk2.out
        have hq := run_eql_nil w2
        ((try dsimp only); repeat (first | go_values | go_skip | go_guarded | go_step | go_upon))
        exact ⟨⟨k + 1, _, rfl, vint W1.out, HX.out.1, by rw [HN.out]; exact HOw.out, HE.out⟩, HEnd.out⟩
      · rw [hb0] at HBk2 HN
        have HOm : Hid (BestV B w2 vv (some m)) := Lib.hid HBk2.out
        obtain ⟨bm, cm, rfl, hpm, hcm⟩ := own_best HBk2.out.1 rfl HBk2.out.2
        have hm : m.length ≤ 1000000 ∧ ∀ q ∈ m, PtU q := by
          rcases HFr.out m hb0 with h | ⟨i, rfl⟩
          · exact HU.out.2 m h
          · exact ⟨by rw [rot_len]; have := HL.out.1; omega, fun q hq => HU.out.1 q (rot_mem.1 hq)⟩
        have HC := Lib.hid (lCompareFunc (some ⟨gw, 0, none⟩) (some ⟨bm, 0, none⟩) cw cm (rotL l k) m w2 HPw.out.1 hpm (by rw [HW.out]; have := HL.out.1; omega) hm.1 HUw.out hm.2)
        have HM := Lib.hid (And.intro hpm hcm)
        have HLs : Hid (lessL (some m) (rotL l k) = if cmpL (rotL l k) m < 0 then some (rotL l k) else some m) := Lib.hid rfl
        clear hpm hcm hm hb0 HBk2
        have hq := run_eql_some ⟨bm, 0, none⟩ m.length cm w2
        generalize cmpL (rotL l k) m = cc at *
        ((try dsimp only); repeat (first | go_values | go_skip | go_guarded | go_step | go_upon))
        refine HC.out.mono ?_
        rintro e w3 ⟨rfl, hb3⟩
        have HE3 := Lib.hid (HE.out.trans (hb3.mono HE.out.size))
        have HB3 := Lib.hid hb3
        clear hb3
        by_cases hcc : cc < 0
        · rw [if_pos hcc] at HLs
          ((try dsimp only); repeat (first | go_values | go_skip | go_guarded | go_step | go_upon))
          exact ⟨⟨k + 1, _, rfl, vint W1.out, HX.out.1, by rw [HN.out, HLs.out]; exact HOw.out.keep HB3.out, HE3.out⟩, HEnd.out⟩
        · rw [if_neg hcc] at HLs
          ((try dsimp only); repeat (first | go_values | go_skip | go_guarded | go_step | go_upon))
          exact ⟨⟨k + 1, _, rfl, vint W1.out, HX.out.1, by rw [HN.out, HLs.out]; exact HOm.out.keep HB3.out, HE3.out⟩, HEnd.out⟩
    · obtain rfl : k = l.length := by omega
      have hki : ¬ (l.length : Int) < (l.length : Int) := by omega
      ((try dsimp only); repeat (first | go_values | go_skip | go_guarded | go_step | go_upon))
      go_ret
      exact ⟨_, rfl, HBk.out, HK.out⟩
end Go.Proofs.YtfpofmifmapmfaaGreatDoor

namespace Go.Proofs.YtfpofmifmapmfaaGreatDoor
open Go.RowKit Go.Proofs.YtfpofmifmapmfaaGreatDoorW.PrintLast
set_option linter.unusedVariables false
set_option linter.unusedSimpArgs false
set_option maxRecDepth 100000 in
theorem f6Rank (b : Int) (w : World) (h : Fin64 b) : Calls Tryz.prog 211 #[.int .u64 b] w fun e w' => e = .returned (.tuple #[.int .i64 (rk b), .int .i64 0]) ∧ w = w' := by
  have HF := f6Finite b w ⟨h.1, h.2.1⟩
  have hd : decide (fe b ≠ 2047) = true := decide_eq_true h.2.2
  rw [hd] at HF
  replace HF := Lib.hid HF
  have h0 := h.1
  have h1 := h.2.1
  clear hd h
  by_cases hn : 9223372036854775808 ≤ b
  · have HR : Hid (rk b = -(b - 9223372036854775808)) := Lib.hid (if_pos hn)
    go_enter Tryz.func211, Tryz.ntmps211
    ((try dsimp only); repeat (first | go_values | go_skip | go_guarded | go_step | go_upon))
    refine HF.out.mono ?_
    rintro e w1 ⟨rfl, rfl⟩
    ((try dsimp only); repeat (first | go_values | go_skip | go_guarded | go_step | go_upon))
    go_ret2
    refine ⟨RT ?_, rfl⟩
    rw [HR.out]
  · have HR : Hid (rk b = b) := Lib.hid (if_neg hn)
    go_enter Tryz.func211, Tryz.ntmps211
    ((try dsimp only); repeat (first | go_values | go_skip | go_guarded | go_step | go_upon))
    refine HF.out.mono ?_
    rintro e w1 ⟨rfl, rfl⟩
    ((try dsimp only); repeat (first | go_values | go_skip | go_guarded | go_step | go_upon))
    go_ret2
    refine ⟨RT ?_, rfl⟩
    rw [HR.out]
set_option maxRecDepth 100000 in
theorem f6Cmp (a b : Int) (w : World) (ha : Fin64 a) (hb : Fin64 b) : Calls Tryz.prog 146 #[.int .u64 a, .int .u64 b] w fun e w' => e = .returned (.tuple #[.int .i64 (qcmp (fval a) (fval b)), .int .i64 0]) ∧ w = w' := by
  have H1 := Lib.hid (f6Rank a w ha)
  have H2 := Lib.hid (f6Rank b w hb)
  have hl := rk_lt ha hb
  have hg := rk_lt hb ha
  have he := rk_eq ha hb
  have hq : (rk a < rk b ∧ qcmp (fval a) (fval b) = -1) ∨ (rk a = rk b ∧ qcmp (fval a) (fval b) = 0) ∨ (rk b < rk a ∧ qcmp (fval a) (fval b) = 1) := by
    rcases Int.lt_trichotomy (rk a) (rk b) with h | h | h
    · exact Or.inl ⟨h, qcmp_lt.2 (hl h)⟩
    · exact Or.inr (Or.inl ⟨h, qcmp_eq.2 (he h)⟩)
    · exact Or.inr (Or.inr ⟨h, qcmp_gt.2 (hg h)⟩)
  clear hl hg he
  generalize rk a = r at *
  generalize rk b = s at *
  generalize qcmp (fval a) (fval b) = q at *
  go_enter Tryz.func146, Tryz.ntmps146
  ((try dsimp only); repeat (first | go_values | go_skip | go_guarded | go_step | go_upon))
  refine H1.out.mono ?_
  rintro e w1 ⟨rfl, rfl⟩
  ((try dsimp only); repeat (first | go_values | go_skip | go_guarded | go_step | go_upon))
  refine H2.out.mono ?_
  rintro e w1 ⟨rfl, rfl⟩
  rcases hq with ⟨h, rfl⟩ | ⟨h, rfl⟩ | ⟨h, rfl⟩
  · ((try dsimp only); repeat (first | go_values | go_skip | go_guarded | go_step | go_upon))
    go_ret2
    exact ⟨rfl, rfl⟩
  · have h1 : ¬ r < s := by omega
    have h2 : ¬ s < r := by omega
    ((try dsimp only); repeat (first | go_values | go_skip | go_guarded | go_step | go_upon))
    go_ret2
    exact ⟨rfl, rfl⟩
  · have h1 : ¬ r < s := by omega
    ((try dsimp only); repeat (first | go_values | go_skip | go_guarded | go_step | go_upon))
    go_ret2
    exact ⟨rfl, rfl⟩
end Go.Proofs.YtfpofmifmapmfaaGreatDoor

namespace Go.Proofs.YtfpofmifmapmfaaGreatDoor
open Go.RowKit Go.Proofs.YtfpofmifmapmfaaGreatDoorW.PrintLast
set_option linter.unusedVariables false
set_option linter.unusedSimpArgs false
theorem own_words {w : World} {base m c : Nat} {A : Option Addr} {xs : List Int} (h : w.ownsRow base 36 1 (.slice A m c) m (wv xs)) (hl : xs.length = m) : WordsIn base w.heap.size w A xs := by
  rcases h.2 with ⟨h1, h0⟩ | ⟨g, cap, cur, h1, h2, h3, h4, h5, h6, h7⟩
  · left; exact List.eq_nil_of_length_eq_zero (by omega)
  · cases h1
    right
    refine ⟨g, 0, rfl, h2, heap_lt h3, fun i hi => ?_⟩
    have k := h.cells rfl i _ (wv_get xs i hi)
    have e : (⟨g, 0, none⟩ : Addr).add i = ⟨g, 0 + i, none⟩ := by
      unfold Addr.add
      split
      · rename_i h; simp [h]
      · rfl
    rw [e] at k
    exact k
theorem one_cells {w : World} {g : Nat} {cs : List Value} {t : TypeId} (h : w.heap[g]? = some (.cells cs.toArray t (0, 0))) (j : Nat) (u : Value) (hu : cs[j]? = some u) : w.cell? ((⟨g, 0, none⟩ : Addr).add j) = some u := by
  have e : (⟨g, 0, none⟩ : Addr).add j = ⟨g, j, none⟩ := by
    unfold Addr.add
    split
    · rename_i h; simp [h]
    · simp
  rw [e, cell_of_cells h, List.getElem?_toArray]
  exact hu
theorem info_wd : (Tryz.prog.info? 36).map (fun i => (i.zero, i.size, i.bytes)) = some (some (.int .u64 0), 1, 8) := by kernel_rfl
theorem wpList_app_wd {w : World} {ops : Array Oper} {rest : List Oper} {o : Oper} {a : Act} {Q : Exit → Act → World → Prop} (hgd : o.guard = none) (s x : Operand) (ho : o.op = .call { callee := .builtin .append, args := #[s, x], argTypes := #[24, 24] })
    (base n : Nat) (v : Value) (xs : List Value) (hs : a.eval s = v) (hown : w.ownsRow base 36 1 v n xs) (g c : Nat) (p : Int) (hx : a.eval x = .slice (some ⟨g, 0, none⟩) 1 c)
    (hg : w.heap[g]? = some (.cells #[.int .u64 p] 36 (0, 0))) (hn : n ≤ 8796093022208) (hbase : base ≤ w.heap.size)
    (h : ∀ v' w', w'.ownsRow base 36 1 v' (n + 1) (xs ++ [.int .u64 p]) → w.grownBy w' v.ownBlock → wpList Tryz.prog ops Q rest (a.put o.dst v') w') : wpList Tryz.prog ops Q (o :: rest) a w := by
  obtain ⟨i, hi, h1, h2, h3⟩ := info_parts info_wd
  exact wpList_append_own w hgd s x 24 ho base 36 i _ 1 8 Tryz.underlying24 hi h1 h2 h3 rfl (by decide) v n xs hs hown ⟨g, 0, none⟩ 1 c [.int .u64 p] hx rfl (one_cells hg)
    (by intro u hu; simp at hu; subst hu; rfl) (by simp only [maxLen]; omega) (by omega) hbase (fun v' w' h1 h2 _ => h v' w' h1 h2)
set_option maxRecDepth 100000 in
set_option maxHeartbeats 1600000 in
theorem lCorner (A : Option Addr) (c lo up : Nat) (f : Pt → Int) (l : List Pt) (s : Int) (w : World) (hA : WordsIn lo up w A (l.map f)) (hl : l.length ≤ 8796093022208) (h0 : 0 < l.length) (hf : ∀ p ∈ l, Fin64 (f p)) (hs : s = 1 ∨ s = -1) :
    Calls Tryz.prog 87 #[.slice A l.length c, .int .i64 s] w fun e w' => e = .returned (.int .u64 (cornK (-s) f l l.length)) ∧ w' = w := by
  have hget : ∀ j, j < l.length → (l.map f).getD j 0 = f (l.getD j (0, 0)) := fun j hj => by
    rw [List.getD_eq_getElem?_getD, List.getElem?_map, List.getD_eq_getElem?_getD, List.getElem?_eq_getElem hj]; rfl
  obtain ⟨b, o, rfl, hb1, hb2, hc⟩ := hA.at (i := 0) (by rw [List.length_map]; exact h0)
  have hC : ∀ j, j < l.length → w.cell? ⟨b, o + j, none⟩ = some (.int .u64 (f (l.getD j (0, 0)))) := fun j hj => by
    obtain ⟨b', o', e, _, _, hc'⟩ := hA.at (i := j) (by rw [List.length_map]; exact hj)
    cases e
    rw [hget j hj] at hc'
    exact hc'
  have hF : ∀ j, j < l.length → Fin64 (f (l.getD j (0, 0))) := fun j hj => hf _ (getD_mem hj)
  have hK : ∀ k, k ≤ l.length → Fin64 (cornK (-s) f l k) := fun k hk => by
    obtain ⟨j, hj, e⟩ := cornK_is (-s) f l k hk h0
    rw [e]
    exact hF j hj
  have h1 : cornK (-s) f l 1 = f (l.getD 0 (0, 0)) := cornK_one (by omega) f l
  have c0 := hC 0 h0
  rw [Nat.add_zero] at c0
  generalize f (l.getD 0 (0, 0)) = x0 at c0 h1
  have HC := Lib.hid hC
  have HF := Lib.hid hF
  have HK := Lib.hid hK
  have H1 := Lib.hid h1
  have HL := Lib.hid (And.intro hl h0)
  have HS := Lib.hid hs
  have hli : (0 : Int) < (l.length : Int) := by omega
  clear hget hA hc hC hF hK h1 hf hl hs
  go_enter Tryz.func87, Tryz.ntmps87
  ((try dsimp only); repeat (first | go_values | go_skip | go_guarded | go_step | go_upon))
  clear c0 hli
  go_loopw [5, 6] (fun v i wr => ∃ k : Nat, v = .int .u64 (cornK (-s) f l k) ∧ i = .int .i64 (k : Int) ∧ 1 ≤ k ∧ k ≤ l.length ∧ wr = w) (fun _ i _ => l.length - (intOf i).toNat)
  case atStart => exact ⟨1, by rw [H1.out], rfl, Nat.le_refl _, HL.out.2, rfl⟩
  case round =>
    obtain ⟨k, rfl, rfl, hk1, hk, rfl⟩ := hrel
    by_cases hlt : k < l.length
    · have hki : (k : Int) < (l.length : Int) := by omega
      have c0 := HC.out k hlt
      have HCmp := Lib.hid (fun wz => f6Cmp (f (l.getD k (0, 0))) (cornK (-s) f l k) wz (HF.out k hlt) (HK.out k hk))
      have HN := Lib.hid (cornK_succ (-s) f l k)
      unfold farB at HN
      generalize cornK (-s) f l k = a at *
      obtain ⟨a2, hA2⟩ : ∃ y, cornK (-s) f l (k + 1) = y := ⟨_, rfl⟩
      rw [hA2] at HN
      have HA2 := Lib.hid hA2
      clear hA2
      generalize f (l.getD k (0, 0)) = x at *
      have hq := qcmp3 (fval x) (fval a)
      generalize qcmp (fval x) (fval a) = q at *
      have hw1 : wrap64 ((k : Int) + 1) = ((k + 1 : Nat) : Int) := by have := HL.out.1; clear HCmp HN HC HF HK H1 HS c0; unfold wrap64; omega
      have W1 := Lib.hid (And.intro hlt (And.intro hw1 hk1))
      clear hw1 hk1 hlt
      ((try dsimp only); repeat (first | go_values | go_skip | go_guarded | go_step | go_upon))
      refine (HCmp.out _).mono ?_
      rintro e w1 ⟨rfl, rfl⟩
      have hs := HS.out
      rcases hs with rfl | rfl
      · rcases hq with rfl | rfl | rfl
        · have ha2 : a2 = x := by rw [HN.out]; rfl
          subst ha2
          ((try dsimp only); repeat (first | go_values | go_skip | go_guarded | go_step | go_upon))
          obtain ⟨hlt, hw1, hk1⟩ := W1.out
          refine ⟨⟨k + 1, by rw [HA2.out], by first | exact vint hw1 | exact vint rfl, Nat.le_add_left _ _, hlt, by trivial⟩, ?_⟩
          first
          | show l.length - (intOf (.int .i64 (wrap64 ((k : Int) + 1)))).toNat < l.length - (intOf (.int .i64 (k : Int))).toNat
            rw [hw1]
          | skip
          clear hw1 HN HCmp HC HF HK H1 HS HL W1 HA2
          show l.length - ((k : Int) + 1).toNat < l.length - ((k : Int)).toNat
          omega
        · have ha2 : a2 = a := by rw [HN.out]; rfl
          subst ha2
          ((try dsimp only); repeat (first | go_values | go_skip | go_guarded | go_step | go_upon))
          obtain ⟨hlt, hw1, hk1⟩ := W1.out
          refine ⟨⟨k + 1, by rw [HA2.out], by first | exact vint hw1 | exact vint rfl, Nat.le_add_left _ _, hlt, by trivial⟩, ?_⟩
          first
          | show l.length - (intOf (.int .i64 (wrap64 ((k : Int) + 1)))).toNat < l.length - (intOf (.int .i64 (k : Int))).toNat
            rw [hw1]
          | skip
          clear hw1 HN HCmp HC HF HK H1 HS HL W1 HA2
          show l.length - ((k : Int) + 1).toNat < l.length - ((k : Int)).toNat
          omega
        · have ha2 : a2 = a := by rw [HN.out]; rfl
          subst ha2
          ((try dsimp only); repeat (first | go_values | go_skip | go_guarded | go_step | go_upon))
          obtain ⟨hlt, hw1, hk1⟩ := W1.out
          refine ⟨⟨k + 1, by rw [HA2.out], by first | exact vint hw1 | exact vint rfl, Nat.le_add_left _ _, hlt, by trivial⟩, ?_⟩
          first
          | show l.length - (intOf (.int .i64 (wrap64 ((k : Int) + 1)))).toNat < l.length - (intOf (.int .i64 (k : Int))).toNat
            rw [hw1]
          | skip
          clear hw1 HN HCmp HC HF HK H1 HS HL W1 HA2
          show l.length - ((k : Int) + 1).toNat < l.length - ((k : Int)).toNat
          omega
      · rcases hq with rfl | rfl | rfl
        · have ha2 : a2 = a := by rw [HN.out]; rfl
          subst ha2
          ((try dsimp only); repeat (first | go_values | go_skip | go_guarded | go_step | go_upon))
          obtain ⟨hlt, hw1, hk1⟩ := W1.out
          refine ⟨⟨k + 1, by rw [HA2.out], by first | exact vint hw1 | exact vint rfl, Nat.le_add_left _ _, hlt, by trivial⟩, ?_⟩
          first
          | show l.length - (intOf (.int .i64 (wrap64 ((k : Int) + 1)))).toNat < l.length - (intOf (.int .i64 (k : Int))).toNat
            rw [hw1]
          | skip
          clear hw1 HN HCmp HC HF HK H1 HS HL W1 HA2
          show l.length - ((k : Int) + 1).toNat < l.length - ((k : Int)).toNat
          omega
        · have ha2 : a2 = a := by rw [HN.out]; rfl
          subst ha2
          ((try dsimp only); repeat (first | go_values | go_skip | go_guarded | go_step | go_upon))
          obtain ⟨hlt, hw1, hk1⟩ := W1.out
          refine ⟨⟨k + 1, by rw [HA2.out], by first | exact vint hw1 | exact vint rfl, Nat.le_add_left _ _, hlt, by trivial⟩, ?_⟩
          first
          | show l.length - (intOf (.int .i64 (wrap64 ((k : Int) + 1)))).toNat < l.length - (intOf (.int .i64 (k : Int))).toNat
            rw [hw1]
          | skip
          clear hw1 HN HCmp HC HF HK H1 HS HL W1 HA2
          show l.length - ((k : Int) + 1).toNat < l.length - ((k : Int)).toNat
          omega
        · have ha2 : a2 = x := by rw [HN.out]; rfl
          subst ha2
          ((try dsimp only); repeat (first | go_values | go_skip | go_guarded | go_step | go_upon))
          obtain ⟨hlt, hw1, hk1⟩ := W1.out
          refine ⟨⟨k + 1, by rw [HA2.out], by first | exact vint hw1 | exact vint rfl, Nat.le_add_left _ _, hlt, by trivial⟩, ?_⟩
          first
          | show l.length - (intOf (.int .i64 (wrap64 ((k : Int) + 1)))).toNat < l.length - (intOf (.int .i64 (k : Int))).toNat
            rw [hw1]
          | skip
          clear hw1 HN HCmp HC HF HK H1 HS HL W1 HA2
          show l.length - ((k : Int) + 1).toNat < l.length - ((k : Int)).toNat
          omega
    · obtain rfl : k = l.length := by omega
      have hki : ¬ (l.length : Int) < (l.length : Int) := by omega
      ((try dsimp only); repeat (first | go_values | go_skip | go_guarded | go_step | go_upon))
      go_ret
      exact ⟨rfl, rfl⟩
end Go.Proofs.YtfpofmifmapmfaaGreatDoor

namespace Go.Proofs.YtfpofmifmapmfaaGreatDoor
open Go.RowKit Go.Proofs.YtfpofmifmapmfaaGreatDoorW.PrintLast
set_option linter.unusedVariables false
set_option linter.unusedSimpArgs false
set_option maxRecDepth 100000 in
set_option maxHeartbeats 1600000 in
theorem gFiniteW (A : Option Addr) (c : Nat) (ps : List Pt) (w : World) (hp : PtsIn w A ps) (hl : ps.length ≤ 9000000000000) (hu : ∀ p ∈ ps, PtU p) :
    Calls Tryz.prog 85 #[.slice A ps.length c] w fun e w' => e = .returned (.bool (finB ps)) ∧ Below w.heap.size w w' := by
  have HP := Lib.hid hp
  have HU := Lib.hid hu
  have HY := Lib.hid (fun h => finB_yes hu h)
  have HN := Lib.hid (fun k hk h => finB_no hu (k := k) hk h)
  clear hp hu
  go_enter Tryz.func85, Tryz.ntmps85
  ((try dsimp only); repeat (first | go_values | go_skip | go_guarded | go_step | go_upon))
  go_loopw [7] (fun i wr => ∃ k : Nat, i = .int .i64 k ∧ k ≤ ps.length ∧ (∀ j, j < k → FinP (ps.getD j (0, 0))) ∧ Below w.heap.size w wr) (fun i _ => ps.length - (intOf i).toNat)
  case atStart => exact ⟨0, rfl, Nat.zero_le _, fun j hj => absurd hj (by omega), Below.refl _ _⟩
  case round =>
    obtain ⟨k, rfl, hk, hF, hB⟩ := hrel
    have sB := hB.size
    by_cases h0 : k < ps.length
    · obtain ⟨b, o, rfl, hb, hpa⟩ := HP.out.open h0
      have hpk := (hpa k h0)
      have hp1 := (hB.cell (p := ⟨b, o + k * 2, none⟩) hb).trans hpk.1
      have hp2 := (hB.cell (p := ⟨b, o + k * 2 + 1, none⟩) hb).trans hpk.2
      have hfk := HU.out _ (getD_mem h0)
      have hN := HN.out k h0
      have hG : FinP (ps.getD k (0, 0)) → ∀ j, j < k + 1 → FinP (ps.getD j (0, 0)) := fun h j hj => by
        rcases Nat.lt_or_ge j k with g | g
        · exact hF j g
        · obtain rfl : j = k := by omega
          exact h
      have HG := Lib.hid (And.intro hG hN)
      have HD := Lib.hid hB
      clear hpk hB hpa hF hG hN
      generalize ps.getD k (0, 0) = pt at *
      have HC := Lib.hid (fun wz => And.intro (fClass pt.1 wz hfk.1.1 hfk.1.2) (fClass pt.2 wz hfk.2.1 hfk.2.2))
      have e1 : ¬ 3 ≤ fcl pt.1 → Fin64 pt.1 := fun h => Classical.byContradiction fun e => h (fcl_inf hfk.1 e)
      have e2 : ¬ 3 ≤ fcl pt.2 → Fin64 pt.2 := fun h => Classical.byContradiction fun e => h (fcl_inf hfk.2 e)
      have i1 : 3 ≤ fcl pt.1 → ¬ FinP pt := fun h f => inf_not h f.1
      have i2 : 3 ≤ fcl pt.2 → ¬ FinP pt := fun h f => inf_not h f.2
      have HJ := Lib.hid (And.intro (And.intro e1 e2) (And.intro i1 i2))
      clear hfk e1 e2 i1 i2
      generalize fcl pt.1 = c1 at *
      generalize fcl pt.2 = c2 at *
      by_cases h1 : 3 ≤ c1
      · ((try dsimp only); repeat (first | go_values | go_skip | go_guarded | go_step | go_upon))
        refine (HC.out _).1.mono ?_
        rintro e w1 ⟨rfl, rfl⟩
        ((try dsimp only); repeat (first | go_values | go_skip | go_guarded | go_step | go_upon))
        go_ret
        exact ⟨by rw [HG.out.2 (HJ.out.2.1 h1)]; rfl, HD.out.alloc (by omega) _⟩
      · ((try dsimp only); repeat (first | go_values | go_skip | go_guarded | go_step | go_upon))
        refine (HC.out _).1.mono ?_
        rintro e w1 ⟨rfl, rfl⟩
        ((try dsimp only); repeat (first | go_values | go_skip | go_guarded | go_step | go_upon))
        refine (HC.out _).2.mono ?_
        rintro e w1 ⟨rfl, rfl⟩
        by_cases h2 : 3 ≤ c2
        · ((try dsimp only); repeat (first | go_values | go_skip | go_guarded | go_step | go_upon))
          go_ret
          exact ⟨by rw [HG.out.2 (HJ.out.2.2 h2)]; rfl, HD.out.alloc (by omega) _⟩
        · ((try dsimp only); repeat (first | go_values | go_skip | go_guarded | go_step | go_upon))
          exact ⟨⟨k + 1, vint (by omega), by omega, HG.out.1 ⟨HJ.out.1.1 h1, HJ.out.1.2 h2⟩, HD.out.alloc (by omega) _⟩, by simp [intOf]; omega⟩
    · obtain rfl : k = ps.length := by omega
      have HD := Lib.hid (And.intro hB hF)
      clear hB hF
      ((try dsimp only); repeat (first | go_values | go_skip | go_guarded | go_step | go_upon))
      go_ret
      exact ⟨by rw [HY.out HD.out.2]; rfl, HD.out.1⟩
set_option maxRecDepth 100000 in
set_option maxHeartbeats 1600000 in
theorem f24FiniteW (A : Option Addr) (c : Nat) (ps : List Pt) (w : World) (hp : PtsIn w A ps) (hl : ps.length ≤ 9000000000000) (hu : ∀ p ∈ ps, PtU p) :
    Calls Tryz.prog 37 #[.slice A ps.length c] w fun e w' => e = .returned (.bool (finB ps)) ∧ Below w.heap.size w w' := by
  have HP := Lib.hid hp
  have HU := Lib.hid hu
  have HY := Lib.hid (fun h => finB_yes hu h)
  have HN := Lib.hid (fun k hk h => finB_no hu (k := k) hk h)
  have HL := Lib.hid hl
  clear hp hu hl
  go_enter Tryz.func37, Tryz.ntmps37
  ((try dsimp only); repeat (first | go_values | go_skip | go_guarded | go_step | go_upon))
  go_loopw [3] (fun i wr => ∃ k : Nat, i = .int .i64 k ∧ k ≤ ps.length ∧ (∀ j, j < k → FinP (ps.getD j (0, 0))) ∧ Below w.heap.size w wr) (fun i _ => ps.length - (intOf i).toNat)
  case atStart => exact ⟨0, rfl, Nat.zero_le _, fun j hj => absurd hj (by omega), Below.refl _ _⟩
  case round =>
    obtain ⟨k, rfl, hk, hF, hB⟩ := hrel
    by_cases h0 : k < ps.length
    · obtain ⟨b, o, rfl, hb, hpa⟩ := HP.out.open h0
      have hpk := (hpa k h0)
      have hp1 := (hB.cell (p := ⟨b, o + k * 2, none⟩) hb).trans hpk.1
      have hp2 := (hB.cell (p := ⟨b, o + k * 2 + 1, none⟩) hb).trans hpk.2
      have hfk := HU.out _ (getD_mem h0)
      have hN := HN.out k h0
      have hG : FinP (ps.getD k (0, 0)) → ∀ j, j < k + 1 → FinP (ps.getD j (0, 0)) := fun h j hj => by
        rcases Nat.lt_or_ge j k with g | g
        · exact hF j g
        · obtain rfl : j = k := by omega
          exact h
      have HG := Lib.hid (And.intro hG hN)
      have HD := Lib.hid hB
      have hkl : k ≤ 9000000000000 := by have := HL.out; omega
      have HKL := Lib.hid hkl
      clear hpk hB hpa hF hG hN hkl
      generalize ps.getD k (0, 0) = pt at *
      have HC := Lib.hid (fun wz => And.intro (f6Finite pt.1 wz hfk.1) (f6Finite pt.2 wz hfk.2))
      have HJ : Hid (fe pt.1 ≠ 2047 → fe pt.2 ≠ 2047 → FinP pt) := Lib.hid (fun a b => ⟨⟨hfk.1.1, hfk.1.2, a⟩, ⟨hfk.2.1, hfk.2.2, b⟩⟩)
      have HI : Hid ((fe pt.1 = 2047 → ¬ FinP pt) ∧ (fe pt.2 = 2047 → ¬ FinP pt)) := Lib.hid ⟨fun a h => h.1.2.2 a, fun a h => h.2.2.2 a⟩
      clear hfk
      generalize fe pt.1 = c1 at *
      generalize fe pt.2 = c2 at *
      have l1 : (k : Int) < (ps.length : Int) := by omega
      have hw1 : wrap64 ((k : Int) + 1) = ((k + 1 : Nat) : Int) := by have := HKL.out; clear HG HD HC HJ HI; unfold wrap64; omega
      have W1 := Lib.hid hw1
      clear hw1
      by_cases h1 : c1 = 2047
      · subst h1
        ((try dsimp only); repeat (first | go_values | go_skip | go_guarded | go_step | go_upon))
        refine (HC.out _).1.mono ?_
        rintro e w1 ⟨rfl, rfl⟩
        ((try dsimp only); repeat (first | go_values | go_skip | go_guarded | go_step | go_upon))
        go_ret
        exact ⟨by rw [HG.out.2 (HI.out.1 rfl)]; rfl, HD.out⟩
      · have t1 : (decide (c1 ≠ 2047)) = true := decide_eq_true h1
        rw [t1] at HC
        ((try dsimp only); repeat (first | go_values | go_skip | go_guarded | go_step | go_upon))
        refine (HC.out _).1.mono ?_
        rintro e w1 ⟨rfl, rfl⟩
        ((try dsimp only); repeat (first | go_values | go_skip | go_guarded | go_step | go_upon))
        refine (HC.out _).2.mono ?_
        rintro e w1 ⟨rfl, rfl⟩
        by_cases h2 : c2 = 2047
        · subst h2
          ((try dsimp only); repeat (first | go_values | go_skip | go_guarded | go_step | go_upon))
          go_ret
          exact ⟨by rw [HG.out.2 (HI.out.2 rfl)]; rfl, HD.out⟩
        · rw [decide_eq_true h2]
          ((try dsimp only); repeat (first | go_values | go_skip | go_guarded | go_step | go_upon))
          refine ⟨⟨k + 1, vint W1.out, h0, HG.out.1 (HJ.out h1 h2), HD.out⟩, ?_⟩
          show ps.length - (intOf (.int .i64 (wrap64 ((k : Int) + 1)))).toNat < ps.length - (intOf (.int .i64 (k : Int))).toNat
          rw [W1.out]
          clear HD HG HJ HI HC W1
          show ps.length - (((k + 1 : Nat) : Int)).toNat < ps.length - ((k : Int)).toNat
          omega
    · obtain rfl : k = ps.length := by omega
      have HD := Lib.hid (And.intro hB hF)
      clear hB hF
      ((try dsimp only); repeat (first | go_values | go_skip | go_guarded | go_step | go_upon))
      go_ret
      exact ⟨by rw [HY.out HD.out.2]; rfl, HD.out.1⟩
set_option maxRecDepth 100000 in
set_option maxHeartbeats 6400000 in
theorem gBoxW (A : Option Addr) (c : Nat) (ps : List Pt) (w : World) (hp : PtsIn w A ps) (hl : ps.length ≤ 9000000000000) (hu : ∀ q ∈ ps, PtU q) :
    Calls Tryz.prog 29 #[.slice A ps.length c] w fun e w' => e = .returned (.tuple #[.agg #[.int .u64 (lowP ps).1, .int .u64 (lowP ps).2], .agg #[.int .u64 (highP ps).1, .int .u64 (highP ps).2], .int .i64 (boxE ps)]) ∧ Below w.heap.size w w' := by
  by_cases h0 : ps.length = 0
  · have e0 : boxE ps = 240 := by unfold boxE; rw [if_pos h0]
    have e1 : lowP ps = (0, 0) := by unfold lowP; rw [e0]; rfl
    have e2 : highP ps = (0, 0) := by unfold highP; rw [e0]; rfl
    rw [e0, e1, e2]
    have l0 : ((ps.length : Int) == 0) = true := by rw [h0]; rfl
    clear hp hu e0 e1 e2
    have hmm : Bx w.heap.size w ((w.alloc (.cells #[.int .u64 0, .int .u64 0] 38)).alloc (.cells #[.int .u64 0, .int .u64 0] 38)) _ _ := ((Bx.start w).alloc (.cells #[.int .u64 0, .int .u64 0] 38 (0, 0))).alloc (.cells #[.int .u64 0, .int .u64 0] 38 (0, 0))
    go_enter Tryz.func29, Tryz.ntmps29
    go_upto_region 1 with (fail)
    generalize (World.alloc (World.alloc w _) _) = v at *
    (try simp only [List.nil_append, List.cons_append, World.size_alloc, List.set_cons_zero, List.set_cons_succ, putsC, pB, pC, pD] at hmm)
    have HM := Lib.hid hmm
    clear hmm
    obtain ⟨c0_0, c0_1, c0_2, c0_3⟩ := rw2 (HM.out.at 0 rfl)
    obtain ⟨c1_0, c1_1, c1_2, c1_3⟩ := rw2 (HM.out.at 1 rfl)
    ((try dsimp only); repeat (first | go_values | go_skip | go_guarded | go_step | go_upon))
    refine bodyPost_ret (results_rows2 rfl _ _ (w.heap.size) (w.heap.size + 1) _ _ _ _ _ _ _ _ rfl rfl (((HM.out.puts 0 rfl (by decide) [(0, .int .u64 0), (1, .int .u64 0)]).puts 1 rfl (by decide) [(0, .int .u64 0), (1, .int .u64 0)]).at 0 rfl) (((HM.out.puts 0 rfl (by decide) [(0, .int .u64 0), (1, .int .u64 0)]).puts 1 rfl (by decide) [(0, .int .u64 0), (1, .int .u64 0)]).at 1 rfl) rfl rfl rfl rfl rfl rfl) rfl ?_
    exact ⟨rfl, ((HM.out.puts 0 rfl (by decide) [(0, .int .u64 0), (1, .int .u64 0)]).puts 1 rfl (by decide) [(0, .int .u64 0), (1, .int .u64 0)]).m.b⟩
  have l0 : ((ps.length : Int) == 0) = false := beq_eq_false_iff_ne.2 (by omega)
  have HFi := Lib.hid (fun wz h => gFiniteW A c ps wz (hp.keep h) hl hu)
  by_cases hf : finB ps = true
  · have e0 : boxE ps = 0 := by unfold boxE; rw [if_neg h0, if_pos hf]
    have e1 : lowP ps = (cornK (-1) fX ps ps.length, cornK (-1) fY ps ps.length) := by unfold lowP; rw [if_pos e0]
    have e2 : highP ps = (cornK 1 fX ps ps.length, cornK 1 fY ps ps.length) := by unfold highP; rw [if_pos e0]
    rw [e0, e1, e2]
    rw [hf] at HFi
    rw [finB_iff hu] at hf
    have hlen : 0 < ps.length := by omega
    have HFP := Lib.hid (And.intro hf (And.intro hlen hl))
    obtain ⟨ba, oa, rfl, hba, hpa⟩ := hp.open hlen
    have HR : Hid (∀ k, k < ps.length → ∀ wz, Below w.heap.size w wz → wz.cell? ⟨ba, oa + k * 2, none⟩ = some (.int .u64 (ps.getD k (0, 0)).1) ∧ wz.cell? ⟨ba, oa + k * 2 + 1, none⟩ = some (.int .u64 (ps.getD k (0, 0)).2)) :=
      Lib.hid (fun k hk wz h => ⟨(h.cell (p := ⟨ba, oa + k * 2, none⟩) hba).trans (hpa k hk).1, (h.cell (p := ⟨ba, oa + k * 2 + 1, none⟩) hba).trans (hpa k hk).2⟩)
    have HR0 : Hid (∀ wz, Below w.heap.size w wz → wz.cell? ⟨ba, oa, none⟩ = some (.int .u64 (cornK (-1) fX ps 0)) ∧ wz.cell? ⟨ba, oa + 1, none⟩ = some (.int .u64 (cornK (-1) fY ps 0))) :=
      Lib.hid (fun wz h => by have := HR.out 0 hlen wz h; rwa [Nat.zero_mul, Nat.add_zero] at this)
    have HC0 : Hid (cornK 1 fX ps 0 = cornK (-1) fX ps 0 ∧ cornK 1 fY ps 0 = cornK (-1) fY ps 0) := Lib.hid ⟨rfl, rfl⟩
    clear hp hu e0 e1 e2 hpa hf h0 hl
    have hmm : Bx w.heap.size w ((w.alloc (.cells #[.int .u64 0, .int .u64 0] 38)).alloc (.cells #[.int .u64 0, .int .u64 0] 38)) _ _ := ((Bx.start w).alloc (.cells #[.int .u64 0, .int .u64 0] 38 (0, 0))).alloc (.cells #[.int .u64 0, .int .u64 0] 38 (0, 0))
    go_enter Tryz.func29, Tryz.ntmps29
    go_upto_region 1 with (fail)
    generalize (World.alloc (World.alloc w _) _) = v at *
    (try simp only [List.nil_append, List.cons_append, World.size_alloc, List.set_cons_zero, List.set_cons_succ, putsC, pB, pC, pD] at hmm)
    have HM := Lib.hid hmm
    clear hmm
    ((try dsimp only); repeat (first | go_values | go_skip | go_guarded | go_step | go_upon))
    refine (HFi.out _ HM.out.m.b).mono ?_
    rintro e w1 ⟨rfl, hb⟩
    have hm := HM.out.keep hb
    clear HM hb HFi
    have HM := Lib.hid hm
    clear hm
    go_upto_region 5 with (fail)
    generalize hx0 : cornK (-1) fX ps 0 = zx at *
    generalize hy0 : cornK (-1) fY ps 0 = zy at *
    have HXY := Lib.hid (And.intro hx0 hy0)
    clear hx0 hy0
    refine start_ (n := 10) (S := fun w' => Below w1.heap.size w1 w') (ds := [9]) (bt 10 0) (by kernel_rfl) rfl rfl ((Below.refl _ _).drew) (fun hHeld => ?_)
    refine pv_ 0 21 ?_
    refine pv_ 1 22 ?_
    refine ld_ 2 23 ?_ hHeld ?_ ?_; rotate_left
    · rintro w' hs
      obtain ⟨c0, c1⟩ := HR0.out _ (HM.out.m.b.trans (hs.mono HM.out.m.b.size))
      clear hs
      go_simp; with_reducible rfl
    refine pv_ 3 24 ?_
    refine pv_ 4 25 ?_
    refine ld_ 5 26 ?_ hHeld ?_ ?_; rotate_left
    · rintro w' hs
      obtain ⟨c0, c1⟩ := HR0.out _ (HM.out.m.b.trans (hs.mono HM.out.m.b.size))
      clear hs
      go_simp; with_reducible rfl
    refine join_ (σ := Nat × Nat) 2 (bt 10 255) (fun s => [(5, .pointer (some ⟨(s.1), 0, none⟩)), (6, .pointer (some ⟨(s.2), 0, none⟩))]) (fun s w' => Bx w1.heap.size w1 w' [((s.1), .cells #[.int .u64 0, .int .u64 0] 38 (0, 0)), ((s.2), .cells #[.int .u64 0, .int .u64 0] 38 (0, 0))] []) ?_ ?_
    rotate_left
    · intro J0
      refine join_ (σ := Nat × Nat) 3 (bt 10 127) (fun s => [(5, .pointer (some ⟨(s.1), 0, none⟩))]) (fun s w' => Bx w1.heap.size w1 w' [((s.1), .cells #[.int .u64 0, .int .u64 0] 38 (0, 0))] []) ?_ ?_
      · rintro ⟨g1_6, g1_7⟩ wj hF
        try dsimp only at hF ⊢
        refine nx ?_
        refine o1 7 6 (bt 10 255) ?_
        · intro K hK
          refine al_ (.cells #[.int .u64 0, .int .u64 0] 38) ?_
          have hN := hF.alloc (.cells #[.int .u64 0, .int .u64 0] 38 (0, 0))
          refine hK.out _ _ (by exact hN.m.b) (fun hHeld => ?_)
          exact nj (J0 (g1_6, wj.heap.size) _ hN)
      intro J1
      refine join_ (σ := Nat × Nat) 3 (bt 10 191) (fun s => [(6, .pointer (some ⟨(s.2), 0, none⟩))]) (fun s w' => Bx w1.heap.size w1 w' [((s.2), .cells #[.int .u64 0, .int .u64 0] 38 (0, 0))] []) ?_ ?_
      · rintro ⟨g1_6, g1_7⟩ wj hF
        try dsimp only at hF ⊢
        refine nx ?_
        refine o1 6 5 (bt 10 255) ?_
        · intro K hK
          refine al_ (.cells #[.int .u64 0, .int .u64 0] 38) ?_
          have hN := hF.alloc (.cells #[.int .u64 0, .int .u64 0] 38 (0, 0))
          have hN := hN.sel (L' := [(wj.heap.size, .cells #[.int .u64 0, .int .u64 0] 38 (0, 0)), (g1_7, .cells #[.int .u64 0, .int .u64 0] 38 (0, 0))]) (R' := []) (fun i => [1, 0].getD i i) (fun i x e => match i, e with | 0, e => e | 1, e => e) (fun i j hi hj => (show ∀ i, i < 2 → ∀ j, j < 2 → [1, 0].getD i i = [1, 0].getD j j → i = j by decide) i hi j hj) (by first | exact fun x h => h | (simp only [List.nil_append, List.cons_append, List.mem_cons]; grind))
          refine hK.out _ _ (by exact hN.m.b) (fun hHeld => ?_)
          exact nj (J0 (wj.heap.size, g1_7) _ hN)
      intro J2
      refine join_ (σ := Nat × Nat) 4 (bt 10 63) (fun s => []) (fun s w' => Bx w1.heap.size w1 w' [] []) ?_ ?_
      · rintro ⟨g1_6, g1_7⟩ wj hF
        try dsimp only at hF ⊢
        refine nx ?_
        refine o2 6 5 7 6 (bt 10 127) (bt 10 191) ?_ ?_
        · intro K hK
          refine al_ (.cells #[.int .u64 0, .int .u64 0] 38) ?_
          have hN := hF.alloc (.cells #[.int .u64 0, .int .u64 0] 38 (0, 0))
          refine hK.out _ _ (by exact hN.m.b) (fun hHeld => ?_)
          exact nj (J1 (wj.heap.size, g1_7) _ hN)
        · intro K hK
          refine al_ (.cells #[.int .u64 0, .int .u64 0] 38) ?_
          have hN := hF.alloc (.cells #[.int .u64 0, .int .u64 0] 38 (0, 0))
          refine hK.out _ _ (by exact hN.m.b) (fun hHeld => ?_)
          exact nj (J2 (g1_6, wj.heap.size) _ hN)
      intro J3
      exact nj (J3 (0, 0) _ ((Bx.start _).drew))
    rintro ⟨g1_6, g1_7⟩ wj hF
    try dsimp only at hF ⊢
    refine nx ?_
    have hge2 := hF.g 0 _ _ rfl
    have hge3 := hF.g 1 _ _ rfl
    have hG := HM.out.join hF
    (try simp only [List.nil_append, List.cons_append, World.size_alloc, List.set_cons_zero, List.set_cons_succ, putsC, pB, pC, pD] at hG)
    have hHeld := And.intro True.intro hF.m.b
    clear HM hF
    refine one_ (i := 8) (N := none) (bt 10 511) rfl rfl (by kernel_rfl) (by decide) (fun K hK => ?_)
    obtain ⟨y0, y1, y2, y3⟩ := rw2 (hG.at 2 rfl)
    refine skip_ (w1 := puts (g1_6) [(0, .int .u64 zx), (1, .int .u64 zy)] wj) (by rfl) rfl ?_ ?_
    · go_simp
      rfl
    replace hHeld := And.intro True.intro (puts_below hge2 [(0, .int .u64 zx), (1, .int .u64 zy)] _ hHeld.2)
    refine hK.out _ _ (by exact hHeld.2) (fun _ => ?_)
    clear hK K y0 y1 y2 y3
    replace hG := hG.puts 2 rfl (by decide) [(0, .int .u64 zx), (1, .int .u64 zy)]
    (try simp only [List.nil_append, List.cons_append, World.size_alloc, List.set_cons_zero, List.set_cons_succ, putsC, pB, pC, pD] at hG)
    generalize puts (g1_6) _ wj = wk2 at *
    refine last_ (i := 9) (N := none) (bt 10 1023) rfl rfl (by kernel_rfl) (by decide) (fun K hK => ?_)
    obtain ⟨y0, y1, y2, y3⟩ := rw2 (hG.at 3 rfl)
    refine skip_ (w1 := puts (g1_7) [(0, .int .u64 zx), (1, .int .u64 zy)] wk2) (by rfl) rfl ?_ ?_
    · go_simp
      rfl
    refine hK.out _ _ ?_
    clear hK K y0 y1 y2 y3
    replace hG := hG.puts 3 rfl (by decide) [(0, .int .u64 zx), (1, .int .u64 zy)]
    (try simp only [List.nil_append, List.cons_append, World.size_alloc, List.set_cons_zero, List.set_cons_succ, putsC, pB, pC, pD] at hG)
    generalize puts (g1_7) _ wk2 = wk3 at *
    refine done_ (by kernel_rfl) ?_
    (try simp only [List.nil_append, List.cons_append, World.size_alloc, List.set_cons_zero, List.set_cons_succ, putsC, pB, pC, pD] at hG)
    have HM := Lib.hid hG
    clear hG hHeld
    ((try dsimp only); repeat (first | go_values | go_skip | go_guarded | go_step | go_upon))
    go_loopw [29] (fun i wr => ∃ k : Nat, i = .int .i64 k ∧ k ≤ ps.length ∧ Bx w.heap.size w wr [(w.heap.size, .cells #[.int .u64 0, .int .u64 0] 38 (0, 0)), (w.heap.size + 1, .cells #[.int .u64 0, .int .u64 0] 38 (0, 0)), (g1_6, .cells #[.int .u64 (cornK (-1) fX ps k), .int .u64 (cornK (-1) fY ps k)] 38 (0, 0)), (g1_7, .cells #[.int .u64 (cornK 1 fX ps k), .int .u64 (cornK 1 fY ps k)] 38 (0, 0))] []) (fun i _ => ps.length - (intOf i).toNat)
    case atStart =>
      refine ⟨0, rfl, Nat.zero_le _, ?_⟩
      rw [HC0.out.1, HC0.out.2, HXY.out.1, HXY.out.2]
      exact HM.out
    case round =>
      obtain ⟨k, rfl, hk, hB⟩ := hrel
      clear HM HXY HC0 HR0
      have HM := Lib.hid hB
      clear hB
      by_cases h0 : k < ps.length
      · obtain ⟨x1, x2⟩ := corn_fin (s := -1) HFP.out.1 HFP.out.2.1 hk
        obtain ⟨x3, x4⟩ := corn_fin (s := 1) HFP.out.1 HFP.out.2.1 hk
        have pk := HFP.out.1 _ (getD_mem h0)
        have q0 := HR.out k h0 wr HM.out.m.b
        have HS : Hid (cornK (-1) fX ps (k + 1) = farB (-1) (cornK (-1) fX ps k) (ps.getD k (0, 0)).1 ∧ cornK (-1) fY ps (k + 1) = farB (-1) (cornK (-1) fY ps k) (ps.getD k (0, 0)).2 ∧ cornK 1 fX ps (k + 1) = farB 1 (cornK 1 fX ps k) (ps.getD k (0, 0)).1 ∧ cornK 1 fY ps (k + 1) = farB 1 (cornK 1 fY ps k) (ps.getD k (0, 0)).2) := Lib.hid ⟨cornK_succ _ _ _ _, cornK_succ _ _ _ _, cornK_succ _ _ _ _, cornK_succ _ _ _ _⟩
        generalize cornK (-1) fX ps k = l1 at *
        generalize cornK (-1) fY ps k = l2 at *
        generalize cornK 1 fX ps k = h1 at *
        generalize cornK 1 fY ps k = h2 at *
        generalize ps.getD k (0, 0) = q at *
        have H1 := Lib.hid (fun wz => lFarther l1 q.1 (-1) wz x1 pk.1)
        have H2 := Lib.hid (fun wz => lFarther l2 q.2 (-1) wz x2 pk.2)
        have H3 := Lib.hid (fun wz => lFarther h1 q.1 1 wz x3 pk.1)
        have H4 := Lib.hid (fun wz => lFarther h2 q.2 1 wz x4 pk.2)
        generalize farB (-1) l1 q.1 = m1 at *
        generalize farB (-1) l2 q.2 = m2 at *
        generalize farB 1 h1 q.1 = m3 at *
        generalize farB 1 h2 q.2 = m4 at *
        obtain ⟨q1, q2⟩ := q0
        have hi : (k : Int) < (ps.length : Int) := by omega
        have hw1 : wrap64 ((k : Int) + 1) = ((k + 1 : Nat) : Int) := by have := HFP.out.2.2; clear HM HS H1 H2 H3 H4 HR HFP; unfold wrap64; omega
        have W1 := Lib.hid hw1
        have HK0 := Lib.hid h0
        clear hw1 x1 x2 x3 x4 pk
        go_upto_region 8 with (fail)
        have hm : Bx w.heap.size w (World.alloc wr (.cells #[.int .u64 q.1, .int .u64 q.2] 38)) _ _ := (HM.out.alloc (.cells #[.int .u64 q.1, .int .u64 q.2] 38 (0, 0)))
        go_upto_region 9 with (fail)
        generalize (World.alloc wr _) = v4 at *
        clear HM 
        (try simp only [List.nil_append, List.cons_append, World.size_alloc, List.set_cons_zero, List.set_cons_succ, putsC, pB, pC, pD] at hm)
        have HM := Lib.hid hm
        clear hm
        clear q1 q2
        refine start_ (n := 14) (S := fun w' => w'.heap[g1_6]? = v4.heap[g1_6]? ∧ w'.heap[wr.heap.size]? = v4.heap[wr.heap.size]?) (ds := [11, 13]) (bt 14 0) (by kernel_rfl) rfl rfl ((And.intro rfl rfl)) (fun hHeld => ?_)
        refine pv_ 0 33 ?_
        refine ld_ 1 34 ?_ hHeld ?_ ?_; rotate_left
        · rintro w' hs
          obtain ⟨q0, q1, q2, q3⟩ := rw2 ((hs.1).trans (HM.out.at 2 rfl))
          clear hs
          go_simp; with_reducible rfl
        refine pv_ 2 35 ?_
        refine ld_ 3 36 ?_ hHeld ?_ ?_; rotate_left
        · rintro w' hs
          obtain ⟨q0, q1, q2, q3⟩ := rw2 ((hs.2).trans (HM.out.at 4 rfl))
          clear hs
          go_simp; with_reducible rfl
        refine pv_ 5 38 ?_
        refine ld_ 6 39 ?_ hHeld ?_ ?_; rotate_left
        · rintro w' hs
          obtain ⟨q0, q1, q2, q3⟩ := rw2 ((hs.1).trans (HM.out.at 2 rfl))
          clear hs
          go_simp; with_reducible rfl
        refine pv_ 7 40 ?_
        refine ld_ 8 41 ?_ hHeld ?_ ?_; rotate_left
        · rintro w' hs
          obtain ⟨q0, q1, q2, q3⟩ := rw2 ((hs.2).trans (HM.out.at 4 rfl))
          clear hs
          go_simp; with_reducible rfl
        refine join_ (σ := Unit) 3 (bt 14 2047) (fun s => [(37, .int .u64 m1), (42, .int .u64 m2), (43, .pointer (some ⟨g1_6, 0, none⟩))]) (fun s w' => Bx v4.heap.size v4 w' [] []) ?_ ?_
        rotate_left
        · intro J0
          refine join_ (σ := Unit) 4 (bt 14 1535) (fun s => [(37, .int .u64 m1), (43, .pointer (some ⟨g1_6, 0, none⟩))]) (fun s w' => Bx v4.heap.size v4 w' [] []) ?_ ?_
          · rintro _ wj hF
            try dsimp only at hF ⊢
            refine nx ?_
            refine o1 9 42 (bt 14 2047) ?_
            · intro K hK
              refine go_ Tryz.func86 #[.int .u64 l2, .int .u64 q.2, .int .i64 (-1)] ?_
              with_reducible refine (H2.out wj).mono ?_
              rintro e w' ⟨rfl, hb⟩
              refine ⟨_, rfl, ?_⟩
              have hN := hF.keep hb
              refine hK.out _ _ (by exact (And.intro (hN.m.b.block _ (HM.out.lt 2 rfl)) (hN.m.b.block _ (HM.out.lt 4 rfl)))) (fun hHeld => ?_)
              exact nj (J0 () _ hN)
          intro J1
          refine join_ (σ := Unit) 5 (bt 14 511) (fun s => [(37, .int .u64 m1)]) (fun s w' => Bx v4.heap.size v4 w' [] []) ?_ ?_
          · rintro _ wj hF
            try dsimp only at hF ⊢
            refine nx ?_
            refine pv_ 10 43 ?_
            exact nj (J1 () _ hF)
          intro J2
          refine join_ (σ := Unit) 6 (bt 14 495) (fun s => []) (fun s w' => Bx v4.heap.size v4 w' [] []) ?_ ?_
          · rintro _ wj hF
            try dsimp only at hF ⊢
            refine nx ?_
            refine o1 4 37 (bt 14 511) ?_
            · intro K hK
              refine go_ Tryz.func86 #[.int .u64 l1, .int .u64 q.1, .int .i64 (-1)] ?_
              with_reducible refine (H1.out wj).mono ?_
              rintro e w' ⟨rfl, hb⟩
              refine ⟨_, rfl, ?_⟩
              have hN := hF.keep hb
              refine hK.out _ _ (by exact (And.intro (hN.m.b.block _ (HM.out.lt 2 rfl)) (hN.m.b.block _ (HM.out.lt 4 rfl)))) (fun hHeld => ?_)
              exact nj (J2 () _ hN)
          intro J3
          exact nj (J3 () _ ((Bx.start _).drew))
        rintro _ wj hF
        try dsimp only at hF ⊢
        refine nx ?_
        have hG := HM.out.join hF
        (try simp only [List.nil_append, List.cons_append, World.size_alloc, List.set_cons_zero, List.set_cons_succ, putsC, pB, pC, pD] at hG)
        have hHeld := And.intro True.intro (And.intro (hF.m.b.block _ (HM.out.lt 2 rfl)) (hF.m.b.block _ (HM.out.lt 4 rfl)))
        clear HM hF
        refine last_ (i := 11) (N := none) (bt 14 4095) rfl rfl (by kernel_rfl) (by decide) (fun K hK => ?_)
        obtain ⟨y0, y1, y2, y3⟩ := rw2 (hG.at 2 rfl)
        refine skip_ (w1 := puts (g1_6) [(0, .int .u64 m1)] wj) (by rfl) rfl ?_ ?_
        · go_simp
          rfl
        refine hK.out _ _ ?_
        clear hK K y0 y1 y2 y3
        replace hG := hG.puts 2 rfl (by decide) [(0, .int .u64 m1)]
        (try simp only [List.nil_append, List.cons_append, World.size_alloc, List.set_cons_zero, List.set_cons_succ, putsC, pB, pC, pD] at hG)
        generalize puts (g1_6) _ wj = wk6 at *
        refine pv_ 12 44 ?_
        refine last_ (i := 13) (N := none) (bt 14 16383) rfl rfl (by kernel_rfl) (by decide) (fun K hK => ?_)
        obtain ⟨y0, y1, y2, y3⟩ := rw2 (hG.at 2 rfl)
        refine skip_ (w1 := puts (g1_6) [(1, .int .u64 m2)] wk6) (by rfl) rfl ?_ ?_
        · go_simp
          rfl
        refine hK.out _ _ ?_
        clear hK K y0 y1 y2 y3
        replace hG := hG.puts 2 rfl (by decide) [(1, .int .u64 m2)]
        (try simp only [List.nil_append, List.cons_append, World.size_alloc, List.set_cons_zero, List.set_cons_succ, putsC, pB, pC, pD] at hG)
        generalize puts (g1_6) _ wk6 = wk7 at *
        refine done_ (by kernel_rfl) ?_
        (try simp only [List.nil_append, List.cons_append, World.size_alloc, List.set_cons_zero, List.set_cons_succ, putsC, pB, pC, pD] at hG)
        have HM := Lib.hid hG
        clear hG hHeld
        go_upto_region 10 with (fail)
        refine start_ (n := 14) (S := fun w' => w'.heap[g1_7]? = wk7.heap[g1_7]? ∧ w'.heap[wr.heap.size]? = wk7.heap[wr.heap.size]?) (ds := [11, 13]) (bt 14 0) (by kernel_rfl) rfl rfl ((And.intro rfl rfl)) (fun hHeld => ?_)
        refine pv_ 0 45 ?_
        refine ld_ 1 46 ?_ hHeld ?_ ?_; rotate_left
        · rintro w' hs
          obtain ⟨q0, q1, q2, q3⟩ := rw2 ((hs.1).trans (HM.out.at 3 rfl))
          clear hs
          go_simp; with_reducible rfl
        refine pv_ 2 47 ?_
        refine ld_ 3 48 ?_ hHeld ?_ ?_; rotate_left
        · rintro w' hs
          obtain ⟨q0, q1, q2, q3⟩ := rw2 ((hs.2).trans (HM.out.at 4 rfl))
          clear hs
          go_simp; with_reducible rfl
        refine pv_ 5 50 ?_
        refine ld_ 6 51 ?_ hHeld ?_ ?_; rotate_left
        · rintro w' hs
          obtain ⟨q0, q1, q2, q3⟩ := rw2 ((hs.1).trans (HM.out.at 3 rfl))
          clear hs
          go_simp; with_reducible rfl
        refine pv_ 7 52 ?_
        refine ld_ 8 53 ?_ hHeld ?_ ?_; rotate_left
        · rintro w' hs
          obtain ⟨q0, q1, q2, q3⟩ := rw2 ((hs.2).trans (HM.out.at 4 rfl))
          clear hs
          go_simp; with_reducible rfl
        refine join_ (σ := Unit) 3 (bt 14 2047) (fun s => [(49, .int .u64 m3), (54, .int .u64 m4), (55, .pointer (some ⟨g1_7, 0, none⟩))]) (fun s w' => Bx wk7.heap.size wk7 w' [] []) ?_ ?_
        rotate_left
        · intro J0
          refine join_ (σ := Unit) 4 (bt 14 1535) (fun s => [(49, .int .u64 m3), (55, .pointer (some ⟨g1_7, 0, none⟩))]) (fun s w' => Bx wk7.heap.size wk7 w' [] []) ?_ ?_
          · rintro _ wj hF
            try dsimp only at hF ⊢
            refine nx ?_
            refine o1 9 54 (bt 14 2047) ?_
            · intro K hK
              refine go_ Tryz.func86 #[.int .u64 h2, .int .u64 q.2, .int .i64 1] ?_
              with_reducible refine (H4.out wj).mono ?_
              rintro e w' ⟨rfl, hb⟩
              refine ⟨_, rfl, ?_⟩
              have hN := hF.keep hb
              refine hK.out _ _ (by exact (And.intro (hN.m.b.block _ (HM.out.lt 3 rfl)) (hN.m.b.block _ (HM.out.lt 4 rfl)))) (fun hHeld => ?_)
              exact nj (J0 () _ hN)
          intro J1
          refine join_ (σ := Unit) 5 (bt 14 511) (fun s => [(49, .int .u64 m3)]) (fun s w' => Bx wk7.heap.size wk7 w' [] []) ?_ ?_
          · rintro _ wj hF
            try dsimp only at hF ⊢
            refine nx ?_
            refine pv_ 10 55 ?_
            exact nj (J1 () _ hF)
          intro J2
          refine join_ (σ := Unit) 6 (bt 14 495) (fun s => []) (fun s w' => Bx wk7.heap.size wk7 w' [] []) ?_ ?_
          · rintro _ wj hF
            try dsimp only at hF ⊢
            refine nx ?_
            refine o1 4 49 (bt 14 511) ?_
            · intro K hK
              refine go_ Tryz.func86 #[.int .u64 h1, .int .u64 q.1, .int .i64 1] ?_
              with_reducible refine (H3.out wj).mono ?_
              rintro e w' ⟨rfl, hb⟩
              refine ⟨_, rfl, ?_⟩
              have hN := hF.keep hb
              refine hK.out _ _ (by exact (And.intro (hN.m.b.block _ (HM.out.lt 3 rfl)) (hN.m.b.block _ (HM.out.lt 4 rfl)))) (fun hHeld => ?_)
              exact nj (J2 () _ hN)
          intro J3
          exact nj (J3 () _ ((Bx.start _).drew))
        rintro _ wj hF
        try dsimp only at hF ⊢
        refine nx ?_
        have hG := HM.out.join hF
        (try simp only [List.nil_append, List.cons_append, World.size_alloc, List.set_cons_zero, List.set_cons_succ, putsC, pB, pC, pD] at hG)
        have hHeld := And.intro True.intro (And.intro (hF.m.b.block _ (HM.out.lt 3 rfl)) (hF.m.b.block _ (HM.out.lt 4 rfl)))
        clear HM hF
        refine last_ (i := 11) (N := none) (bt 14 4095) rfl rfl (by kernel_rfl) (by decide) (fun K hK => ?_)
        obtain ⟨y0, y1, y2, y3⟩ := rw2 (hG.at 3 rfl)
        refine skip_ (w1 := puts (g1_7) [(0, .int .u64 m3)] wj) (by rfl) rfl ?_ ?_
        · go_simp
          rfl
        refine hK.out _ _ ?_
        clear hK K y0 y1 y2 y3
        replace hG := hG.puts 3 rfl (by decide) [(0, .int .u64 m3)]
        (try simp only [List.nil_append, List.cons_append, World.size_alloc, List.set_cons_zero, List.set_cons_succ, putsC, pB, pC, pD] at hG)
        generalize puts (g1_7) _ wj = wk9 at *
        refine pv_ 12 56 ?_
        refine last_ (i := 13) (N := none) (bt 14 16383) rfl rfl (by kernel_rfl) (by decide) (fun K hK => ?_)
        obtain ⟨y0, y1, y2, y3⟩ := rw2 (hG.at 3 rfl)
        refine skip_ (w1 := puts (g1_7) [(1, .int .u64 m4)] wk9) (by rfl) rfl ?_ ?_
        · go_simp
          rfl
        refine hK.out _ _ ?_
        clear hK K y0 y1 y2 y3
        replace hG := hG.puts 3 rfl (by decide) [(1, .int .u64 m4)]
        (try simp only [List.nil_append, List.cons_append, World.size_alloc, List.set_cons_zero, List.set_cons_succ, putsC, pB, pC, pD] at hG)
        generalize puts (g1_7) _ wk9 = wk10 at *
        refine done_ (by kernel_rfl) ?_
        (try simp only [List.nil_append, List.cons_append, World.size_alloc, List.set_cons_zero, List.set_cons_succ, putsC, pB, pC, pD] at hG)
        have HM := Lib.hid hG
        clear hG hHeld
        ((try dsimp only); repeat (first | go_values | go_skip | go_guarded | go_step | go_upon))
        refine ⟨⟨k + 1, vint W1.out, HK0.out, ?_⟩, ?_⟩
        · rw [HS.out.1, HS.out.2.1, HS.out.2.2.1, HS.out.2.2.2]; exact HM.out.pre ⟨_, rfl⟩ ⟨_, rfl⟩
        · show ps.length - (intOf (.int .i64 (wrap64 ((k : Int) + 1)))).toNat < ps.length - (intOf (.int .i64 (k : Int))).toNat
          rw [W1.out]
          have hk0 := HK0.out
          clear HM HS H1 H2 H3 H4 HR HFP W1 HK0
          show ps.length - (((k + 1 : Nat) : Int)).toNat < ps.length - ((k : Int)).toNat
          omega
      · obtain rfl : k = ps.length := by omega
        obtain ⟨l1, el1⟩ : ∃ x, cornK (-1) fX ps ps.length = x := ⟨_, rfl⟩
        obtain ⟨l2, el2⟩ : ∃ x, cornK (-1) fY ps ps.length = x := ⟨_, rfl⟩
        obtain ⟨h1, eh1⟩ : ∃ x, cornK 1 fX ps ps.length = x := ⟨_, rfl⟩
        obtain ⟨h2, eh2⟩ : ∃ x, cornK 1 fY ps ps.length = x := ⟨_, rfl⟩
        rw [el1, el2, eh1, eh2] at HM
        have HE := Lib.hid (And.intro el1 (And.intro el2 (And.intro eh1 eh2)))
        clear el1 el2 eh1 eh2
        go_upto_region 12 with (fail)
        refine start_ (n := 5) (S := fun w' => w'.heap[g1_6]? = wr.heap[g1_6]? ∧ w'.heap[g1_7]? = wr.heap[g1_7]?) (ds := [3]) (bt 5 0) (by kernel_rfl) rfl rfl ((And.intro rfl rfl)) (fun hHeld => ?_)
        refine ld_ 0 58 ?_ hHeld ?_ ?_; rotate_left
        · rintro w' hs
          obtain ⟨q0, q1, q2, q3⟩ := rw2 ((hs.1).trans (HM.out.at 2 rfl))
          clear hs
          go_simp; with_reducible rfl
        refine ld_ 1 59 ?_ hHeld ?_ ?_; rotate_left
        · rintro w' hs
          obtain ⟨q0, q1, q2, q3⟩ := rw2 ((hs.2).trans (HM.out.at 3 rfl))
          clear hs
          go_simp; with_reducible rfl
        have hG := HM.out.drew
        replace hHeld := And.intro True.intro hHeld
        clear HM
        generalize hwg : wr.drew = wj at *
        clear hwg
        refine one_ (i := 2) (N := none) (bt 5 7) rfl rfl (by kernel_rfl) (by decide) (fun K hK => ?_)
        obtain ⟨y0, y1, y2, y3⟩ := rw2 (hG.at 0 rfl)
        refine skip_ (w1 := puts (w.heap.size) [(0, .int .u64 l1), (1, .int .u64 l2)] wj) (by rfl) rfl ?_ ?_
        · go_simp
          rfl
        replace hHeld := And.intro True.intro (And.intro ((puts_other (hG.ne 2 0 rfl rfl (by decide)) [(0, .int .u64 l1), (1, .int .u64 l2)] wj).trans hHeld.2.1) ((puts_other (hG.ne 3 0 rfl rfl (by decide)) [(0, .int .u64 l1), (1, .int .u64 l2)] wj).trans hHeld.2.2))
        refine hK.out _ _ (by exact hHeld.2) (fun _ => ?_)
        clear hK K y0 y1 y2 y3
        replace hG := hG.puts 0 rfl (by decide) [(0, .int .u64 l1), (1, .int .u64 l2)]
        (try simp only [List.nil_append, List.cons_append, World.size_alloc, List.set_cons_zero, List.set_cons_succ, putsC, pB, pC, pD] at hG)
        generalize puts (w.heap.size) _ wj = wk4 at *
        refine last_ (i := 3) (N := none) (bt 5 15) rfl rfl (by kernel_rfl) (by decide) (fun K hK => ?_)
        obtain ⟨y0, y1, y2, y3⟩ := rw2 (hG.at 1 rfl)
        refine skip_ (w1 := puts (w.heap.size + 1) [(0, .int .u64 h1), (1, .int .u64 h2)] wk4) (by rfl) rfl ?_ ?_
        · go_simp
          rfl
        refine hK.out _ _ ?_
        clear hK K y0 y1 y2 y3
        replace hG := hG.puts 1 rfl (by decide) [(0, .int .u64 h1), (1, .int .u64 h2)]
        (try simp only [List.nil_append, List.cons_append, World.size_alloc, List.set_cons_zero, List.set_cons_succ, putsC, pB, pC, pD] at hG)
        generalize puts (w.heap.size + 1) _ wk4 = wk5 at *
        refine pv_ 4 4 ?_
        refine done_ (by kernel_rfl) ?_
        (try simp only [List.nil_append, List.cons_append, World.size_alloc, List.set_cons_zero, List.set_cons_succ, putsC, pB, pC, pD] at hG)
        have HM := Lib.hid hG
        clear hG hHeld
        ((try dsimp only); repeat (first | go_values | go_skip | go_guarded | go_step | go_upon))
        refine bodyPost_ret (results_rows2 rfl _ _ (w.heap.size) (w.heap.size + 1) _ _ _ _ _ _ _ _ rfl rfl (HM.out.at 0 rfl) (HM.out.at 1 rfl) rfl rfl rfl rfl rfl rfl) rfl ?_
        exact ⟨by rw [HE.out.1, HE.out.2.1, HE.out.2.2.1, HE.out.2.2.2]; rfl, HM.out.m.b⟩
  · have hf2 : finB ps = false := by rwa [Bool.not_eq_true] at hf
    have e0 : boxE ps = 220 := by unfold boxE; rw [if_neg h0, if_neg hf]
    have e1 : lowP ps = (0, 0) := by unfold lowP; rw [e0]; rfl
    have e2 : highP ps = (0, 0) := by unfold highP; rw [e0]; rfl
    rw [e0, e1, e2]
    rw [hf2] at HFi
    clear hp hu e0 e1 e2 hf hf2
    have hmm : Bx w.heap.size w ((w.alloc (.cells #[.int .u64 0, .int .u64 0] 38)).alloc (.cells #[.int .u64 0, .int .u64 0] 38)) _ _ := ((Bx.start w).alloc (.cells #[.int .u64 0, .int .u64 0] 38 (0, 0))).alloc (.cells #[.int .u64 0, .int .u64 0] 38 (0, 0))
    go_enter Tryz.func29, Tryz.ntmps29
    go_upto_region 1 with (fail)
    generalize (World.alloc (World.alloc w _) _) = v at *
    (try simp only [List.nil_append, List.cons_append, World.size_alloc, List.set_cons_zero, List.set_cons_succ, putsC, pB, pC, pD] at hmm)
    have HM := Lib.hid hmm
    clear hmm
    ((try dsimp only); repeat (first | go_values | go_skip | go_guarded | go_step | go_upon))
    refine (HFi.out _ HM.out.m.b).mono ?_
    rintro e w1 ⟨rfl, hb⟩
    have hm := HM.out.keep hb
    clear HM hb HFi
    have HM := Lib.hid hm
    clear hm
    obtain ⟨c0_0, c0_1, c0_2, c0_3⟩ := rw2 (HM.out.at 0 rfl)
    obtain ⟨c1_0, c1_1, c1_2, c1_3⟩ := rw2 (HM.out.at 1 rfl)
    ((try dsimp only); repeat (first | go_values | go_skip | go_guarded | go_step | go_upon))
    refine bodyPost_ret (results_rows2 rfl _ _ (w.heap.size) (w.heap.size + 1) _ _ _ _ _ _ _ _ rfl rfl (((HM.out.puts 0 rfl (by decide) [(0, .int .u64 0), (1, .int .u64 0)]).puts 1 rfl (by decide) [(0, .int .u64 0), (1, .int .u64 0)]).at 0 rfl) (((HM.out.puts 0 rfl (by decide) [(0, .int .u64 0), (1, .int .u64 0)]).puts 1 rfl (by decide) [(0, .int .u64 0), (1, .int .u64 0)]).at 1 rfl) rfl rfl rfl rfl rfl rfl) rfl ?_
    exact ⟨rfl, ((HM.out.puts 0 rfl (by decide) [(0, .int .u64 0), (1, .int .u64 0)]).puts 1 rfl (by decide) [(0, .int .u64 0), (1, .int .u64 0)]).m.b⟩
theorem run_app_ptsW {w : World} {base n c : Nat} {v : Value} {cs bs : List Pt} {A : Option Addr} (hown : w.ownsRow base 38 2 v n (ptC cs)) (hb : PtsIn w A bs) (hn : n + bs.length ≤ 8796093022208) (hm : bs.length ≤ 8796093022208) (hbase : base ≤ w.heap.size) :
    ∃ v' w', (Builtin.append_ #[22, 22] 22 #[v, .slice A bs.length c]).run Tryz.prog w = .ok v' w' ∧ w'.ownsRow base 38 2 v' (n + bs.length) (ptC (cs ++ bs)) ∧ w.grownBy w' v.ownBlock := by
  rcases hb with rfl | ⟨b, o, rfl, hlt, hp⟩
  · rw [List.append_nil]; exact run_app_none hown
  · obtain ⟨i, hi, h1, h2, h3⟩ := info_parts info_ptz
    obtain ⟨v', w', k1, k2, k3, _⟩ := run_append_own (P := Tryz.prog) w base 22 22 38 i _ 2 16 Tryz.underlying22 hi h1 h2 h3 rfl (by decide) v n (ptC cs) hown ⟨b, o, none⟩ bs.length c (ptC bs) (ptC_len bs) (ptC_cells hp) (ptC_one bs) (by simp only [maxLen]; omega) (by omega) hbase
    exact ⟨v', w', k1, by rw [ptC_app]; exact k2, k3⟩
theorem wp_app_ptsW {w : World} {o : Oper} {a : Act} {K : Act → World → Prop} {Q : Exit → Act → World → Prop} (s x : Operand) (ho : o.op = .call { callee := .builtin .append, args := #[s, x], argTypes := #[22, 22] }) (hty : o.type = 22)
    (base n c : Nat) (v : Value) (cs bs : List Pt) (A : Option Addr) (hs : a.eval s = v) (hx : a.eval x = .slice A bs.length c) (hown : w.ownsRow base 38 2 v n (ptC cs)) (hb : PtsIn w A bs) (hn : n + bs.length ≤ 8796093022208) (hm : bs.length ≤ 8796093022208) (hbase : base ≤ w.heap.size)
    (h : ∀ v' w', w'.ownsRow base 38 2 v' (n + bs.length) (ptC (cs ++ bs)) → w.grownBy w' v.ownBlock → K (a.put o.dst v') w') : o.wp Tryz.prog a w K Q := by
  obtain ⟨v', w', hr, h2, h3⟩ := run_app_ptsW (c := c) hown hb hn hm hbase
  unfold Oper.wp execOp
  simp only [ho, hty, resolve, invoke, builtin, Sem.run_bind, Sem.run_pure, Result.andThen_ok, List.map_toArray, List.map_cons, List.map_nil, hs, hx, hr]
  exact h v' w' h2 h3
theorem wpList_app_ptsW {w : World} {ops : Array Oper} {rest : List Oper} {o : Oper} {a : Act} {Q : Exit → Act → World → Prop} (hgd : o.guard = none) (s x : Operand) (ho : o.op = .call { callee := .builtin .append, args := #[s, x], argTypes := #[22, 22] }) (hty : o.type = 22)
    (base n c : Nat) (v : Value) (cs bs : List Pt) (A : Option Addr) (hs : a.eval s = v) (hx : a.eval x = .slice A bs.length c) (hown : w.ownsRow base 38 2 v n (ptC cs)) (hb : PtsIn w A bs) (hn : n + bs.length ≤ 8796093022208) (hm : bs.length ≤ 8796093022208) (hbase : base ≤ w.heap.size)
    (h : ∀ v' w', w'.ownsRow base 38 2 v' (n + bs.length) (ptC (cs ++ bs)) → w.grownBy w' v.ownBlock → wpList Tryz.prog ops Q rest (a.put o.dst v') w') : wpList Tryz.prog ops Q (o :: rest) a w :=
  wpList_plain hgd fun _ hK => wp_app_ptsW s x ho hty base n c v cs bs A hs hx hown hb hn hm hbase fun v' w' h2 h3 => hK _ _ (h v' w' h2 h3)
set_option maxRecDepth 100000 in
set_option maxHeartbeats 3200000 in
theorem lCompareFuncW (A B : Option Addr) (ca cb : Nat) (a b : List Pt) (w : World) (ha : PtsIn w A a) (hb : PtsIn w B b) (la : a.length ≤ 9000000000000) (lb : b.length ≤ 9000000000000) (ua : ∀ q ∈ a, PtU q) (ub : ∀ q ∈ b, PtU q) :
    Calls Tryz.prog 161 #[.slice A a.length ca, .slice B b.length cb, .func (.func 162) #[] #[]] w fun e w' => e = .returned (.int .i64 (cmpL a b)) ∧ Below w.heap.size w w' := by
  have HA := Lib.hid ha
  have HB := Lib.hid hb
  have HU := Lib.hid (And.intro ua ub)
  have HL := Lib.hid (And.intro la lb)
  clear ha hb ua ub la lb
  go_enter Tryz.func161, Tryz.ntmps161
  ((try dsimp only); repeat (first | go_values | go_skip | go_guarded | go_step | go_upon))
  go_loopw [13] (fun i wr => ∃ k : Nat, i = .int .i64 (k : Int) ∧ k ≤ a.length ∧ k ≤ b.length ∧ (∀ j, j < k → cmpPt (a.getD j (0, 0)) (b.getD j (0, 0)) = 0) ∧ Below w.heap.size w wr) (fun i _ => a.length - (intOf i).toNat)
  case atStart => exact ⟨0, rfl, Nat.zero_le _, Nat.zero_le _, fun j hj => absurd hj (by omega), Below.refl _ _⟩
  case round =>
    obtain ⟨k, rfl, hk, hkb, hF, hB⟩ := hrel
    have HK := Lib.hid hB
    have HF := Lib.hid hF
    clear hB hF
    by_cases h0 : k < a.length
    · obtain ⟨b1, o1, rfl, hb1, hpa⟩ := HA.out.open h0
      have hp1 := (HK.out.cell (p := ⟨b1, o1 + k * 2, none⟩) hb1).trans (hpa k h0).1
      have hp2 := (HK.out.cell (p := ⟨b1, o1 + k * 2 + 1, none⟩) hb1).trans (hpa k h0).2
      have hki : (k : Int) < (a.length : Int) := by omega
      have hsB := HK.out.size
      by_cases h1 : k < b.length
      · obtain ⟨b2, o2, rfl, hb2, hpb⟩ := HB.out.open h1
        have hb3 := HK.out.alloc hsB (.cells #[.int .u64 (a.getD k (0, 0)).1, .int .u64 (a.getD k (0, 0)).2] 38)
        have hq1 := (hb3.cell (p := ⟨b2, o2 + k * 2, none⟩) hb2).trans (hpb k h1).1
        have hq2 := (hb3.cell (p := ⟨b2, o2 + k * 2 + 1, none⟩) hb2).trans (hpb k h1).2
        have hkj : (k : Int) < (b.length : Int) := by omega
        have hkn : ¬ (b.length : Int) ≤ (k : Int) := by omega
        have hkn2 : ¬ b.length ≤ k := by omega
        have HNe := Lib.hid (cmpL_ne h0 h1 HF.out)
        have HEq : Hid (cmpPt (a.getD k (0, 0)) (b.getD k (0, 0)) = 0 → ∀ j, j < k + 1 → cmpPt (a.getD j (0, 0)) (b.getD j (0, 0)) = 0) := Lib.hid (fun h j hj => by
          rcases Nat.lt_or_ge j k with g | g
          · exact HF.out j g
          · obtain rfl : j = k := by omega
            exact h)
        have HC := Lib.hid (fun wz => lCompareR (a.getD k (0, 0)) (b.getD k (0, 0)) wz (HU.out.1 _ (getD_mem h0)) (HU.out.2 _ (getD_mem h1)))
        have HX := Lib.hid (And.intro h0 h1)
        have hw1 : wrap64 ((k : Int) + 1) = ((k + 1 : Nat) : Int) := by have := HL.out.1; clear HA HB HU HC HK HF HNe HEq; unfold wrap64; omega
        have W1 := Lib.hid hw1
        clear hpa hpb hw1 hb3
        generalize cmpPt (a.getD k (0, 0)) (b.getD k (0, 0)) = c at *
        generalize a.getD k (0, 0) = p at *
        generalize b.getD k (0, 0) = q at *
        ((try dsimp only); repeat (first | go_values | go_skip | go_guarded | go_step | go_upon))
        have hb4 := (HK.out.alloc hsB (.cells #[.int .u64 p.1, .int .u64 p.2] 38))
        have hb5 := hb4.alloc hb4.size (.cells #[.int .u64 q.1, .int .u64 q.2] 38)
        have HD := Lib.hid hb5
        clear hb4 hb5 hp1 hp2 hq1 hq2
        generalize World.alloc (World.alloc wr _) _ = w5 at *
        refine (HC.out _).mono ?_
        rintro e w6 ⟨rfl, hb6⟩
        have HE := Lib.hid (HD.out.trans (hb6.mono HD.out.size))
        clear hb6
        by_cases hc : c = 0
        · subst hc
          ((try dsimp only); repeat (first | go_values | go_skip | go_guarded | go_step | go_upon))
          refine ⟨⟨k + 1, vint W1.out, HX.out.1, HX.out.2, HEq.out rfl, HE.out⟩, ?_⟩
          show a.length - (intOf (.int .i64 (wrap64 ((k : Int) + 1)))).toNat < a.length - (intOf (.int .i64 (k : Int))).toNat
          rw [W1.out]
          have hk0 := HX.out.1
          clear HA HB HU HC HK HF HNe HEq HD HE HL W1 HX
          show a.length - (((k + 1 : Nat) : Int)).toNat < a.length - ((k : Int)).toNat
          omega
        · have hcb : (c == 0) = false := beq_eq_false_iff_ne.2 hc
          have hcn : (c != 0) = true := by rw [bne, hcb]; rfl
          ((try dsimp only); repeat (first | go_values | go_skip | go_guarded | go_step | go_upon))
          go_ret
          exact ⟨by rw [HNe.out hc]; rfl, HE.out⟩
      · have hkn : (b.length : Int) ≤ (k : Int) := by omega
        have hkn2 : b.length ≤ k := by omega
        have HR := Lib.hid (cmpL_long h0 (by omega) HF.out)
        ((try dsimp only); repeat (first | go_values | go_skip | go_guarded | go_step | go_upon))
        go_ret
        exact ⟨by rw [HR.out]; rfl, HK.out.alloc hsB _⟩
    · have hka : k = a.length := by omega
      have HR := Lib.hid (cmpL_end hka hkb HF.out)
      subst hka
      have hki : ¬ (a.length : Int) < (a.length : Int) := by omega
      by_cases h1 : a.length < b.length
      · rw [if_pos h1] at HR
        have h2 : (a.length : Int) < (b.length : Int) := by omega
        ((try dsimp only); repeat (first | go_values | go_skip | go_guarded | go_step | go_upon))
        go_ret
        exact ⟨by rw [HR.out]; rfl, HK.out⟩
      · rw [if_neg h1] at HR
        have h2 : ¬ (a.length : Int) < (b.length : Int) := by omega
        ((try dsimp only); repeat (first | go_values | go_skip | go_guarded | go_step | go_upon))
        go_ret
        exact ⟨by rw [HR.out]; rfl, HK.out⟩
set_option maxRecDepth 100000 in
set_option maxHeartbeats 3200000 in
theorem lCompareLinesW (A B : Option Addr) (ca cb : Nat) (a b : List Pt) (w : World) (ha : PtsIn w A a) (hb : PtsIn w B b) (la : a.length ≤ 9000000000000) (lb : b.length ≤ 9000000000000) (ua : ∀ q ∈ a, PtU q) (ub : ∀ q ∈ b, PtU q) :
    Calls Tryz.prog 77 #[.slice A a.length ca, .slice B b.length cb] w fun e w' => e = .returned (.int .i64 (cmpL a b)) ∧ Below w.heap.size w w' := by
  have HA := Lib.hid ha
  have HB := Lib.hid hb
  have HU := Lib.hid (And.intro ua ub)
  have HL := Lib.hid (And.intro la lb)
  clear ha hb ua ub la lb
  go_enter Tryz.func77, Tryz.ntmps77
  ((try dsimp only); repeat (first | go_values | go_skip | go_guarded | go_step | go_upon))
  go_loopw [5] (fun i wr => ∃ k : Nat, i = .int .i64 (k : Int) ∧ k ≤ a.length ∧ k ≤ b.length ∧ (∀ j, j < k → cmpPt (a.getD j (0, 0)) (b.getD j (0, 0)) = 0) ∧ Below w.heap.size w wr) (fun i _ => a.length - (intOf i).toNat)
  case atStart => exact ⟨0, rfl, Nat.zero_le _, Nat.zero_le _, fun j hj => absurd hj (by omega), Below.refl _ _⟩
  case round =>
    obtain ⟨k, rfl, hk, hkb, hF, hB⟩ := hrel
    have HK := Lib.hid hB
    have HF := Lib.hid hF
    clear hB hF
    by_cases h0 : k < a.length
    · have hki : (k : Int) < (a.length : Int) := by omega
      by_cases h1 : k < b.length
      · obtain ⟨b1, o1, rfl, hb1, hpa⟩ := HA.out.open h0
        obtain ⟨b2, o2, rfl, hb2, hpb⟩ := HB.out.open h1
        have HR : Hid (∀ wz : World, Below w.heap.size w wz → (wz.cell? ⟨b1, o1 + k * 2, none⟩ = some (.int .u64 (a.getD k (0, 0)).1) ∧ wz.cell? ⟨b1, o1 + k * 2 + 1, none⟩ = some (.int .u64 (a.getD k (0, 0)).2)) ∧ wz.cell? ⟨b2, o2 + k * 2, none⟩ = some (.int .u64 (b.getD k (0, 0)).1) ∧ wz.cell? ⟨b2, o2 + k * 2 + 1, none⟩ = some (.int .u64 (b.getD k (0, 0)).2)) :=
          Lib.hid (fun wz h => ⟨⟨(h.cell (p := ⟨b1, o1 + k * 2, none⟩) hb1).trans (hpa k h0).1, (h.cell (p := ⟨b1, o1 + k * 2 + 1, none⟩) hb1).trans (hpa k h0).2⟩, (h.cell (p := ⟨b2, o2 + k * 2, none⟩) hb2).trans (hpb k h1).1, (h.cell (p := ⟨b2, o2 + k * 2 + 1, none⟩) hb2).trans (hpb k h1).2⟩)
        have hkj : (k : Int) < (b.length : Int) := by omega
        have HNe := Lib.hid (cmpL_ne h0 h1 HF.out)
        have HEq : Hid (cmpPt (a.getD k (0, 0)) (b.getD k (0, 0)) = 0 → ∀ j, j < k + 1 → cmpPt (a.getD j (0, 0)) (b.getD j (0, 0)) = 0) := Lib.hid (fun h j hj => by
          rcases Nat.lt_or_ge j k with g | g
          · exact HF.out j g
          · obtain rfl : j = k := by omega
            exact h)
        have HC := Lib.hid (fun wz => lCompare24 (a.getD k (0, 0)) (b.getD k (0, 0)) wz (HU.out.1 _ (getD_mem h0)) (HU.out.2 _ (getD_mem h1)))
        have HX := Lib.hid (And.intro h0 h1)
        have hw1 : wrap64 ((k : Int) + 1) = ((k + 1 : Nat) : Int) := by have := HL.out.1; clear HA HB HU HC HK HF HNe HEq; unfold wrap64; omega
        have W1 := Lib.hid hw1
        clear hpa hpb hw1
        generalize cmpPt (a.getD k (0, 0)) (b.getD k (0, 0)) = c at *
        generalize a.getD k (0, 0) = p at *
        generalize b.getD k (0, 0) = q at *
        go_upto_region 4 with (fail)
        refine start_ (n := 10) (S := fun w' => Below wr.heap.size wr w') (ds := []) (bt 10 0) (by kernel_rfl) rfl rfl ((Below.refl _ _).drew) (fun hHeld => ?_)
        refine pv_ 0 19 ?_
        refine pv_ 1 20 ?_
        refine pv_ 2 21 ?_
        refine ld_ 3 22 ?_ hHeld ?_ ?_; rotate_left
        · rintro w' hs
          obtain ⟨⟨c0, c1⟩, c2, c3⟩ := HR.out _ (HK.out.trans (hs.mono HK.out.size))
          clear hs
          go_simp; with_reducible rfl
        refine pv_ 4 23 ?_
        refine pv_ 5 24 ?_
        refine pv_ 6 25 ?_
        refine ld_ 7 26 ?_ hHeld ?_ ?_; rotate_left
        · rintro w' hs
          obtain ⟨⟨c0, c1⟩, c2, c3⟩ := HR.out _ (HK.out.trans (hs.mono HK.out.size))
          clear hs
          go_simp; with_reducible rfl
        refine ca_ 8 27 Tryz.func46 #[.agg #[.int .u64 p.1, .int .u64 p.2], .agg #[.int .u64 q.1, .int .u64 q.2]] ?_
        with_reducible refine (HC.out _).mono ?_
        rintro e w' ⟨rfl, hb⟩
        refine ⟨_, rfl, (by exact hHeld.trans (hb.mono hHeld.size)), fun hHeld => ?_⟩
        refine nn ?_
        refine pv_ 9 6 ?_
        refine done_ (by kernel_rfl) ?_
        have HE := Lib.hid (HK.out.trans (hHeld.mono HK.out.size))
        clear hHeld hb
        by_cases hc : c = 0
        · subst hc
          ((try dsimp only); repeat (first | go_values | go_skip | go_guarded | go_step | go_upon))
          refine ⟨⟨k + 1, vint W1.out, HX.out.1, HX.out.2, HEq.out rfl, HE.out⟩, ?_⟩
          show a.length - (intOf (.int .i64 (wrap64 ((k : Int) + 1)))).toNat < a.length - (intOf (.int .i64 (k : Int))).toNat
          rw [W1.out]
          have hk0 := HX.out.1
          clear HA HB HU HC HK HF HNe HEq HR HE HL W1 HX
          show a.length - (((k + 1 : Nat) : Int)).toNat < a.length - ((k : Int)).toNat
          omega
        · have hcb : (c == 0) = false := beq_eq_false_iff_ne.2 hc
          have hcn : (c != 0) = true := by rw [bne, hcb]; rfl
          ((try dsimp only); repeat (first | go_values | go_skip | go_guarded | go_step | go_upon))
          go_ret
          exact ⟨by rw [HNe.out hc]; rfl, HE.out⟩
      · have hkn : ¬ (k : Int) < (b.length : Int) := by omega
        have hln : ¬ (a.length : Int) < (b.length : Int) := by omega
        have hlp : (b.length : Int) < (a.length : Int) := by omega
        have hln2 : ¬ a.length < b.length := by omega
        have hlp2 : b.length < a.length := by omega
        have HR := Lib.hid (cmpL_long h0 (by omega) HF.out)
        ((try dsimp only); repeat (first | go_values | go_skip | go_guarded | go_step | go_upon))
        go_ret
        exact ⟨by rw [HR.out]; rfl, HK.out⟩
    · have hka : k = a.length := by omega
      have HR := Lib.hid (cmpL_end hka hkb HF.out)
      subst hka
      have hki : ¬ (a.length : Int) < (a.length : Int) := by omega
      by_cases h1 : a.length < b.length
      · rw [if_pos h1] at HR
        have h2 : (a.length : Int) < (b.length : Int) := by omega
        ((try dsimp only); repeat (first | go_values | go_skip | go_guarded | go_step | go_upon))
        go_ret
        exact ⟨by rw [HR.out]; rfl, HK.out⟩
      · rw [if_neg h1] at HR
        have h2 : ¬ (a.length : Int) < (b.length : Int) := by omega
        have h3 : ¬ (b.length : Int) < (a.length : Int) := by omega
        have h4 : ¬ b.length < a.length := by omega
        ((try dsimp only); repeat (first | go_values | go_skip | go_guarded | go_step | go_upon))
        go_ret
        exact ⟨by rw [HR.out]; rfl, HK.out⟩
set_option maxRecDepth 100000 in
set_option maxHeartbeats 1600000 in
theorem lEq24W (A B : Option Addr) (ca cb : Nat) (a b : List Pt) (w : World) (ha : PtsIn w A a) (hb : PtsIn w B b) (la : a.length ≤ 9000000000000) (lb : b.length ≤ 9000000000000) (ua : ∀ q ∈ a, PtU q) (ub : ∀ q ∈ b, PtU q) :
    Calls Tryz.prog 24 #[.slice A a.length ca, .slice B b.length cb] w fun e w' => e = .returned (.bool (decide (a = b))) ∧ Below w.heap.size w w' := by
  have HC := Lib.hid (lCompareLinesW A B ca cb a b w ha hb la lb ua ub)
  have hE := cmpL_eq ua ub
  have HD : Hid (a.length ≠ b.length → decide (a = b) = false) := Lib.hid (fun h => decide_eq_false (fun e => h (by rw [e])))
  have HT : Hid (cmpL a b = 0 → decide (a = b) = true) := Lib.hid (fun h => decide_eq_true (hE.1 h))
  have HF : Hid (¬ cmpL a b = 0 → decide (a = b) = false) := Lib.hid (fun h => decide_eq_false (fun e => h (hE.2 e)))
  clear hE ha hb la lb ua ub
  generalize cmpL a b = c at *
  generalize hr : decide (a = b) = r at *
  clear hr
  by_cases h : a.length = b.length
  · have h1 : ((a.length : Int) == (b.length : Int)) = true := beq_iff_eq.2 (by omega)
    have h2 : (a.length == b.length) = true := beq_iff_eq.2 h
    clear h
    go_enter Tryz.func24, Tryz.ntmps24
    ((try dsimp only); repeat (first | go_values | go_skip | go_guarded | go_step | go_upon))
    refine HC.out.mono ?_
    rintro e w1 ⟨rfl, hb1⟩
    by_cases hc : c = 0
    · subst hc
      ((try dsimp only); repeat (first | go_values | go_skip | go_guarded | go_step | go_upon))
      go_ret
      exact ⟨by rw [HT.out rfl]; rfl, hb1⟩
    · have hcb : (c == 0) = false := beq_eq_false_iff_ne.2 hc
      ((try dsimp only); repeat (first | go_values | go_skip | go_guarded | go_step | go_upon))
      go_ret
      exact ⟨by rw [HF.out hc]; first | rfl | (show Ending.returned (.bool (c == 0)) = _; rw [hcb]), hb1⟩
  · have h1 : ((a.length : Int) == (b.length : Int)) = false := beq_eq_false_iff_ne.2 (by omega)
    have h2 : (a.length == b.length) = false := beq_eq_false_iff_ne.2 h
    go_enter Tryz.func24, Tryz.ntmps24
    ((try dsimp only); repeat (first | go_values | go_skip | go_guarded | go_step | go_upon))
    go_ret
    exact ⟨by rw [HD.out h]; rfl, Below.refl _ _⟩
end Go.Proofs.YtfpofmifmapmfaaGreatDoor

namespace Go.Proofs.YtfpofmifmapmfaaGreatDoor
open Go.RowKit Go.Proofs.YtfpofmifmapmfaaGreatDoorW.PrintLast
set_option linter.unusedVariables false
set_option linter.unusedSimpArgs false
def roomL (l : List Pt) : List Pt := l ++ [(42405, 0), (42406, 0)]
theorem room_len (l : List Pt) : (roomL l).length = l.length + 2 := by simp [roomL]
theorem pts_two {w : World} {g : Nat} {p q : Pt} {t : TypeId} {f : Nat × Nat} (h : w.heap[g]? = some (.cells #[.int .u64 p.1, .int .u64 p.2, .int .u64 q.1, .int .u64 q.2] t f)) : PtsAt w g 0 [p, q] := by
  intro i hi
  match i, hi with
  | 0, _ => exact ⟨by rw [cell_of_cells h]; rfl, by rw [cell_of_cells h]; rfl⟩
  | 1, _ => exact ⟨by rw [cell_of_cells h]; rfl, by rw [cell_of_cells h]; rfl⟩
set_option maxRecDepth 100000 in
set_option maxHeartbeats 1600000 in
theorem lRoom (A : Option Addr) (c : Nat) (l : List Pt) (w : World) (hp : PtsIn w A l) (hl : l.length ≤ 8796093021952) :
    Calls Tryz.prog 15 #[.slice A l.length c] w fun e w' => ∃ v, e = .returned v ∧ w'.ownsRow w.heap.size 38 2 v (roomL l).length (ptC (roomL l)) ∧ Below w.heap.size w w' := by
  have hk1 := (Below.refl w.heap.size w).alloc (Nat.le_refl _) (.cells #[] 38)
  have hO1 := own_none (alloc_new w (.cells #[] 38)) (Nat.le_refl _)
  have hp1 := hp.keep hk1
  have hs1 := hk1.size
  have hn1 : 0 + l.length ≤ 8796093022208 := by omega
  have hm1 : l.length ≤ 8796093022208 := by omega
  clear hp
  go_enter Tryz.func15, Tryz.ntmps15
  go_upto_region 1 with (fail)
  ((try dsimp only); repeat (first | (with_reducible refine wpList_app_ptsW rfl (.tmp 3) (.tmp 4) rfl rfl w.heap.size 0 c (.slice (some ⟨w.heap.size, 0, none⟩) 0 0) [] l A rfl rfl hO1 hp1 hn1 hm1 hs1 ?_) | go_values | go_skip | go_guarded | go_step | go_upon))
  intro v2 w2 hown2 hgr
  have hk2 := ownsRow_below hO1 hk1 hs1 hgr
  rw [List.nil_append] at hown2
  have hs2 := hk2.size
  have hk3 := hk2.alloc hs2 (.cells #[.int .u64 42405, .int .u64 0, .int .u64 42406, .int .u64 0] 38)
  have hO2 := World.ownsRow.alloc hown2 (.cells #[.int .u64 42405, .int .u64 0, .int .u64 42406, .int .u64 0] 38)
  have hn3 := alloc_new w2 (.cells #[.int .u64 42405, .int .u64 0, .int .u64 42406, .int .u64 0] 38)
  have hP3 : PtsIn (w2.alloc (.cells #[.int .u64 42405, .int .u64 0, .int .u64 42406, .int .u64 0] 38)) (some ⟨w2.heap.size, 0, none⟩) [(42405, 0), (42406, 0)] := Or.inr ⟨_, 0, rfl, heap_lt hn3, pts_two hn3⟩
  have hs3 := hk3.size
  have hn4 : 0 + l.length + [((42405 : Int), (0 : Int)), (42406, 0)].length ≤ 8796093022208 := by simp only [List.length_cons, List.length_nil]; omega
  have hm4 : [((42405 : Int), (0 : Int)), (42406, 0)].length ≤ 8796093022208 := by simp
  clear hgr hO1 hk1 hs1 hp1 hown2 hn1 hm1
  ((try dsimp only); repeat (first | (with_reducible refine wpList_app_ptsW rfl (.tmp 5) (.tmp 8) rfl rfl w.heap.size (0 + l.length) 2 v2 l [(42405, 0), (42406, 0)] (some ⟨w2.heap.size, 0, none⟩) rfl rfl hO2 hP3 hn4 hm4 hs3 ?_) | go_values | go_skip | go_guarded | go_step | go_upon))
  intro v4 w4 hown4 hgr
  have hk4 := ownsRow_below hO2 hk3 hs3 hgr
  have e4 : 0 + l.length + [((42405 : Int), (0 : Int)), (42406, 0)].length = (roomL l).length := by rw [room_len]; simp only [List.length_cons, List.length_nil]; omega
  rw [e4] at hown4
  have HE : Hid (w4.ownsRow w.heap.size 38 2 v4 (roomL l).length (ptC (roomL l)) ∧ Below w.heap.size w w4) := Lib.hid ⟨hown4, hk4⟩
  clear hgr hown4 hk4 hO2 hP3 hs3 hk3 hn3 hn4 hm4 e4
  ((try dsimp only); repeat (first | go_values | go_skip | go_guarded | go_step | go_upon))
  go_ret
  exact ⟨_, rfl, HE.out⟩
end Go.Proofs.YtfpofmifmapmfaaGreatDoor

namespace Go.Proofs.YtfpofmifmapmfaaGreatDoor
open Go.RowKit Go.Proofs.YtfpofmifmapmfaaGreatDoorW.PrintLast
set_option linter.unusedVariables false
set_option linter.unusedSimpArgs false
theorem wpList_app_wd2 {w : World} {ops : Array Oper} {rest : List Oper} {o : Oper} {a : Act} {Q : Exit → Act → World → Prop} (hgd : o.guard = none) (s x : Operand) (ho : o.op = .call { callee := .builtin .append, args := #[s, x], argTypes := #[24, 24] })
    (base n : Nat) (v : Value) (xs : List Value) (hs : a.eval s = v) (hown : w.ownsRow base 36 1 v n xs) (g c : Nat) (p : Int) (hx : a.eval x = .slice (some ⟨g, 0, none⟩) 1 c)
    (hg : w.heap[g]? = some (.cells #[.int .u64 p] 36 (0, 0))) (hn : n ≤ 8796093022208) (hbase : base ≤ w.heap.size)
    (h : ∀ v' w', w'.ownsRow base 36 1 v' (n + 1) (xs ++ [.int .u64 p]) → w.grownBy w' v.ownBlock → (v'.ownBlock = v.ownBlock ∨ v'.ownBlock = some w.heap.size) → wpList Tryz.prog ops Q rest (a.put o.dst v') w') : wpList Tryz.prog ops Q (o :: rest) a w := by
  obtain ⟨i, hi, h1, h2, h3⟩ := info_parts info_wd
  exact wpList_append_own_at w hgd s x 24 ho base 36 i _ 1 8 Tryz.underlying24 hi h1 h2 h3 rfl (by decide) v n xs hs hown ⟨g, 0, none⟩ 1 c [.int .u64 p] hx rfl (one_cells hg)
    (by intro u hu; simp at hu; subst hu; rfl) (by simp only [maxLen]; omega) (by omega) hbase (fun v' w' h1 h2 _ h4 => h v' w' h1 h2 h4)
theorem own_lt {w : World} {base n : Nat} {e : TypeId} {size : Nat} {v : Value} {xs : List Value} (h : w.ownsRow base e size v n xs) : ∀ g, v.ownBlock = some g → g < w.heap.size := by
  rcases h.2 with ⟨rfl, rfl⟩ | ⟨g, cap, cur, rfl, h2, h3, h4, h5⟩
  · intro g hg; cases hg
  · intro g' hg; cases hg; exact heap_lt h3
theorem map_take {f : Pt → Int} {l : List Pt} {k : Nat} (h : k < l.length) : wv ((l.map f).take (k + 1)) = wv ((l.map f).take k) ++ [.int .u64 (f (l.getD k (0, 0)))] := by
  rw [List.take_add_one, wv_append, List.getElem?_map, List.getD_eq_getElem?_getD, List.getElem?_eq_getElem h]
  rfl
def Apt (v u : Value) : Prop := ∀ g, v.ownBlock = some g → u.ownBlock ≠ some g
theorem Apt.sym {v u : Value} (h : Apt v u) : Apt u v := fun g h1 h2 => h g h2 h1
theorem Apt.out {v u : Value} (h : Apt v u) : u.ownBlock = none ∨ u.ownBlock ≠ v.ownBlock := by
  rcases e : u.ownBlock with _ | g
  · exact Or.inl rfl
  · exact Or.inr (fun e2 => h g e2.symm e)
theorem Apt.next {w : World} {base n : Nat} {e : TypeId} {size : Nat} {v v2 u : Value} {xs : List Value} (h : Apt v u) (hu : w.ownsRow base e size u n xs) (hb : v2.ownBlock = v.ownBlock ∨ v2.ownBlock = some w.heap.size) : Apt v2 u := by
  intro g h1 h2
  rcases hb with e | e
  · exact h g (e ▸ h1) h2
  · have := own_lt hu g h2
    rw [e] at h1
    cases h1
    omega
set_option maxRecDepth 100000 in
set_option maxHeartbeats 6400000 in
theorem rBox (A : Option Addr) (c : Nat) (ps : List Pt) (w : World) (hp : PtsIn w A ps) (hl : ps.length ≤ 8796093021952) (hu : ∀ q ∈ ps, PtU q) :
    Calls Tryz.prog 30 #[.slice A ps.length c] w fun e w' => e = .returned (.tuple #[.agg #[.int .u64 (lowP ps).1, .int .u64 (lowP ps).2], .agg #[.int .u64 (highP ps).1, .int .u64 (highP ps).2], .int .i64 (boxE ps)]) ∧ Below w.heap.size w w' := by
  by_cases h0 : ps.length = 0
  · have e0 : boxE ps = 240 := by unfold boxE; rw [if_pos h0]
    have e1 : lowP ps = (0, 0) := by unfold lowP; rw [e0]; rfl
    have e2 : highP ps = (0, 0) := by unfold highP; rw [e0]; rfl
    rw [e0, e1, e2]
    have l0 : ((ps.length : Int) == 0) = true := by rw [h0]; rfl
    clear hp hu e0 e1 e2
    have hmm : Bx w.heap.size w ((w.alloc (.cells #[.int .u64 0, .int .u64 0] 38)).alloc (.cells #[.int .u64 0, .int .u64 0] 38)) _ _ := ((Bx.start w).alloc (.cells #[.int .u64 0, .int .u64 0] 38 (0, 0))).alloc (.cells #[.int .u64 0, .int .u64 0] 38 (0, 0))
    go_enter Tryz.func30, Tryz.ntmps30
    go_upto_region 1 with (fail)
    generalize (World.alloc (World.alloc w _) _) = v at *
    (try simp only [List.nil_append, List.cons_append, World.size_alloc, List.set_cons_zero, List.set_cons_succ, putsC, pB, pC, pD] at hmm)
    have HM := Lib.hid hmm
    clear hmm
    obtain ⟨c0_0, c0_1, c0_2, c0_3⟩ := rw2 (HM.out.at 0 rfl)
    obtain ⟨c1_0, c1_1, c1_2, c1_3⟩ := rw2 (HM.out.at 1 rfl)
    ((try dsimp only); repeat (first | go_values | go_skip | go_guarded | go_step | go_upon))
    refine bodyPost_ret (results_rows2 rfl _ _ (w.heap.size) (w.heap.size + 1) _ _ _ _ _ _ _ _ rfl rfl (((HM.out.puts 0 rfl (by decide) [(0, .int .u64 0), (1, .int .u64 0)]).puts 1 rfl (by decide) [(0, .int .u64 0), (1, .int .u64 0)]).at 0 rfl) (((HM.out.puts 0 rfl (by decide) [(0, .int .u64 0), (1, .int .u64 0)]).puts 1 rfl (by decide) [(0, .int .u64 0), (1, .int .u64 0)]).at 1 rfl) rfl rfl rfl rfl rfl rfl) rfl ?_
    exact ⟨rfl, ((HM.out.puts 0 rfl (by decide) [(0, .int .u64 0), (1, .int .u64 0)]).puts 1 rfl (by decide) [(0, .int .u64 0), (1, .int .u64 0)]).m.b⟩
  have l0 : ((ps.length : Int) == 0) = false := beq_eq_false_iff_ne.2 (by omega)
  have HFi := Lib.hid (fun wz h => f24FiniteW A c ps wz (hp.keep h) (by omega) hu)
  by_cases hf : finB ps = true
  · have e0 : boxE ps = 0 := by unfold boxE; rw [if_neg h0, if_pos hf]
    have e1 : lowP ps = (cornK (-1) fX ps ps.length, cornK (-1) fY ps ps.length) := by unfold lowP; rw [if_pos e0]
    have e2 : highP ps = (cornK 1 fX ps ps.length, cornK 1 fY ps ps.length) := by unfold highP; rw [if_pos e0]
    rw [e0, e1, e2]
    rw [hf] at HFi
    rw [finB_iff hu] at hf
    have hlen : 0 < ps.length := by omega
    have HFP := Lib.hid (And.intro hf (And.intro hlen hl))
    obtain ⟨ba, oa, rfl, hba, hpa⟩ := hp.open hlen
    have HR : Hid (∀ k, k < ps.length → ∀ wz, Below w.heap.size w wz → wz.cell? ⟨ba, oa + k * 2, none⟩ = some (.int .u64 (fX (ps.getD k (0, 0)))) ∧ wz.cell? ⟨ba, oa + k * 2 + 1, none⟩ = some (.int .u64 (fY (ps.getD k (0, 0))))) :=
      Lib.hid (fun k hk wz h => ⟨(h.cell (p := ⟨ba, oa + k * 2, none⟩) hba).trans (hpa k hk).1, (h.cell (p := ⟨ba, oa + k * 2 + 1, none⟩) hba).trans (hpa k hk).2⟩)
    clear hp hu e0 e1 e2 hpa hf h0 hl
    have hmm : Bx w.heap.size w ((w.alloc (.cells #[.int .u64 0, .int .u64 0] 38)).alloc (.cells #[.int .u64 0, .int .u64 0] 38)) _ _ := ((Bx.start w).alloc (.cells #[.int .u64 0, .int .u64 0] 38 (0, 0))).alloc (.cells #[.int .u64 0, .int .u64 0] 38 (0, 0))
    go_enter Tryz.func30, Tryz.ntmps30
    go_upto_region 1 with (fail)
    generalize (World.alloc (World.alloc w _) _) = v at *
    (try simp only [List.nil_append, List.cons_append, World.size_alloc, List.set_cons_zero, List.set_cons_succ, putsC, pB, pC, pD] at hmm)
    have HM := Lib.hid hmm
    clear hmm
    ((try dsimp only); repeat (first | go_values | go_skip | go_guarded | go_step | go_upon))
    refine (HFi.out _ HM.out.m.b).mono ?_
    rintro e w1 ⟨rfl, hb⟩
    have hm := HM.out.keep hb
    clear HM hb HFi
    have HM := Lib.hid hm
    clear hm
    ((try dsimp only); repeat (first | go_values | go_skip | go_guarded | go_step | go_upon))
    go_loopw [5, 6, 7] (fun vx vy i wr => ∃ (k : Nat) (va vb : Value), vx = va ∧ vy = vb ∧ i = .int .i64 (k : Int) ∧ k ≤ ps.length ∧ wr.ownsRow w1.heap.size 36 1 va k (wv ((ps.map fX).take k)) ∧ wr.ownsRow w1.heap.size 36 1 vb k (wv ((ps.map fY).take k)) ∧ Apt va vb ∧ Below w1.heap.size w1 wr) (fun _ _ i _ => ps.length - (intOf i).toNat)
    case atStart => exact ⟨0, _, _, rfl, rfl, rfl, Nat.zero_le _, World.ownsRow_nil _ _ _ _, World.ownsRow_nil _ _ _ _, (fun g h => by cases h), Below.refl _ _⟩
    case round =>
      obtain ⟨k, va, vb, hva, hvb, rfl, hk, hoa, hob, hap, hB⟩ := hrel
      have hva2 := hva.symm
      subst hva2
      have hvb2 := hvb.symm
      subst hvb2
      by_cases h0 : k < ps.length
      · have HRk := Lib.hid (HR.out k h0)
        have HTx := Lib.hid (map_take (f := fX) h0)
        have HTy := Lib.hid (map_take (f := fY) h0)
        obtain ⟨c0, c1⟩ := HRk.out wr (HM.out.m.b.trans (hB.mono HM.out.m.b.size))
        generalize fX (ps.getD k (0, 0)) = qx at *
        generalize fY (ps.getD k (0, 0)) = qy at *
        have hki : (k : Int) < (ps.length : Int) := by omega
        have hk6 : k ≤ 8796093022208 := by have := HFP.out.2.2; omega
        have hw1 : wrap64 ((k : Int) + 1) = ((k + 1 : Nat) : Int) := by have := HFP.out.2.2; clear HM HR HFP HTx HTy c0 c1 hoa hob hap hB; unfold wrap64; omega
        have W1 := Lib.hid (And.intro h0 hw1)
        clear hw1
        have hbb := hba
        have HBr := Lib.hid hB
        have hB4 := hB.alloc hB.size (.cells #[.int .u64 qx] 36)
        have hoa4 := World.ownsRow.alloc hoa (.cells #[.int .u64 qx] 36)
        have hob4 := World.ownsRow.alloc hob (.cells #[.int .u64 qx] 36)
        have hn4 := alloc_new wr (.cells #[.int .u64 qx] 36)
        have hs4 := hB4.size
        clear hoa hob hB
        go_upto_region 9 with (fail)
        ((try dsimp only); repeat (first | (with_reducible refine wpList_app_wd2 rfl (.tmp 24) (.tmp 30) rfl w1.heap.size k va (wv ((ps.map fX).take k)) rfl hoa4 wr.heap.size 1 qx rfl hn4 hk6 hs4 ?_) | go_values | go_skip | go_guarded | go_step | go_upon))
        intro va2 w5 hoa5 hgr hblk
        have hB5 := ownsRow_below hoa4 hB4 hs4 hgr
        have hob5 := hob4.kept hgr hap.out
        have hap5 := hap.next hob4 hblk
        rw [← HTx.out] at hoa5
        have hs5 := hB5.size
        obtain ⟨_, d1⟩ := HRk.out w5 (HM.out.m.b.trans (hB5.mono HM.out.m.b.size))
        clear hgr hblk hoa4 hob4 hB4 hs4 hn4 c0 c1 hap
        have hB6 := hB5.alloc hs5 (.cells #[.int .u64 qy] 36)
        have hoa6 := World.ownsRow.alloc hoa5 (.cells #[.int .u64 qy] 36)
        have hob6 := World.ownsRow.alloc hob5 (.cells #[.int .u64 qy] 36)
        have hn6 := alloc_new w5 (.cells #[.int .u64 qy] 36)
        have hs6 := hB6.size
        clear hoa5 hob5 hB5 hs5
        go_upto_region 10 with (fail)
        ((try dsimp only); repeat (first | (with_reducible refine wpList_app_wd2 rfl (.tmp 32) (.tmp 38) rfl w1.heap.size k vb (wv ((ps.map fY).take k)) rfl hob6 w5.heap.size 1 qy rfl hn6 hk6 hs6 ?_) | go_values | go_skip | go_guarded | go_step | go_upon))
        intro vb2 w7 hob7 hgr hblk
        have hB7 := ownsRow_below hob6 hB6 hs6 hgr
        have hoa7 := hoa6.kept hgr hap5.sym.out
        have hap7 := (hap5.sym.next hoa6 hblk).sym
        rw [← HTy.out] at hob7
        have HE := Lib.hid (And.intro hoa7 (And.intro hob7 (And.intro hap7 hB7)))
        clear hgr hblk hoa6 hob6 hB6 hs6 hn6 d1 hap5 hoa7 hob7 hap7 hB7
        ((try dsimp only); repeat (first | go_values | go_skip | go_guarded | go_step | go_upon))
        obtain ⟨hk0, hw1⟩ := W1.out
        refine ⟨⟨k + 1, va2, vb2, rfl, rfl, by first | exact vint hw1 | exact vint rfl, hk0, HE.out.1, HE.out.2.1, HE.out.2.2.1, HE.out.2.2.2⟩, ?_⟩
        first
        | show ps.length - (intOf (.int .i64 (wrap64 ((k : Int) + 1)))).toNat < ps.length - (intOf (.int .i64 (k : Int))).toNat
          rw [hw1]
        | skip
        clear hw1 HE HM HR HFP HRk HTx HTy W1 HBr
        show ps.length - ((k : Int) + 1).toNat < ps.length - ((k : Int)).toNat
        omega
      · obtain rfl : k = ps.length := by omega
        have hki : ¬ (ps.length : Int) < (ps.length : Int) := by omega
        have tx : (ps.map fX).take ps.length = ps.map fX := List.take_of_length_le (by rw [List.length_map]; exact Nat.le_refl _)
        have ty : (ps.map fY).take ps.length = ps.map fY := List.take_of_length_le (by rw [List.length_map]; exact Nat.le_refl _)
        rw [tx] at hoa
        rw [ty] at hob
        obtain ⟨A1, c1, rfl⟩ := own_form hoa
        obtain ⟨A2, c2, rfl⟩ := own_form hob
        have wa := own_words hoa (List.length_map ..)
        have wb := own_words hob (List.length_map ..)
        have fx : ∀ p ∈ ps, Fin64 (fX p) := fun p hp => (HFP.out.1 p hp).1
        have fy : ∀ p ∈ ps, Fin64 (fY p) := fun p hp => (HFP.out.1 p hp).2
        have C1 := Lib.hid (lCorner A1 c1 _ _ fX ps 1 wr wa (by have := HFP.out.2.2; omega) HFP.out.2.1 fx (Or.inl rfl))
        have C2 := Lib.hid (lCorner A2 c2 _ _ fY ps 1 wr wb (by have := HFP.out.2.2; omega) HFP.out.2.1 fy (Or.inl rfl))
        have C3 := Lib.hid (lCorner A1 c1 _ _ fX ps (-1) wr wa (by have := HFP.out.2.2; omega) HFP.out.2.1 fx (Or.inr rfl))
        have C4 := Lib.hid (lCorner A2 c2 _ _ fY ps (-1) wr wb (by have := HFP.out.2.2; omega) HFP.out.2.1 fy (Or.inr rfl))
        rw [show (-(-1) : Int) = 1 from rfl] at C3 C4
        clear hoa hob wa wb fx fy tx ty hap hva hvb
        have hm := HM.out.keep hB
        clear HM hB
        have HM := Lib.hid hm
        clear hm
        obtain ⟨l1, el1⟩ : ∃ x, cornK (-1) fX ps ps.length = x := ⟨_, rfl⟩
        obtain ⟨l2, el2⟩ : ∃ x, cornK (-1) fY ps ps.length = x := ⟨_, rfl⟩
        obtain ⟨h1, eh1⟩ : ∃ x, cornK 1 fX ps ps.length = x := ⟨_, rfl⟩
        obtain ⟨h2, eh2⟩ : ∃ x, cornK 1 fY ps ps.length = x := ⟨_, rfl⟩
        rw [el1] at C1
        rw [el2] at C2
        rw [eh1] at C3
        rw [eh2] at C4
        have HE := Lib.hid (And.intro el1 (And.intro el2 (And.intro eh1 eh2)))
        clear el1 el2 eh1 eh2
        ((try dsimp only); repeat (first | go_values | go_skip | go_guarded | go_step | go_upon))
        refine C1.out.mono ?_
        rintro e w11 ⟨rfl, rfl⟩
        ((try dsimp only); repeat (first | go_values | go_skip | go_guarded | go_step | go_upon))
        refine C2.out.mono ?_
        rintro e w12 ⟨rfl, rfl⟩
        ((try dsimp only); repeat (first | go_values | go_skip | go_guarded | go_step | go_upon))
        refine C3.out.mono ?_
        rintro e w13 ⟨rfl, rfl⟩
        ((try dsimp only); repeat (first | go_values | go_skip | go_guarded | go_step | go_upon))
        refine C4.out.mono ?_
        rintro e w14 ⟨rfl, rfl⟩
        clear C1 C2 C3 C4
        obtain ⟨c0_0, c0_1, c0_2, c0_3⟩ := rw2 (HM.out.at 0 rfl)
        obtain ⟨c1_0, c1_1, c1_2, c1_3⟩ := rw2 (HM.out.at 1 rfl)
        ((try dsimp only); repeat (first | go_values | go_skip | go_guarded | go_step | go_upon))
        refine bodyPost_ret (results_rows2 rfl _ _ (w.heap.size) (w.heap.size + 1) _ _ _ _ _ _ _ _ rfl rfl (((HM.out.puts 0 rfl (by decide) [(0, .int .u64 l1), (1, .int .u64 l2)]).puts 1 rfl (by decide) [(0, .int .u64 h1), (1, .int .u64 h2)]).at 0 rfl) (((HM.out.puts 0 rfl (by decide) [(0, .int .u64 l1), (1, .int .u64 l2)]).puts 1 rfl (by decide) [(0, .int .u64 h1), (1, .int .u64 h2)]).at 1 rfl) rfl rfl rfl rfl rfl rfl) rfl ?_
        exact ⟨by rw [HE.out.1, HE.out.2.1, HE.out.2.2.1, HE.out.2.2.2]; rfl, ((HM.out.puts 0 rfl (by decide) [(0, .int .u64 l1), (1, .int .u64 l2)]).puts 1 rfl (by decide) [(0, .int .u64 h1), (1, .int .u64 h2)]).m.b⟩
  · have hf2 : finB ps = false := by simpa using hf
    have e0 : boxE ps = 220 := by unfold boxE; rw [if_neg h0, if_neg hf]
    have e1 : lowP ps = (0, 0) := by unfold lowP; rw [e0]; rfl
    have e2 : highP ps = (0, 0) := by unfold highP; rw [e0]; rfl
    rw [e0, e1, e2]
    rw [hf2] at HFi
    clear hp hu e0 e1 e2 hf hf2
    have hmm : Bx w.heap.size w ((w.alloc (.cells #[.int .u64 0, .int .u64 0] 38)).alloc (.cells #[.int .u64 0, .int .u64 0] 38)) _ _ := ((Bx.start w).alloc (.cells #[.int .u64 0, .int .u64 0] 38 (0, 0))).alloc (.cells #[.int .u64 0, .int .u64 0] 38 (0, 0))
    go_enter Tryz.func30, Tryz.ntmps30
    go_upto_region 1 with (fail)
    generalize (World.alloc (World.alloc w _) _) = v at *
    (try simp only [List.nil_append, List.cons_append, World.size_alloc, List.set_cons_zero, List.set_cons_succ, putsC, pB, pC, pD] at hmm)
    have HM := Lib.hid hmm
    clear hmm
    ((try dsimp only); repeat (first | go_values | go_skip | go_guarded | go_step | go_upon))
    refine (HFi.out _ HM.out.m.b).mono ?_
    rintro e w1 ⟨rfl, hb⟩
    have hm := HM.out.keep hb
    clear HM hb HFi
    have HM := Lib.hid hm
    clear hm
    obtain ⟨c0_0, c0_1, c0_2, c0_3⟩ := rw2 (HM.out.at 0 rfl)
    obtain ⟨c1_0, c1_1, c1_2, c1_3⟩ := rw2 (HM.out.at 1 rfl)
    ((try dsimp only); repeat (first | go_values | go_skip | go_guarded | go_step | go_upon))
    refine bodyPost_ret (results_rows2 rfl _ _ (w.heap.size) (w.heap.size + 1) _ _ _ _ _ _ _ _ rfl rfl (((HM.out.puts 0 rfl (by decide) [(0, .int .u64 0), (1, .int .u64 0)]).puts 1 rfl (by decide) [(0, .int .u64 0), (1, .int .u64 0)]).at 0 rfl) (((HM.out.puts 0 rfl (by decide) [(0, .int .u64 0), (1, .int .u64 0)]).puts 1 rfl (by decide) [(0, .int .u64 0), (1, .int .u64 0)]).at 1 rfl) rfl rfl rfl rfl rfl rfl) rfl ?_
    exact ⟨rfl, ((HM.out.puts 0 rfl (by decide) [(0, .int .u64 0), (1, .int .u64 0)]).puts 1 rfl (by decide) [(0, .int .u64 0), (1, .int .u64 0)]).m.b⟩
end Go.Proofs.YtfpofmifmapmfaaGreatDoor
