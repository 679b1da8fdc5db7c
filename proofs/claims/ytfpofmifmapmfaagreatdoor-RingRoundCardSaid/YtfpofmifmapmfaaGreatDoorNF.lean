/- Package near: Quotient, Rat (mode 0; numbers that are too great where near.stays may be read). -/
import Derived.Test.YtfpofmifmapmfaaGreatDoorKD
import Derived.OwnWalk
import Derived.Deep.DeepCutAuto
import Derived.Test.YtfpofmifmapmfaaGreatDoorKC
namespace Go.Proofs.YtfpofmifmapmfaaGreatDoor
open Go.RowKit Go.Proofs.YtfpofmifmapmfaaGreatDoorW.PrintLast
set_option linter.unusedVariables false
set_option linter.unusedSimpArgs false
set_option maxRecDepth 100000 in
theorem vKnown (w : World) : Calls Tryz.prog 128 #[.int .i64 0] w fun e w' => e = .returned (.bool true) ∧ w = w' := by
  go_enter Tryz.func128, Tryz.ntmps128
  ((try dsimp only); repeat (first | go_values | go_skip | go_guarded | go_step | go_upon))
  go_ret
  exact ⟨rfl, rfl⟩
set_option maxRecDepth 100000 in
theorem vWay1 (neg odd : Bool) (tail : Int) (w : World) (ht : 0 ≤ tail ∧ tail ≤ 3) : Calls Tryz.prog 250 #[.bool neg, .bool odd, .int .i64 tail] w fun e w' => e = .returned (.bool (decide (tail = 3) || decide (tail = 2) && odd)) ∧ w = w' := by
  have h : tail = 0 ∨ tail = 1 ∨ tail = 2 ∨ tail = 3 := by omega
  clear ht
  rcases h with rfl | rfl | rfl | rfl <;> cases odd
  all_goals
    go_enter Tryz.func250, Tryz.ntmps250
    ((try dsimp only); repeat (first | go_values | go_skip | go_guarded | go_step | go_upon))
    go_ret
    exact ⟨rfl, rfl⟩
theorem store_func {P : Program} (w : World) (f : FuncId) (t : TypeId) : (store ⟨w.heap.size, 0, none⟩ (.func (.func f) #[] #[])).run P (w.alloc (.cells #[.nilFunc] t)) = .ok () (w.alloc (.cells #[.func (.func f) #[] #[]] t)) := by
  have h := cell_of_cells (alloc_new w (.cells #[.nilFunc] t)) 0
  have h2 := free_of_cells (alloc_new w (.cells #[.nilFunc] t)) 0
  have h3 : (w.alloc (.cells #[.nilFunc] t)).setCell ⟨w.heap.size, 0, none⟩ (.func (.func f) #[] #[]) = w.alloc (.cells #[.func (.func f) #[] #[]] t) := by rw [World.setCell_alloc_new]; rfl
  have h' : (w.alloc (.cells #[.nilFunc] t)).cell? ⟨w.heap.size, 0, none⟩ = some .nilFunc := h
  simp [store, go_sem, h', h2, h3, Sem.run]
set_option maxRecDepth 100000 in
theorem vWay (w : World) : Calls Tryz.prog 227 #[.int .i64 0] w fun e w' => e = .returned (.agg #[.func (.func 250) #[] #[]]) ∧ Below w.heap.size w w' := by
  have hst := store_func (P := Tryz.prog) w 250 274
  go_enter Tryz.func227, Tryz.ntmps227
  ((try dsimp only); repeat (first | go_values | go_skip | go_guarded | go_step | go_upon))
  refine bodyPost_ret (results_cell_row rfl _ _ w.heap.size _ _ _ _ rfl (alloc_new _ _) rfl rfl rfl) rfl ?_
  exact ⟨rfl, (by repeat (first | exact Below.refl _ _ | refine belowN ?_ _ | refine Below.drew ?_ | refine Below.alloc ?_ (by first | exact Nat.le_refl _ | (simp; done) | (simp; omega) | omega) _))⟩
def jn (neg : Bool) (m e : Int) : Int := (if neg then 9223372036854775808 else 0) + (e + 1074) * 4503599627370496 + m
theorem jn_small {s m : Int} (hs : s = 0 ∨ s = 9223372036854775808) (h0 : 0 < m) (h1 : m < 4503599627370496) : bits .or .u64 s m = s + m :=
  or_join 63 s m (by omega) (by omega) (by rcases hs with rfl | rfl <;> decide) (by omega) (by show m < 9223372036854775808; omega) (by decide)
theorem jn_big {s m e : Int} (hs : s = 0 ∨ s = 9223372036854775808) (h0 : 4503599627370496 ≤ m) (h1 : m < 9007199254740992) (he : -1074 ≤ e) (he1 : e ≤ 971) :
    bits .or .u64 (bits .or .u64 s ((e + 1075) * 4503599627370496)) (bits .and .u64 m 4503599627370495) = s + (e + 1074) * 4503599627370496 + m := by
  rw [and_frac m (by omega) (by omega), or_join 63 s ((e + 1075) * 4503599627370496) (by omega) (by omega) (by rcases hs with rfl | rfl <;> decide) (by omega) (by show (e + 1075) * 4503599627370496 < 9223372036854775808; omega) (by decide)]
  rw [or_join 52 _ (m % 4503599627370496) (by omega) (by omega) (by show (s + (e + 1075) * 4503599627370496) % 4503599627370496 = 0; omega) (by omega) (by show m % 4503599627370496 < 4503599627370496; omega) (by decide)]
  omega
set_option maxRecDepth 100000 in
set_option maxHeartbeats 1600000 in
theorem vJoin (neg : Bool) (m e : Int) (w : World) (h0 : 0 < m) (h1 : m < 9007199254740992) (he : -1074 ≤ e) (he1 : e ≤ 971) (hc : 4503599627370496 ≤ m ∨ e = -1074) :
    Calls Tryz.prog 122 #[.bool neg, .int .u64 m, .int .i64 e] w fun x w' => x = .returned (.tuple #[.int .u64 (jn neg m e), .int .i64 0]) ∧ w = w' := by
  have hz := fun wz => wZeros m wz (by omega) (by omega)
  have z0 := ctz_range m
  have z1 := ctz_lt h0 (show m ≤ 18446744073709551615 by omega)
  have z2 := ctz_dvd h0 (show m ≤ 18446744073709551615 by omega)
  obtain ⟨z, hzz⟩ : ∃ z : Nat, ctz m = z := ⟨(ctz m).toNat, by omega⟩
  rw [hzz] at hz z1 z2 z0
  rw [Int.toNat_natCast] at z2
  have HZ := Lib.hid hz
  clear hz
  obtain ⟨q, hq⟩ : ∃ q, m / 2 ^ z = q := ⟨_, rfl⟩
  have hqm : q * 2 ^ z = m := by rw [← hq]; exact Int.ediv_mul_cancel (Int.dvd_of_emod_eq_zero z2)
  have hq0 : 0 < q := by
    have hp := ipow_pos z
    rcases Int.lt_trichotomy q 0 with h | h | h
    · have := Int.mul_neg_of_neg_of_pos h hp; omega
    · rw [h, Int.zero_mul] at hqm; omega
    · exact h
  have hbl := blen_mul_pow z hq0
  rw [hqm] at hbl
  have hbm : blen m ≤ 53 := blen_le_of_lt (n := 53) (by show m < 9007199254740992; omega)
  have hbg : 4503599627370496 ≤ m → (52 : Int) < blen m := fun h => blen_gt_of_le (n := 52) h
  have hq1 : q ≤ m := by rw [← hqm]; have := ipow_pos z; exact Int.le_trans (by rw [Int.mul_one]; exact Int.le_refl _) (Int.mul_le_mul_of_nonneg_left (show (1:Int) ≤ 2 ^ z by omega) (by omega))
  have hln := fun wz => wLen q wz (by omega) (by omega)
  have hb1 := blen_pos hq0
  generalize blen q = n at *
  have hn53 : n ≤ 53 := by omega
  have hmin : (if e + (z : Int) + 1074 < 53 - n then e + (z : Int) + 1074 else 53 - n) = z := by split <;> omega
  have hwr : IntKind.u64.wrap (m / 2 ^ z * 2 ^ z) = m := by rw [hq, hqm]; exact wrap_u64_in (by omega) (by omega)
  rw [← hq] at hln
  have HN := Lib.hid hln
  clear hln hbl hbm hbg hqm hq
  have hmb : (m == 0) = false := beq_eq_false_iff_ne.2 (by omega)
  cases neg
  · go_enter Tryz.func122, Tryz.ntmps122
    ((try dsimp only); repeat (first | go_values | go_skip | go_guarded | go_step | go_upon))
    refine (HZ.out _).mono ?_
    rintro x w1 ⟨rfl, rfl⟩
    ((try dsimp only); repeat (first | go_values | go_skip | go_guarded | go_step | go_upon))
    refine (HN.out _).mono ?_
    rintro x w1 ⟨rfl, rfl⟩
    by_cases hm : m < 4503599627370496
    · ((try dsimp only); repeat (first | go_values | go_skip | go_guarded | go_step | go_upon))
      go_ret2
      exact ⟨R2 (by rw [jn_small (by decide) h0 hm]; unfold jn; simp; omega) rfl, rfl⟩
    · ((try dsimp only); repeat (first | go_values | go_skip | go_guarded | go_step | go_upon))
      go_ret2
      exact ⟨R2 (by rw [jn_big (by decide) (by omega) h1 he he1]; unfold jn; simp) rfl, rfl⟩
  · go_enter Tryz.func122, Tryz.ntmps122
    ((try dsimp only); repeat (first | go_values | go_skip | go_guarded | go_step | go_upon))
    refine (HZ.out _).mono ?_
    rintro x w1 ⟨rfl, rfl⟩
    ((try dsimp only); repeat (first | go_values | go_skip | go_guarded | go_step | go_upon))
    refine (HN.out _).mono ?_
    rintro x w1 ⟨rfl, rfl⟩
    by_cases hm : m < 4503599627370496
    · ((try dsimp only); repeat (first | go_values | go_skip | go_guarded | go_step | go_upon))
      go_ret2
      exact ⟨R2 (by rw [jn_small (by decide) h0 hm]; unfold jn; simp; omega) rfl, rfl⟩
    · ((try dsimp only); repeat (first | go_values | go_skip | go_guarded | go_step | go_upon))
      go_ret2
      exact ⟨R2 (by rw [jn_big (by decide) (by omega) h1 he he1]; unfold jn; simp) rfl, rfl⟩
end Go.Proofs.YtfpofmifmapmfaaGreatDoor

namespace Go.Proofs.YtfpofmifmapmfaaGreatDoor
open Go.RowKit Go.Proofs.YtfpofmifmapmfaaGreatDoorW.PrintLast
set_option linter.unusedVariables false
set_option linter.unusedSimpArgs false
def cutR (m k : Int) : Int × Int :=
  if m = 0 ∨ k ≤ 0 then (m, 0) else if 64 < k then (0, 1)
  else if m % 2 ^ k.toNat = 0 then (m / 2 ^ k.toNat, 0) else if m % 2 ^ k.toNat < 2 ^ (k.toNat - 1) then (m / 2 ^ k.toNat, 1)
  else if 2 ^ (k.toNat - 1) < m % 2 ^ k.toNat then (m / 2 ^ k.toNat, 3) else (m / 2 ^ k.toNat, 2)
theorem cutR_is (m k : Int) : cutR m k = if m = 0 ∨ k ≤ 0 then (m, 0) else if 64 < k then (0, 1)
  else if m % 2 ^ k.toNat = 0 then (m / 2 ^ k.toNat, 0) else if m % 2 ^ k.toNat < 2 ^ (k.toNat - 1) then (m / 2 ^ k.toNat, 1)
  else if 2 ^ (k.toNat - 1) < m % 2 ^ k.toNat then (m / 2 ^ k.toNat, 3) else (m / 2 ^ k.toNat, 2) := rfl
theorem cut_mask {m : Int} {n : Nat} (h0 : 0 ≤ m) (h1 : m ≤ 18446744073709551615) (hn : 1 ≤ n) (hn1 : n ≤ 64) : IntKind.u64.wrap (2 ^ (n - 1)) = 2 ^ (n - 1) ∧ bits .and .u64 m (IntKind.u64.wrap (IntKind.u64.wrap (2 ^ (n - 1) * 2) - 1)) = m % 2 ^ n := by
  have p := ipow_pos (n - 1)
  have q := ipow_le (show n - 1 ≤ 63 by omega)
  have e : (2:Int) ^ (n - 1) * 2 = 2 ^ n := by rw [← Int.pow_succ]; congr 1; omega
  have q2 : (2:Int) ^ 63 = 9223372036854775808 := by decide
  refine ⟨wrap_u64_in (by omega) (by omega), ?_⟩
  rw [e]
  by_cases h : n = 64
  · subst h
    rw [show IntKind.u64.wrap (IntKind.u64.wrap (2 ^ 64) - 1) = 2 ^ 64 - 1 by decide]
    exact bits_and_range m h0 h1 64 (by decide)
  · have q3 := ipow_le (show n ≤ 63 by omega)
    have p3 := ipow_pos n
    rw [wrap_u64_in (x := 2 ^ n) (by omega) (by omega), wrap_u64_in (x := 2 ^ n - 1) (by omega) (by omega)]
    exact bits_and_range m h0 h1 n (by omega)
theorem shr_lost {m : Int} {k : Nat} (h : k ≤ 64) (h0 : 0 ≤ m) : (m * 2 ^ (64 - k) % 18446744073709551616 != 0) = (m % 2 ^ k != 0) := by
  have e : (18446744073709551616 : Int) = 2 ^ k * 2 ^ (64 - k) := by rw [← Int.pow_add, show k + (64 - k) = 64 by omega]; rfl
  have p : (0:Int) < 2 ^ (64 - k) := ipow_pos _
  rw [e, Int.mul_comm m, Int.mul_comm (2 ^ k), Int.mul_emod_mul_of_pos _ _ p, Int.mul_comm]
  by_cases hz : m % 2 ^ k = 0
  · rw [hz]; simp
  · have h2 : m % 2 ^ k * 2 ^ (64 - k) ≠ 0 := fun e => by rcases Int.mul_eq_zero.1 e with e | e <;> omega
    rw [bne_iff_ne.2 h2, bne_iff_ne.2 hz]
theorem vShr (m : Int) (k : Nat) (w : World) (h0 : 0 ≤ m) (h1 : m ≤ 18446744073709551615) (hk : 1 ≤ k) (hk1 : k ≤ 64) :
    Calls Tryz.prog 249 #[.int .u64 0, .int .u64 m, .int .i64 k] w fun e w' => e = .returned (.tuple #[.int .u64 0, .int .u64 (m / 2 ^ k), .bool (m % 2 ^ k != 0)]) ∧ ∃ q, w' = w.drewN q := by
  by_cases h : k = 64
  · subst h
    refine (wShr64 m w h0 h1).mono ?_
    rintro e w' ⟨rfl, q⟩
    refine ⟨?_, q⟩
    rw [show m / 2 ^ 64 = 0 from Int.ediv_eq_zero_of_lt h0 (by show m < 18446744073709551616; omega), show m % 2 ^ 64 = m from Int.emod_eq_of_lt h0 (by show m < 18446744073709551616; omega)]
  · refine (wShr 0 m k w (by omega) (by omega) h0 h1 (by omega) (by omega)).mono ?_
    rintro e w' ⟨rfl, q⟩
    refine ⟨?_, q⟩
    rw [Int.toNat_natCast, shr_lost hk1 h0]
    simp
set_option maxRecDepth 100000 in
set_option maxHeartbeats 1600000 in
theorem vCut (m k : Int) (w : World) (h0 : 0 ≤ m) (h1 : m ≤ 18446744073709551615) (hk : -9223372036854775808 ≤ k) (hk1 : k ≤ 9223372036854775807) :
    Calls Tryz.prog 226 #[.int .u64 m, .int .i64 k] w fun e w' => e = .returned (.tuple #[.int .u64 (cutR m k).1, .int .i64 (cutR m k).2]) ∧ ∃ q, w' = w.drewN q := by
  have HC := Lib.hid (cutR_is m k)
  generalize cutR m k = r at *
  by_cases hm : m = 0
  · rw [if_pos (Or.inl hm)] at HC
    subst hm
    go_enter Tryz.func226, Tryz.ntmps226
    ((try dsimp only); repeat (first | go_values | go_skip | go_guarded | go_step | go_upon))
    go_ret2
    exact ⟨by rw [HC.out]; rfl, 0, rfl⟩
  · have hmb : (m == 0) = false := beq_eq_false_iff_ne.2 hm
    by_cases hk0 : k ≤ 0
    · rw [if_pos (Or.inr hk0)] at HC
      go_enter Tryz.func226, Tryz.ntmps226
      ((try dsimp only); repeat (first | go_values | go_skip | go_guarded | go_step | go_upon))
      go_ret2
      exact ⟨by rw [HC.out]; rfl, 0, rfl⟩
    · rw [if_neg (by omega)] at HC
      by_cases hk6 : 64 < k
      · rw [if_pos hk6] at HC
        go_enter Tryz.func226, Tryz.ntmps226
        ((try dsimp only); repeat (first | go_values | go_skip | go_guarded | go_step | go_upon))
        go_ret2
        exact ⟨by rw [HC.out]; rfl, 0, rfl⟩
      · rw [if_neg hk6] at HC
        obtain ⟨n, rfl⟩ : ∃ n : Nat, k = n := ⟨k.toNat, by omega⟩
        rw [Int.toNat_natCast] at HC
        have HS := Lib.hid (fun wz => vShr m n wz h0 h1 (by omega) (by omega))
        generalize hq : m / 2 ^ n = q at *
        by_cases hr : m % 2 ^ n = 0
        · have hrb : (m % 2 ^ n != 0) = false := by rw [hr]; rfl
          rw [if_pos hr] at HC
          rw [hrb] at HS
          clear hr hrb hq
          go_enter Tryz.func226, Tryz.ntmps226
          ((try dsimp only); repeat (first | go_values | go_skip | go_guarded | go_step | go_upon))
          refine (HS.out _).mono ?_
          rintro e w1 ⟨rfl, q1, rfl⟩
          ((try dsimp only); repeat (first | go_values | go_skip | go_guarded | go_step | go_upon))
          go_ret2
          exact ⟨by rw [HC.out]; rfl, _, rfl⟩
        · have hrb : (m % 2 ^ n != 0) = true := bne_iff_ne.2 hr
          rw [if_neg hr] at HC
          rw [hrb] at HS
          obtain ⟨hw1, hw2⟩ := cut_mask (n := n) h0 h1 (by omega) (by omega)
          obtain ⟨p, hp⟩ : ∃ p, p = (2:Int) ^ (n - 1) := ⟨_, rfl⟩
          obtain ⟨rr, hrr⟩ : ∃ rr, rr = m % 2 ^ n := ⟨_, rfl⟩
          have hw3 : IntKind.u64.wrap (2 ^ (n - 1)) = p := by rw [hw1, hp]
          have hw4 : bits .and .u64 m (IntKind.u64.wrap (IntKind.u64.wrap (p * 2) - 1)) = rr := by rw [hp, hrr]; exact hw2
          rw [← hp, ← hrr] at HC
          have hn0 : ¬ n = 0 := by omega
          clear hrb hq hp hrr hr hw1 hw2
          rcases Int.lt_trichotomy rr p with hl | hl | hl
          · rw [if_pos hl] at HC
            go_enter Tryz.func226, Tryz.ntmps226
            ((try dsimp only); repeat (first | go_values | go_skip | go_guarded | go_step | go_upon))
            refine (HS.out _).mono ?_
            rintro e w1 ⟨rfl, q1, rfl⟩
            ((try dsimp only); repeat (first | go_values | go_skip | go_guarded | go_step | go_upon))
            go_ret2
            exact ⟨by rw [HC.out]; rfl, _, rfl⟩
          · rw [if_neg (by omega), if_neg (by omega)] at HC
            have hl1 : ¬ rr < p := by omega
            have hl2 : ¬ p < rr := by omega
            clear hl
            go_enter Tryz.func226, Tryz.ntmps226
            ((try dsimp only); repeat (first | go_values | go_skip | go_guarded | go_step | go_upon))
            refine (HS.out _).mono ?_
            rintro e w1 ⟨rfl, q1, rfl⟩
            ((try dsimp only); repeat (first | go_values | go_skip | go_guarded | go_step | go_upon))
            go_ret2
            exact ⟨by rw [HC.out]; rfl, _, rfl⟩
          · rw [if_neg (by omega), if_pos hl] at HC
            have hl1 : ¬ rr < p := by omega
            go_enter Tryz.func226, Tryz.ntmps226
            ((try dsimp only); repeat (first | go_values | go_skip | go_guarded | go_step | go_upon))
            refine (HS.out _).mono ?_
            rintro e w1 ⟨rfl, q1, rfl⟩
            ((try dsimp only); repeat (first | go_values | go_skip | go_guarded | go_step | go_upon))
            go_ret2
            exact ⟨by rw [HC.out]; rfl, _, rfl⟩
end Go.Proofs.YtfpofmifmapmfaaGreatDoor

namespace Go.Proofs.YtfpofmifmapmfaaGreatDoor
set_option linter.unusedVariables false
set_option linter.unusedSimpArgs false
def lastR (m x : Int) : Int := if m = 0 then -1074 else if x + blen m - 53 < -1074 then -1074 else x + blen m - 53
def stepR (m x : Int) : Int × Int := if x < lastR m x then cutR m (lastR m x - x) else (m * 2 ^ (x - lastR m x).toNat, 0)
def tailR (t : Int) (sticky : Bool) : Int := if (sticky && (decide (t = 0) || decide (t = 2))) = true then t + 1 else t
def upR (m t : Int) : Bool := decide (t = 3) || decide (t = 2) && decide (m % 2 = 1)
def roundR (m t : Int) : Int := m + if upR m t = true then 1 else 0
def finM (m x : Int) (sticky : Bool) : Int × Int := if roundR (stepR m x).1 (tailR (stepR m x).2 sticky) = 9007199254740992 then (4503599627370496, lastR m x + 1) else (roundR (stepR m x).1 (tailR (stepR m x).2 sticky), lastR m x)
def finR (neg : Bool) (m x : Int) (sticky : Bool) : Int × Int := if 971 < (finM m x sticky).2 then (0, 70) else (jn neg (finM m x sticky).1 (finM m x sticky).2, 0)
theorem lastR_ge (m x : Int) : -1074 ≤ lastR m x := by unfold lastR; split; omega; split <;> omega
theorem blen_le64 {m : Int} (h : m ≤ 18446744073709551615) : blen m ≤ 64 := blen_le_of_lt (n := 64) (by show m < 18446744073709551616; omega)
theorem lastR_le {m x : Int} (h : m ≤ 18446744073709551615) (hx : -1085 ≤ x) : lastR m x ≤ x + 11 := by
  have := blen_le64 h
  unfold lastR; split; omega; split <;> omega
theorem cutR_fst {m k : Int} (h0 : 0 ≤ m) (h1 : m ≤ 18446744073709551615) (hk : 0 < k) : (cutR m k).1 = m / 2 ^ k.toNat := by
  rw [cutR_is]
  split
  · rename_i h
    rcases h with rfl | h
    · simp
    · omega
  · split
    · have p := ipow_le (show 64 ≤ k.toNat by omega)
      exact (Int.ediv_eq_zero_of_lt h0 (Int.lt_of_lt_of_le (show m < (2:Int) ^ 64 by show m < 18446744073709551616; omega) p)).symm
    · split
      · rfl
      · split
        · rfl
        · split <;> rfl
theorem cutR_exact {m k : Int} (h0 : 0 ≤ m) (hk : 0 < k) (hk1 : k ≤ 64) (hd : m % 2 ^ k.toNat = 0) : (cutR m k).2 = 0 := by
  rw [cutR_is, if_neg (show ¬ 64 < k by omega), if_pos hd]
  split <;> rfl
theorem cutR_tail (m k : Int) : 0 ≤ (cutR m k).2 ∧ (cutR m k).2 ≤ 3 := by
  have h : ∀ (x : Int) (t : Int), 0 ≤ t → t ≤ 3 → 0 ≤ (x, t).2 ∧ (x, t).2 ≤ 3 := fun x t h0 h1 => ⟨h0, h1⟩
  rw [cutR_is]
  split
  · exact h _ _ (by decide) (by decide)
  · split
    · exact h _ _ (by decide) (by decide)
    · split
      · exact h _ _ (by decide) (by decide)
      · split
        · exact h _ _ (by decide) (by decide)
        · split <;> exact h _ _ (by decide) (by decide)
theorem stepR_tail (m x : Int) : 0 ≤ (stepR m x).2 ∧ (stepR m x).2 ≤ 3 := by
  unfold stepR; split
  · exact cutR_tail _ _
  · exact ⟨by show (0:Int) ≤ 0; omega, by show (0:Int) ≤ 3; omega⟩
theorem tailR_range {t : Int} (h0 : 0 ≤ t) (h1 : t ≤ 3) (s : Bool) : 0 ≤ tailR t s ∧ tailR t s ≤ 3 := by
  unfold tailR; split
  · rename_i h
    simp at h
    omega
  · exact ⟨h0, h1⟩
theorem stepR_fst {m x : Int} (h0 : 0 ≤ m) (h1 : m ≤ 18446744073709551615) :
    0 ≤ (stepR m x).1 ∧ (stepR m x).1 < 9007199254740992 ∧ (4503599627370496 ≤ (stepR m x).1 ∨ lastR m x = -1074) := by
  have e53 : (9007199254740992 : Int) = 2 ^ 53 := by decide
  have e52 : (4503599627370496 : Int) = 2 ^ 52 := by decide
  by_cases hm : m = 0
  · subst hm
    unfold stepR
    split
    · rename_i h
      rw [cutR_fst (by omega) (by omega) (by omega)]
      have hl : lastR 0 x = -1074 := if_pos rfl
      simp [hl]
    · have hl : lastR 0 x = -1074 := if_pos rfl
      simp [hl]
  · have hm0 : 0 < m := by omega
    have b1 := blen_lt m
    have b2 := blen_le hm0
    have b3 := blen_pos hm0
    have hl : lastR m x = if x + blen m - 53 < -1074 then -1074 else x + blen m - 53 := if_neg hm
    generalize hL : lastR m x = L at *
    have hL1 : x + blen m - 53 ≤ L := by rw [hl]; split <;> omega
    have hL2 : L = -1074 ∨ L = x + blen m - 53 := by rw [hl]; split <;> simp
    clear hl
    generalize blen m = n at *
    obtain ⟨n, rfl⟩ := Int.eq_ofNat_of_zero_le (show 0 ≤ n by omega)
    rw [Int.toNat_natCast] at b1
    rw [show ((n : Int) - 1).toNat = n - 1 by omega] at b2
    by_cases hx : x < L
    · obtain ⟨k, hk⟩ : ∃ k : Nat, L - x = k := ⟨(L - x).toNat, by omega⟩
      have e : (stepR m x).1 = m / 2 ^ k := by unfold stepR; rw [hL, if_pos hx, cutR_fst h0 h1 (by omega), hk, Int.toNat_natCast]
      rw [e]
      have p := ipow_pos k
      refine ⟨Int.ediv_nonneg h0 (Int.le_of_lt p), ?_, ?_⟩
      · rw [e53]
        refine Int.ediv_lt_of_lt_mul p ?_
        rw [← Int.pow_add]
        exact Int.lt_of_lt_of_le b1 (ipow_le (by omega))
      · rcases hL2 with h | h
        · exact Or.inr h
        · refine Or.inl ?_
          rw [e52]
          refine (Int.le_ediv_iff_mul_le p).2 ?_
          rw [← Int.pow_add, show 52 + k = n - 1 by omega]
          exact b2
    · obtain ⟨k, hk⟩ : ∃ k : Nat, x - L = k := ⟨(x - L).toNat, by omega⟩
      have e : (stepR m x).1 = m * 2 ^ k := by unfold stepR; rw [hL, if_neg hx, hk, Int.toNat_natCast]
      rw [e]
      have p := ipow_pos k
      refine ⟨Int.mul_nonneg h0 (Int.le_of_lt p), ?_, ?_⟩
      · rw [e53]
        refine Int.lt_of_lt_of_le (Int.mul_lt_mul_of_pos_right b1 p) ?_
        rw [← Int.pow_add]
        exact ipow_le (by omega)
      · rcases hL2 with h | h
        · exact Or.inr h
        · refine Or.inl ?_
          rw [e52, show 52 = (n - 1) + k by omega, Int.pow_add]
          exact Int.mul_le_mul_of_nonneg_right b2 (Int.le_of_lt p)
theorem roundR_range {m t : Int} : m ≤ roundR m t ∧ roundR m t ≤ m + 1 := by unfold roundR; split <;> omega
theorem finM_ok {m x : Int} (s : Bool) (h0 : 0 ≤ m) (h1 : m ≤ 18446744073709551615) :
    0 ≤ (finM m x s).1 ∧ (finM m x s).1 < 9007199254740992 ∧ -1074 ≤ (finM m x s).2 ∧ (4503599627370496 ≤ (finM m x s).1 ∨ (finM m x s).2 = -1074) := by
  obtain ⟨a, b, c⟩ := stepR_fst (x := x) h0 h1
  have hr := @roundR_range (stepR m x).1 (tailR (stepR m x).2 s)
  have hl := lastR_ge m x
  unfold finM
  split
  · exact ⟨show (0:Int) ≤ 4503599627370496 by decide, show (4503599627370496:Int) < 9007199254740992 by decide, by show -1074 ≤ lastR m x + 1; omega, Or.inl (show (4503599627370496:Int) ≤ 4503599627370496 by decide)⟩
  · refine ⟨by show 0 ≤ roundR _ _; omega, by show roundR _ _ < _; omega, hl, ?_⟩
    rcases c with c | c
    · exact Or.inl (by show _ ≤ roundR _ _; omega)
    · exact Or.inr c
def maxQ : Int := 9007199254740991 * 2 ^ 971
theorem finM_le {m x : Int} (s : Bool) (h0 : 0 ≤ m) (h1 : m ≤ 18446744073709551615) (h : 0 ≤ x → m * 2 ^ x.toNat ≤ maxQ) : (finM m x s).2 ≤ 971 := by
  by_cases hl : lastR m x ≤ 970
  · unfold finM; split
    · show lastR m x + 1 ≤ 971; omega
    · show lastR m x ≤ 971; omega
  · have hm : m ≠ 0 := fun e => by subst e; exact hl (by show (if (0:Int) = 0 then _ else _) ≤ 970; rw [if_pos rfl]; omega)
    have hm0 : 0 < m := by omega
    have b2 := blen_le hm0
    have b3 := blen_pos hm0
    have b4 := blen_le64 h1
    have hL : lastR m x = x + blen m - 53 := by
      have e : lastR m x = if x + blen m - 53 < -1074 then -1074 else x + blen m - 53 := if_neg hm
      rw [e] at hl ⊢
      split
      · rename_i k; rw [if_pos k] at hl; omega
      · rfl
    have hx : 0 ≤ x := by omega
    have hq := h hx
    obtain ⟨y, rfl⟩ := Int.eq_ofNat_of_zero_le hx
    rw [Int.toNat_natCast] at hq
    have p := ipow_pos y
    obtain ⟨n, hn⟩ : ∃ n : Nat, blen m = n := ⟨(blen m).toNat, by omega⟩
    rw [hn] at b2 b3 b4 hL
    rw [show ((n : Int) - 1).toNat = n - 1 by omega] at b2
    have hlt : n - 1 + y < 1024 := by
      refine ipow_lt_of (Int.lt_of_le_of_lt ?_ (show maxQ < (2:Int) ^ 1024 by unfold maxQ; decide +kernel))
      rw [Int.pow_add]
      exact Int.le_trans (Int.mul_le_mul_of_nonneg_right b2 (Int.le_of_lt p)) hq
    have hL1 : lastR m y = 971 := by omega
    have hm1 : (stepR m y).1 ≤ 9007199254740991 ∧ ((stepR m y).1 = 9007199254740991 → (stepR m y).2 = 0) := by
      by_cases hk : (y : Int) < lastR m y
      · obtain ⟨k, hk1⟩ : ∃ k : Nat, lastR m y - y = k := ⟨(lastR m y - y).toNat, by omega⟩
        have e0 : stepR m y = cutR m k := by unfold stepR; rw [if_pos hk, hk1]
        have e : (stepR m y).1 = m / 2 ^ k := by rw [e0, cutR_fst h0 h1 (by omega), Int.toNat_natCast]
        have pk := ipow_pos k
        have em : m / 2 ^ k * 2 ^ k ≤ m := Int.ediv_mul_le _ (by omega)
        have e971 : (2:Int) ^ 971 = 2 ^ k * 2 ^ y := by rw [← Int.pow_add]; congr 1; omega
        have g2 : m * 2 ^ y ≤ 9007199254740991 * 2 ^ k * 2 ^ y := by rw [Int.mul_assoc, ← e971]; exact hq
        have g3 : m ≤ 9007199254740991 * 2 ^ k := Int.le_of_mul_le_mul_right g2 p
        refine ⟨by rw [e]; exact Int.le_of_mul_le_mul_right (Int.le_trans em g3) pk, fun e1 => ?_⟩
        rw [e0]
        refine cutR_exact h0 (by omega) (by omega) ?_
        rw [Int.toNat_natCast]
        rw [e] at e1
        rw [e1] at em
        have := Int.emod_add_mul_ediv m (2 ^ k)
        rw [e1, Int.mul_comm] at this
        omega
      · obtain ⟨k, hk1⟩ : ∃ k : Nat, y - lastR m y = k := ⟨(y - lastR m y).toNat, by omega⟩
        have e0 : stepR m y = (m * 2 ^ k, 0) := by unfold stepR; rw [if_neg hk, hk1, Int.toNat_natCast]
        rw [e0]
        refine ⟨?_, fun _ => rfl⟩
        show m * 2 ^ k ≤ _
        have e2 : (2:Int) ^ y = 2 ^ k * 2 ^ 971 := by rw [← Int.pow_add]; congr 1; omega
        rw [e2, ← Int.mul_assoc] at hq
        exact Int.le_of_mul_le_mul_right hq (ipow_pos 971)
    have hr : roundR (stepR m y).1 (tailR (stepR m y).2 s) ≠ 9007199254740992 := by
      intro e
      have hr := @roundR_range (stepR m y).1 (tailR (stepR m y).2 s)
      have h1 : (stepR m y).1 = 9007199254740991 := by omega
      rw [hm1.2 h1, h1] at e
      cases s <;> revert e <;> decide
    unfold finM
    rw [if_neg hr]
    show lastR m y ≤ 971
    omega
def quotR (neg : Bool) (x y : Int) : Int × Int :=
  if x = 0 then (if neg then 9223372036854775808 else 0, 0)
  else if 1100 < blen x - blen y then finR neg 1 (blen x - blen y) true
  else if blen x - blen y < -1200 then finR neg 0 0 true
  else if 0 < blen x - blen y - 62 then finR neg (x / (y * 2 ^ (blen x - blen y - 62).toNat)) (blen x - blen y - 62) (decide (x % (y * 2 ^ (blen x - blen y - 62).toNat) ≠ 0))
  else finR neg (x * 2 ^ (-(blen x - blen y - 62)).toNat / y) (blen x - blen y - 62) (decide (x * 2 ^ (-(blen x - blen y - 62)).toNat % y ≠ 0))
theorem quotR_q {x y : Int} (hx : 0 < x) (hy : 0 < y) : (0 < blen x - blen y - 62 → 0 ≤ x / (y * 2 ^ (blen x - blen y - 62).toNat) ∧ x / (y * 2 ^ (blen x - blen y - 62).toNat) ≤ 9223372036854775807) ∧
    (blen x - blen y - 62 ≤ 0 → 0 ≤ x * 2 ^ (-(blen x - blen y - 62)).toNat / y ∧ x * 2 ^ (-(blen x - blen y - 62)).toNat / y ≤ 9223372036854775807) := by
  have a1 := blen_lt x
  have a2 := blen_pos hx
  have b1 := blen_le hy
  have b2 := blen_pos hy
  obtain ⟨n, hn⟩ : ∃ n : Nat, blen x = n := ⟨(blen x).toNat, by omega⟩
  obtain ⟨m, hm⟩ : ∃ m : Nat, blen y = (m : Int) + 1 := ⟨(blen y - 1).toNat, by omega⟩
  rw [hn, hm]
  rw [hn] at a1 a2
  rw [hm] at b1 b2
  rw [Int.toNat_natCast] at a1
  rw [show ((m : Int) + 1 - 1).toNat = m by omega] at b1
  have e63 : (9223372036854775807 : Int) = 2 ^ 63 - 1 := by decide
  refine ⟨fun h => ?_, fun h => ?_⟩
  · obtain ⟨k, hk⟩ : ∃ k : Nat, (n : Int) - ((m : Int) + 1) - 62 = k := ⟨((n : Int) - ((m : Int) + 1) - 62).toNat, by omega⟩
    rw [hk, Int.toNat_natCast]
    have p := ipow_pos k
    have q : 0 < y * 2 ^ k := Int.mul_pos hy p
    refine ⟨Int.ediv_nonneg (by omega) (by omega), ?_⟩
    have : x / (y * 2 ^ k) < 2 ^ 63 := by
      refine Int.ediv_lt_of_lt_mul q (Int.lt_of_lt_of_le a1 ?_)
      rw [show n = 63 + (m + k) by omega, Int.pow_add, Int.pow_add]
      exact Int.mul_le_mul_of_nonneg_left (Int.mul_le_mul_of_nonneg_right b1 (by omega)) (by decide)
    omega
  · obtain ⟨k, hk⟩ : ∃ k : Nat, -((n : Int) - ((m : Int) + 1) - 62) = k := ⟨(-((n : Int) - ((m : Int) + 1) - 62)).toNat, by omega⟩
    rw [hk, Int.toNat_natCast]
    have p := ipow_pos k
    refine ⟨Int.ediv_nonneg (Int.mul_nonneg (by omega) (by omega)) (by omega), ?_⟩
    have : x * 2 ^ k / y < 2 ^ 63 := by
      refine Int.ediv_lt_of_lt_mul hy ?_
      refine Int.lt_of_lt_of_le (Int.mul_lt_mul_of_pos_right a1 p) ?_
      rw [← Int.pow_add, show n + k = 63 + m by omega, Int.pow_add]
      exact Int.mul_le_mul_of_nonneg_left b1 (by decide)
    omega
theorem finR_ok {neg : Bool} {m x : Int} {s : Bool} (h0 : 0 ≤ m) (h1 : m ≤ 18446744073709551615) (h : 0 ≤ x → m * 2 ^ x.toNat ≤ maxQ) : (finR neg m x s).2 = 0 ∧ Fin64 (finR neg m x s).1 := by
  have hle := finM_le s h0 h1 h
  obtain ⟨a, b, c, d⟩ := @finM_ok m x s h0 h1
  unfold finR
  rw [if_neg (by omega)]
  refine ⟨rfl, ?_⟩
  show Fin64 (jn neg _ _)
  generalize (finM m x s).1 = f at *
  generalize (finM m x s).2 = g at *
  unfold Fin64 jn fe
  cases neg
  · simp only [Bool.false_eq_true, if_false]
    refine ⟨?_, ?_, ?_⟩ <;> omega
  · simp only [if_true]
    refine ⟨?_, ?_, ?_⟩ <;> omega
theorem quot_size {x y : Int} (hx1 : 0 < x) (hy : 0 < y) (h : x ≤ maxQ * y) : blen x - blen y ≤ 1100 := by
  have a1 := blen_le hx1
  have a2 := blen_pos hx1
  have b1 := blen_lt y
  have b2 := blen_pos hy
  have e : (2:Int) ^ ((blen x - 1).toNat) < 2 ^ (1024 + (blen y).toNat) := by
    rw [Int.pow_add]
    refine Int.lt_of_le_of_lt a1 (Int.lt_of_le_of_lt h ?_)
    exact Int.lt_of_lt_of_le (Int.mul_lt_mul_of_pos_left b1 (show 0 < maxQ by unfold maxQ; decide +kernel)) (Int.mul_le_mul_of_nonneg_right (show maxQ ≤ 2 ^ 1024 by unfold maxQ; decide +kernel) (Int.le_of_lt (ipow_pos _)))
  have := ipow_lt_of e
  omega
theorem quot_fit_up {x y : Int} (hy : 0 < y) (h : x ≤ maxQ * y) (k : Nat) : x / (y * 2 ^ k) * 2 ^ k ≤ maxQ := by
  have p : (0:Int) < 2 ^ k := ipow_pos _
  generalize (2:Int) ^ k = P at *
  have e1 : x / (y * P) * (y * P) ≤ x := Int.ediv_mul_le _ (by have := Int.mul_pos hy p; omega)
  have e2 : (x / (y * P) * P) * y ≤ maxQ * y := by
    refine Int.le_trans (Int.le_trans (Int.le_of_eq ?_) e1) h
    grind
  exact Int.le_of_mul_le_mul_right e2 hy
theorem quot_fit {x y : Int} (hy : 0 < y) (h : x ≤ maxQ * y) : x / y ≤ maxQ := by
  have := quot_fit_up hy h 0
  simpa using this
theorem quotR_ok {neg : Bool} {x y : Int} (hx : 0 ≤ x) (hy : 0 < y) (h : x ≤ maxQ * y) : (quotR neg x y).2 = 0 ∧ Fin64 (quotR neg x y).1 := by
  unfold quotR
  split
  · refine ⟨rfl, ?_⟩
    cases neg <;> (unfold Fin64 fe; decide)
  · rename_i hx0
    have hx1 : 0 < x := by omega
    obtain ⟨q1, q2⟩ := quotR_q hx1 hy
    have hs := quot_size hx1 hy h
    rw [if_neg (by omega)]
    split
    · exact finR_ok (by omega) (by omega) (fun _ => by rw [Int.zero_mul]; unfold maxQ; decide +kernel)
    · split
      · rename_i h3
        have := q1 h3
        exact finR_ok this.1 (by omega) (fun h4 => quot_fit_up hy h _)
      · rename_i h3
        have := q2 (by omega)
        refine finR_ok this.1 (by omega) (fun h4 => ?_)
        have e0 : blen x - blen y - 62 = 0 := by omega
        rw [e0] at this ⊢
        simp only [Int.neg_zero, Int.toNat_zero, Int.pow_zero, Int.mul_one] at this ⊢
        exact quot_fit hy h
def nearR (q : Rat) : Int × Int := quotR (decide (q.num < 0)) (q.num.natAbs : Nat) (q.den : Nat)
def FitQ (q : Rat) : Prop := ((q.num.natAbs : Nat) : Int) ≤ maxQ * (q.den : Nat)
theorem nearR_ok {q : Rat} (h : FitQ q) : (nearR q).2 = 0 ∧ Fin64 (nearR q).1 := quotR_ok (by omega) (by have := q.den_pos; omega) h
theorem nearR_one : nearR 1 = (4607182418800017408, 0) := by decide +kernel
end Go.Proofs.YtfpofmifmapmfaaGreatDoor

namespace Go.Proofs.YtfpofmifmapmfaaGreatDoor
open Go.RowKit Go.Proofs.YtfpofmifmapmfaaGreatDoorW.PrintLast
set_option linter.unusedVariables false
set_option linter.unusedSimpArgs false
structure NShl (xs : List Int) (m k : Nat) (c : Int) (zs : List Int) : Prop where
  ws : Ws zs
  len : zs.length = k
  p0 : 0 ≤ c
  p1 : c < 2 ^ m
  e : val zs + W ^ k * c = val (xs.take k) * 2 ^ m
theorem NShl.start (xs : List Int) (m : Nat) : NShl xs m 0 0 [] := ⟨Ws.nil, rfl, by omega, ipow_pos m, by simp [val_nil]⟩
theorem NShl.next {xs : List Int} {m k : Nat} {c : Int} {zs : List Int} (h : NShl xs m k c zs) (hm : m < 64) (hk : k < xs.length) (h0 : 0 ≤ xs.getD k 0) (h1 : xs.getD k 0 ≤ 18446744073709551615) :
    NShl xs m (k + 1) (xs.getD k 0 * 2 ^ m / 18446744073709551616) (zs ++ [xs.getD k 0 * 2 ^ m % 18446744073709551616 + c]) := by
  obtain ⟨a, b, d, e, f⟩ := qshl_word hm h0 h1 h.p0 h.p1
  refine ⟨h.ws.append (Ws.cons b d Ws.nil), by rw [List.length_append, h.len]; rfl, e, f, ?_⟩
  rw [val_append, h.len, val_single, val_take_succ', Int.pow_succ]
  have g := h.e
  have hW := W_eq
  have i : xs.getD k 0 * 2 ^ m = xs.getD k 0 * 2 ^ m % 18446744073709551616 + W * (xs.getD k 0 * 2 ^ m / 18446744073709551616) := by rw [hW]; omega
  generalize xs.getD k 0 * 2 ^ m % 18446744073709551616 = s at *
  generalize xs.getD k 0 * 2 ^ m / 18446744073709551616 = t at *
  generalize (2:Int) ^ m = P at *
  grind
theorem NShl.done {xs : List Int} {m : Nat} {c : Int} {zs : List Int} (h : NShl xs m xs.length c zs) (hm : m < 64) (d : Nat) :
    Ws (zw d ++ (zs ++ [c])) ∧ (zw d ++ (zs ++ [c])).length = d + xs.length + 1 ∧ val (zw d ++ (zs ++ [c])) = val xs * 2 ^ (64 * d + m) := by
  have p : (2:Int) ^ m ≤ 2 ^ 63 := ipow_le (by omega)
  have c1 := h.p1
  have e63 : (2:Int) ^ 63 = 9223372036854775808 := by decide
  refine ⟨(zw_ws d).append (h.ws.append (Ws.cons h.p0 (by omega) Ws.nil)), by simp only [List.length_append, zw_length, h.len, List.length_cons, List.length_nil]; omega, ?_⟩
  rw [val_append, zw_val, zw_length, val_append, h.len, val_single, Int.zero_add]
  have e := h.e
  rw [List.take_length] at e
  rw [e, Wpow_eq, Int.pow_add]
  generalize (2:Int) ^ (64 * d) = A
  generalize (2:Int) ^ m = B
  grind
theorem made_cap (d c : Nat) (h : d ≤ c) : (madeCells (Value.cells (.int .u64 0)) (c * 1)).toList.take d = wv (zw d) := by
  rw [made_words]
  simp [wv, zw, List.take_replicate, Nat.min_eq_left h]
theorem run_make_cap (d c : Nat) (L C : Int) (hL : L = d) (hC : C = c) (h : d ≤ c) (hc : c ≤ 35184372088832) (w : World) (base : Nat) (hb : base ≤ w.heap.size) :
    (Instr.makeSlice 24 (.int .i64 L) (.int .i64 C)).run Tryz.prog w = .ok (.slice (some ⟨w.heap.size, 0, none⟩) d c) (w.alloc (.cells (wv (zw c)).toArray 36)) ∧
    (w.alloc (.cells (wv (zw c)).toArray 36)).ownsRow base 36 1 (.slice (some ⟨w.heap.size, 0, none⟩) d c) d (wv (zw d)) := by
  obtain ⟨i, hi, h1, h2, h3⟩ := info_parts info_u64
  subst hL hC
  refine ⟨by rw [run_make w 24 36 i (.int .u64 0) Tryz.underlying24 hi h1 .i64 .i64 d c (by omega) (by omega) (by rw [h3]; omega) (by omega), h2, Int.toNat_natCast, Int.toNat_natCast, made_words], ?_⟩
  refine ⟨by simp [wv_length, zw_length], Or.inr ⟨w.heap.size, c, _, rfl, hb, by rw [alloc_heap_at, if_pos rfl], h, by unfold maxLen; omega, by simp [wv_length, zw_length], ?_⟩⟩
  simp [wv, zw, List.take_replicate, Nat.min_eq_left h]
theorem ownsRow_drewN {w : World} {base : Nat} {e : TypeId} {size : Nat} {v : Value} {n : Nat} {xs : List Value} (q : Nat) (h : w.ownsRow base e size v n xs) : (w.drewN q).ownsRow base e size v n xs := h
theorem info_u64s : ∃ i, Tryz.prog.info? 36 = some i ∧ i.size = 1 := by
  obtain ⟨i, hi, h1, h2, h3⟩ := info_parts info_u64
  exact ⟨i, hi, h2⟩
theorem FreshAt.owned {w : World} {base : Nat} {g n cap : Nat} {zs : List Int} (h : w.ownsRow base 36 1 (.slice (some ⟨g, 0, none⟩) n cap) n (wv zs)) : FreshAt base w (some ⟨g, 0, none⟩) cap zs := by
  obtain ⟨h1, h2 | ⟨g', cap', cur, hv, hb, hg, hn, hc, hs, ht⟩⟩ := h
  · cases h2.1
  · cases hv
    rw [wv_length, Nat.mul_one] at h1
    refine Or.inr ⟨g, cur, rfl, hb, hg, by omega, by omega, fun i hi => ?_⟩
    rw [Nat.mul_one] at ht
    have e : (wv zs)[i]? = some (.int .u64 (zs.getD i 0)) := wv_get zs i hi
    rw [← ht, List.getElem?_take, if_pos (by omega)] at e
    simpa using e
theorem wpList_append_word {w : World} {ops : Array Oper} {rest : List Oper} {o : Oper} {a : Act} {Q : Exit → Act → World → Prop} (hgd : o.guard = none) (s x : Operand)
    (ho : o.op = .call { callee := .builtin .append, args := #[s, x], argTypes := #[24, 24] }) (base g n cap : Nat) (zs : List Int) (v : Int) (g1 c1 : Nat)
    (hs : a.eval s = .slice (some ⟨g, 0, none⟩) n cap) (hx : a.eval x = .slice (some ⟨g1, 0, none⟩) 1 c1) (hown : w.ownsRow base 36 1 (.slice (some ⟨g, 0, none⟩) n cap) n (wv zs)) (hc : w.cell? ⟨g1, 0, none⟩ = some (.int .u64 v)) (hb : n + 1 ≤ cap)
    (h : ∀ w', w'.ownsRow base 36 1 (.slice (some ⟨g, 0, none⟩) (n + 1) cap) (n + 1) (wv (zs ++ [v])) → w.grownBy w' (some g) → wpList Tryz.prog ops Q rest (a.put o.dst (.slice (some ⟨g, 0, none⟩) (n + 1) cap)) w') : wpList Tryz.prog ops Q (o :: rest) a w := by
  obtain ⟨iu, hiu, hiu2⟩ := info_u64s
  refine wpList_append_fits w hgd s x 24 ho base 36 iu 1 Tryz.underlying24 hiu hiu2 g n cap (wv zs) hs hown ⟨g1, 0, none⟩ 1 c1 (wv [v]) hx rfl ?_ ?_ hb ?_
  · intro j u hj
    match j with
    | 0 => exact hc.trans hj
    | j + 1 => simp [wv] at hj
  · intro u hu
    simp [wv] at hu
    subst hu; rfl
  · intro w' h1 h2
    exact h w' (by rw [wv_append]; exact h1) h2
set_option maxRecDepth 100000 in
set_option maxHeartbeats 1600000 in
theorem vShl (A : Option Addr) (c lo up : Nat) (xs : List Int) (n : Nat) (w : World) (hx : Ws xs) (hA : WordsIn lo up w A xs) (hu : up ≤ w.heap.size) (hl : xs.length ≤ 17592186044416) (hn : n ≤ 1000000) :
    Calls Tryz.prog 192 #[.slice A xs.length c, .int .i64 n] w fun e w' => ∃ B zs cap, e = .returned (.slice B zs.length cap) ∧ Ws zs ∧ zs.length = n / 64 + xs.length + 1 ∧ val zs = val xs * 2 ^ n ∧ FreshAt w.heap.size w' B cap zs ∧ Below w.heap.size w w' := by
  obtain ⟨d, hd⟩ : ∃ d, n / 64 = d := ⟨_, rfl⟩
  obtain ⟨m, hm⟩ : ∃ m, n % 64 = m := ⟨_, rfl⟩
  have hm64 : m < 64 := by omega
  have hnd : n = 64 * d + m := by omega
  have hmk := run_make_cap d (d + xs.length + 1) d ((d : Int) + xs.length + 1) rfl (by omega) (by omega) (by omega) w w.heap.size (Nat.le_refl _)
  obtain ⟨hmk, hown⟩ := hmk
  have hd0 : (n : Int) / 64 = d := by omega
  have hm0 : (n : Int) % 64 = m := by omega
  have hmt : ((m : Int)).toNat = m := by omega
  have HD := Lib.hid (And.intro hd hnd)
  clear hd hm hnd
  go_enter Tryz.func192, Tryz.ntmps192
  ((try dsimp only); repeat (first | go_values | go_skip | go_guarded | go_step | go_upon))
  go_loopw [5, 6, 22] (fun o cr i wr => ∃ (k : Nat) (c0 : Int) (zs : List Int), i = .int .i64 k ∧ cr = .int .u64 c0 ∧ o = .slice (some ⟨w.heap.size, 0, none⟩) (d + k) (d + xs.length + 1) ∧ k ≤ xs.length ∧ NShl xs m k c0 zs ∧ wr.ownsRow w.heap.size 36 1 (.slice (some ⟨w.heap.size, 0, none⟩) (d + k) (d + xs.length + 1)) (d + k) (wv (zw d ++ zs)) ∧ Below w.heap.size w wr) (fun _ _ i _ => xs.length - (intOf i).toNat)
  case atStart => exact ⟨0, 0, [], rfl, rfl, rfl, Nat.zero_le _, NShl.start xs m, by rw [List.append_nil]; exact hown, (by repeat (first | exact Below.refl _ _ | refine belowN ?_ _ | refine Below.drew ?_ | refine Below.alloc ?_ (by first | exact Nat.le_refl _ | (simp; done) | (simp; omega) | omega) _))⟩
  case round =>
    obtain ⟨k, c0, zs, rfl, rfl, rfl, hk, hI, hO, hB⟩ := hrel
    have hc0 := hI.p0
    have hc1 := hI.p1
    clear hmk hown
    by_cases hlt : k < xs.length
    · obtain ⟨b, o, rfl, hb1, hb2, hcy⟩ := (hA.keep (Keep.of hB hu)).at (i := k) hlt
      have hyk := hx.getD k
      have HN := Lib.hid (hI.next hm64 hlt hyk.1 hyk.2)
      have hor := (qshl_word (n := m) (x := xs.getD k 0) hm64 hyk.1 hyk.2 hc0 hc1).1
      have HO := Lib.hid hO
      generalize xs.getD k 0 = y at *
      clear hc1 hO
      ((try dsimp only); repeat (first | go_values | go_skip | go_guarded | go_step | go_upon))
      refine (wShl0 y m _ hyk.1 hyk.2 (by omega) (by omega)).mono ?_
      rintro e w' ⟨rfl, q2, rfl⟩
      rw [hmt]
      try dsimp only
      repeat (first | (with_reducible refine wpList_append_word rfl (.tmp 33) (.tmp 37) rfl (w.heap.size) (w.heap.size) (d + k) (d + xs.length + 1) (zw d ++ zs) (y * 2 ^ m % 18446744073709551616 + c0) (wr.heap.size) (1) ?apa ?apb ?apc ?apd ?ape ?_) | go_values | go_skip | go_guarded | go_step | go_upon)
      case apa => rfl
      case apb => rfl
      case apc => exact ownsRow_drewN _ (HO.out.alloc _)
      case apd => exact cell_of_cells (alloc_new wr _) 0
      case ape => omega
      intro w2 hO2 hg2
      ((try dsimp only); repeat (first | go_values | go_skip | go_guarded | go_step | go_upon))
      have hB2 : Below w.heap.size w w2 := (belowN (hB.alloc hB.size _) q2).grown hg2 (by have := hB.size; simp; omega) (by intro j hj; simp at hj; omega)
      rw [List.append_assoc] at hO2
      exact ⟨⟨k + 1, _, _, vint (by omega), rfl, rfl, by omega, HN.out, hO2, hB2⟩, by simp [intOf]; omega⟩
    · obtain rfl : k = xs.length := by omega
      obtain ⟨n1, n2, n3⟩ := hI.done hm64 d
      have HV := Lib.hid (And.intro n2 n3)
      have HO := Lib.hid hO
      clear hc1 hO n2 n3
      try dsimp only
      repeat (first | (with_reducible refine wpList_append_word rfl (.tmp 41) (.tmp 43) rfl (w.heap.size) (w.heap.size) (d + xs.length) (d + xs.length + 1) (zw d ++ zs) (c0) (wr.heap.size) (1) ?apa ?apb ?apc ?apd ?ape ?_) | go_values | go_skip | go_guarded | go_step | go_upon)
      case apa => rfl
      case apb => rfl
      case apc => exact HO.out.alloc _
      case apd => exact cell_of_cells (alloc_new wr _) 0
      case ape => omega
      intro w2 hO2 hg2
      have hB2 : Below w.heap.size w w2 := (hB.alloc hB.size _).grown hg2 (by have := hB.size; simp; omega) (by intro j hj; simp at hj; omega)
      rw [List.append_assoc] at hO2
      have HO2 := Lib.hid hO2
      clear hO2
      ((try dsimp only); repeat (first | go_values | go_skip | go_guarded | go_step | go_upon))
      go_ret
      refine ⟨_, zw d ++ (zs ++ [c0]), _, by rw [HV.out.1]; rfl, n1, by rw [HV.out.1, HD.out.1], by rw [HV.out.2, HD.out.2], FreshAt.owned HO2.out, hB2⟩
end Go.Proofs.YtfpofmifmapmfaaGreatDoor

namespace Go.Proofs.YtfpofmifmapmfaaGreatDoor
open Go.RowKit Go.Proofs.YtfpofmifmapmfaaGreatDoorW.PrintLast
set_option linter.unusedVariables false
set_option linter.unusedSimpArgs false
set_option maxRecDepth 100000 in
theorem vJoin0 (neg : Bool) (e : Int) (w : World) : Calls Tryz.prog 122 #[.bool neg, .int .u64 0, .int .i64 e] w fun x w' => x = .returned (.tuple #[.int .u64 (if neg then 9223372036854775808 else 0), .int .i64 0]) ∧ w = w' := by
  cases neg
  all_goals
    go_enter Tryz.func122, Tryz.ntmps122
    ((try dsimp only); repeat (first | go_values | go_skip | go_guarded | go_step | go_upon))
    go_ret2
    exact ⟨rfl, rfl⟩
theorem vJoinAny (neg : Bool) (m e : Int) (w : World) (h0 : 0 ≤ m) (h1 : m < 9007199254740992) (he : -1074 ≤ e) (he1 : e ≤ 971) (hc : 4503599627370496 ≤ m ∨ e = -1074) :
    Calls Tryz.prog 122 #[.bool neg, .int .u64 m, .int .i64 e] w fun x w' => x = .returned (.tuple #[.int .u64 (jn neg m e), .int .i64 0]) ∧ w = w' := by
  by_cases hm : m = 0
  · subst hm
    refine (vJoin0 neg e w).mono ?_
    rintro x w' ⟨rfl, rfl⟩
    refine ⟨R2 ?_ rfl, rfl⟩
    unfold jn
    rw [show e = -1074 by omega]
    omega
  · exact vJoin neg m e w (by omega) h1 he he1 hc
set_option maxRecDepth 100000 in
set_option maxHeartbeats 1600000 in
theorem vFinish (neg : Bool) (m x : Int) (s : Bool) (w : World) (h0 : 0 ≤ m) (h1 : m ≤ 18446744073709551615) (hx : -100000 ≤ x) (hx1 : x ≤ 100000) (hne : m ≠ 0 ∨ s = true) (hf : (finM m x s).2 ≤ 971) :
    Calls Tryz.prog 190 #[.bool neg, .int .u64 m, .int .i64 x, .bool s, .int .i64 0] w fun e w' => e = .returned (.tuple #[.int .u64 (jn neg (finM m x s).1 (finM m x s).2), .int .i64 0]) ∧ Below w.heap.size w w' := by
  go_enter Tryz.func190, Tryz.ntmps190
  go_upto_if 19 with (fail)
  go_cut [12, 13] (fun a b wx => (∃ i, a = .int .u64 i) ∧ (∃ j, b = .int .i64 j) ∧ wx = w)
  case first =>
    go_wp2_with fail
    all_goals go_meet
    all_goals exact ⟨⟨_, rfl⟩, ⟨_, rfl⟩, rfl⟩
  case rest =>
      obtain ⟨⟨i, rfl⟩, ⟨j, rfl⟩, rfl⟩ := hcut
      go_upto_region 4 with (fail)
      go_cut [25] (fun b wx => b = .bool false ∧ wx = wc)
      case first =>
        by_cases hm : m = 0
        · have hmb : (m == 0) = true := beq_iff_eq.2 hm
          have hs : s = true := hne.resolve_left fun h => h hm
          clear hne hm
          subst hs
          go_wp2_with fail
          go_meet
          exact ⟨rfl, rfl⟩
        · have hmb : (m == 0) = false := beq_eq_false_iff_ne.2 hm
          clear hne
          go_wp2_with fail
          go_meet
          exact ⟨rfl, rfl⟩
      case rest =>
      obtain ⟨rfl, rfl⟩ := hcut
      clear hne
      go_wp2_with fail
      refine (wLen m _ h0 h1).mono ?_
      rintro e w1 ⟨rfl, rfl⟩
      have hn0 := blen_nonneg m
      have hn1 := blen_le64 h1
      have hL0 := lastR_ge m x
      have hL1 : lastR m x ≤ 100011 := by unfold lastR; split; omega; split <;> omega
      have hL2 : m ≠ 0 → x - lastR m x ≤ 53 := by intro hm; unfold lastR; rw [if_neg hm]; split <;> omega
      have HL2 := Lib.hid hL2
      obtain ⟨M, hM⟩ : ∃ M, (if x + blen m - 53 < -1074 then -1074 else x + blen m - 53) = M := ⟨_, rfl⟩
      have HL : Hid (lastR m x = if m = 0 then -1074 else M) := Lib.hid (by rw [← hM]; rfl)
      clear hL2
      go_upto_if 34 with (fail)
      clear hM
      go_cut [14] (fun b wx => b = .int .i64 (lastR m x) ∧ wx = wc)
      case first =>
        by_cases hm : m = 0
        · have hmb : (m == 0) = true := beq_iff_eq.2 hm
          rw [if_pos hm] at HL
          clear hm
          go_wp2_with fail
          go_meet
          exact ⟨by rw [HL.out], rfl⟩
        · have hmb : (m == 0) = false := beq_eq_false_iff_ne.2 hm
          rw [if_neg hm] at HL
          go_wp2_with fail
          go_meet
          exact ⟨by rw [HL.out], rfl⟩
      case rest =>
      obtain ⟨rfl, rfl⟩ := hcut
      clear HL hn0 hn1
      go_upto_if 37 with (fail)
      have HS : Hid (stepR m x = if x < lastR m x then cutR m (lastR m x - x) else (m * 2 ^ (x - lastR m x).toNat, 0)) := Lib.hid rfl
      obtain ⟨r0, r1, r2⟩ := stepR_fst (x := x) h0 h1
      obtain ⟨r3, r4⟩ := stepR_tail m x
      have HF : Hid (finM m x s = if roundR (stepR m x).1 (tailR (stepR m x).2 s) = 9007199254740992 then (4503599627370496, lastR m x + 1) else (roundR (stepR m x).1 (tailR (stepR m x).2 s), lastR m x)) := Lib.hid rfl
      have HK := Lib.hid (And.intro r2 hf)
      clear r2 hf
      generalize stepR m x = S at *
      generalize lastR m x = L at *
      go_cut [1, 15] (fun a b wx => a = .int .u64 S.1 ∧ b = .int .i64 S.2 ∧ ∃ q, wx = wc.drewN q)
      case first =>
        by_cases hk : x < L
        · go_wp2_with (go_at_call 226; refine (vCut m (L - x) _ h0 h1 (by omega) (by omega)).mono ?_; rintro e w1 ⟨rfl, q1, rfl⟩)
          go_meet
          exact ⟨by rw [HS.out, if_pos hk], by rw [HS.out, if_pos hk], _, rfl⟩
        · obtain ⟨k, hk1⟩ : ∃ k : Nat, x - L = k := ⟨(x - L).toNat, by omega⟩
          rw [if_neg (by omega), hk1, Int.toNat_natCast] at HS
          have e1 : S.1 = m * 2 ^ k := by rw [HS.out]
          rw [e1] at r0 r1
          by_cases hm : m = 0
          · have hmb2 : (m != 0) = false := by rw [hm]; rfl
            have E := Lib.hid hm
            clear hm
            go_wp2_with fail
            go_meet
            exact ⟨by rw [e1, E.out, Int.zero_mul], by rw [HS.out], 0, rfl⟩
          · have hmb2 : (m != 0) = true := bne_iff_ne.2 hm
            have hk53 := HL2.out hm
            go_wp2_with fail
            go_meet
            exact ⟨by rw [e1], by rw [HS.out], 0, rfl⟩
      case rest =>
        obtain ⟨rfl, rfl, q, rfl⟩ := hcut
        generalize S.1 = c1 at *
        generalize S.2 = t0 at *
        clear HS HL2
        go_upto_region 14 with (fail)
        obtain ⟨r5, r6⟩ := tailR_range r3 r4 s
        obtain ⟨B, hB⟩ : ∃ B, B = (s && (decide (t0 = 0) || decide (t0 = 2))) := ⟨_, rfl⟩
        have HT : Hid (tailR t0 s = if B = true then t0 + 1 else t0) := Lib.hid (by rw [hB]; rfl)
        have HB := Lib.hid hB
        clear hB
        generalize tailR t0 s = T at *
        go_cut [61] (fun b wx => b = .bool B ∧ wx = wc.drewN q)
        case first =>
          cases s
          · go_wp2_with fail
            go_meet
            exact ⟨by rw [HB.out]; rfl, rfl⟩
          · by_cases e0 : t0 = 0
            · have b0 : (t0 == 0) = true := beq_iff_eq.2 e0
              have E := Lib.hid e0
              clear e0
              go_wp2_with fail
              go_meet
              exact ⟨by rw [HB.out, decide_eq_true E.out]; rfl, rfl⟩
            · have b0 : (t0 == 0) = false := beq_eq_false_iff_ne.2 e0
              by_cases e2 : t0 = 2
              · have b2 : (t0 == 2) = true := beq_iff_eq.2 e2
                have E := Lib.hid e2
                clear e2
                go_wp2_with fail
                go_meet
                exact ⟨by rw [HB.out, decide_eq_true E.out, decide_eq_false e0]; rfl, rfl⟩
              · have b2 : (t0 == 2) = false := beq_eq_false_iff_ne.2 e2
                go_wp2_with fail
                go_meet
                exact ⟨by rw [HB.out, decide_eq_false e0, decide_eq_false e2]; rfl, rfl⟩
        case rest =>
          obtain ⟨rfl, rfl⟩ := hcut
          clear HB
          go_upto_if 61 with (fail)
          go_cut [15] (fun b wx => b = .int .i64 T ∧ wx = wc.drewN q)
          case first =>
            cases B
            · go_wp2_with fail
              go_meet
              exact ⟨by rw [HT.out]; rfl, rfl⟩
            · go_wp2_with fail
              go_meet
              exact ⟨by rw [HT.out]; rfl, rfl⟩
          case rest =>
            obtain ⟨rfl, rfl⟩ := hcut
            clear HT
            go_wp2_with (fail)
            refine (vWay _).mono ?_
            rintro e w2 ⟨rfl, hb2⟩
            have hst := store_func (P := Tryz.prog) w2 250 274
            go_upto_region 17 with (fail)
            have hand : bits BinOp.and IntKind.u64 c1 1 = c1 % 2 := and_one c1 r0 (by omega)
            have HU : Hid (roundR c1 T = c1 + if (decide (T = 3) || decide (T = 2) && decide (c1 % 2 = 1)) = true then 1 else 0) := Lib.hid rfl
            have HW := Lib.hid (fun wz => vWay1 neg (decide (c1 % 2 = 1)) T wz ⟨r5, r6⟩)
            have hodd : (c1 % 2 == 1) = decide (c1 % 2 = 1) := rfl
            generalize decide (c1 % 2 = 1) = od at *
            have HB2 := Lib.hid hb2
            clear hb2 hst
            go_wp2_with (fail)
            refine (HW.out _).mono ?_
            rintro e w3 ⟨rfl, rfl⟩
            generalize (decide (T = 3) || decide (T = 2) && od) = up at *
            go_upto_if 73 with (fail)
            have hr := @roundR_range c1 T
            generalize roundR c1 T = m2 at *
            go_cut [1] (fun b wx => b = .int .u64 m2 ∧ wx = w2.alloc (.cells #[.func (.func 250) #[] #[]] 274))
            case first =>
              cases up
              · go_wp2_with fail
                go_meet
                exact ⟨by rw [HU.out]; simp, rfl⟩
              · go_wp2_with fail
                go_meet
                exact ⟨by rw [HU.out]; simp, rfl⟩
            case rest =>
              obtain ⟨rfl, rfl⟩ := hcut
              clear HU HW hodd hand
              have hok := @finM_ok m x s h0 h1
              have HK2 := Lib.hid HK.out.2
              clear HK
              generalize hFq : finM m x s = F at *
              have HFq := Lib.hid hFq
              clear hFq
              obtain ⟨f0, f1, f2, f3⟩ := hok
              have f4 : F.2 ≤ 971 := HK2.out
              have HF3 := Lib.hid f3
              clear f3
              go_upto_if 77 with (fail)
              go_cut [1, 14] (fun a b wx => a = .int .u64 F.1 ∧ b = .int .i64 F.2 ∧ wx = w2.alloc (.cells #[.func (.func 250) #[] #[]] 274))
              case first =>
                by_cases h53 : m2 = 9007199254740992
                · have hbq : (m2 == 9007199254740992) = true := beq_iff_eq.2 h53
                  rw [if_pos h53] at HF
                  clear h53
                  go_wp2_with fail
                  go_meet
                  exact ⟨by rw [HF.out], by rw [HF.out], rfl⟩
                · have hbq : (m2 == 9007199254740992) = false := beq_eq_false_iff_ne.2 h53
                  rw [if_neg h53] at HF
                  clear h53
                  go_wp2_with fail
                  go_meet
                  exact ⟨by rw [HF.out], by rw [HF.out], rfl⟩
              case rest =>
                obtain ⟨rfl, rfl, rfl⟩ := hcut
                clear HF
                go_wp2_with fail
                refine (vJoinAny neg F.1 F.2 _ f0 f1 f2 f4 HF3.out).mono ?_
                rintro e w4 ⟨rfl, rfl⟩
                ((try dsimp only); repeat (first | go_values | go_skip | go_guarded | go_step | go_upon))
                go_ret2
                exact ⟨R2 (by rw [HFq.out]) rfl, ((by repeat (first | exact Below.refl _ _ | refine belowN ?_ _ | refine Below.drew ?_ | refine Below.alloc ?_ (by first | exact Nat.le_refl _ | (simp; done) | (simp; omega) | omega) _)) : Below _ _ _).trans (HB2.out.mono (by simp)) |>.alloc (by have := HB2.out.size; simp at this; omega) _⟩
end Go.Proofs.YtfpofmifmapmfaaGreatDoor

namespace Go.Proofs.YtfpofmifmapmfaaGreatDoor
open Go.RowKit Go.Proofs.YtfpofmifmapmfaaGreatDoorW.PrintLast
set_option linter.unusedVariables false
set_option linter.unusedSimpArgs false
structure Stays (w : World) : Prop where
  no0 : w.cell? ⟨0, 0, none⟩ = some (.bool false)
  no1 : w.cell? ⟨0, 1, none⟩ = some (.bool false)
  lt : 0 < w.heap.size
theorem Stays.keep {w w' : World} (h : Stays w) (k : Below w.heap.size w w') : Stays w' :=
  ⟨(k.cell (p := ⟨0, 0, none⟩) h.lt).trans h.no0, (k.cell (p := ⟨0, 1, none⟩) h.lt).trans h.no1, Nat.lt_of_lt_of_le h.lt k.size⟩
set_option maxRecDepth 100000 in
set_option maxHeartbeats 1600000 in
theorem vFinishBig (neg : Bool) (m x : Int) (s : Bool) (w : World) (h0 : 0 ≤ m) (h1 : m ≤ 18446744073709551615) (hx : -100000 ≤ x) (hx1 : x ≤ 100000) (hne : m ≠ 0 ∨ s = true) (hf : 971 < (finM m x s).2) (hst : Stays w) :
    Calls Tryz.prog 190 #[.bool neg, .int .u64 m, .int .i64 x, .bool s, .int .i64 0] w fun e w' => e = .returned (.tuple #[.int .u64 0, .int .i64 70]) ∧ Below w.heap.size w w' := by
  have HSt := Lib.hid hst
  clear hst
  go_enter Tryz.func190, Tryz.ntmps190
  go_upto_if 19 with (fail)
  go_cut [12, 13] (fun a b wx => (∃ i, a = .int .u64 i) ∧ (∃ j : Int, b = .int .i64 j ∧ (j = 0 ∨ j = 1)) ∧ wx = w)
  case first =>
    go_wp2_with fail
    all_goals go_meet
    all_goals exact ⟨⟨_, rfl⟩, ⟨_, rfl, by simp⟩, rfl⟩
  case rest =>
      obtain ⟨⟨i, rfl⟩, ⟨j, rfl, hj⟩, rfl⟩ := hcut
      have HJ := Lib.hid hj
      clear hj
      go_upto_region 4 with (fail)
      go_cut [25] (fun b wx => b = .bool false ∧ wx = wc)
      case first =>
        by_cases hm : m = 0
        · have hmb : (m == 0) = true := beq_iff_eq.2 hm
          have hs : s = true := hne.resolve_left fun h => h hm
          clear hne hm
          subst hs
          go_wp2_with fail
          go_meet
          exact ⟨rfl, rfl⟩
        · have hmb : (m == 0) = false := beq_eq_false_iff_ne.2 hm
          clear hne
          go_wp2_with fail
          go_meet
          exact ⟨rfl, rfl⟩
      case rest =>
      obtain ⟨rfl, rfl⟩ := hcut
      clear hne
      go_wp2_with fail
      refine (wLen m _ h0 h1).mono ?_
      rintro e w1 ⟨rfl, rfl⟩
      have hn0 := blen_nonneg m
      have hn1 := blen_le64 h1
      have hL0 := lastR_ge m x
      have hL1 : lastR m x ≤ 100011 := by unfold lastR; split; omega; split <;> omega
      have hL2 : m ≠ 0 → x - lastR m x ≤ 53 := by intro hm; unfold lastR; rw [if_neg hm]; split <;> omega
      have HL2 := Lib.hid hL2
      obtain ⟨M, hM⟩ : ∃ M, (if x + blen m - 53 < -1074 then -1074 else x + blen m - 53) = M := ⟨_, rfl⟩
      have HL : Hid (lastR m x = if m = 0 then -1074 else M) := Lib.hid (by rw [← hM]; rfl)
      clear hL2
      go_upto_if 34 with (fail)
      clear hM
      go_cut [14] (fun b wx => b = .int .i64 (lastR m x) ∧ wx = wc)
      case first =>
        by_cases hm : m = 0
        · have hmb : (m == 0) = true := beq_iff_eq.2 hm
          rw [if_pos hm] at HL
          clear hm
          go_wp2_with fail
          go_meet
          exact ⟨by rw [HL.out], rfl⟩
        · have hmb : (m == 0) = false := beq_eq_false_iff_ne.2 hm
          rw [if_neg hm] at HL
          go_wp2_with fail
          go_meet
          exact ⟨by rw [HL.out], rfl⟩
      case rest =>
      obtain ⟨rfl, rfl⟩ := hcut
      clear HL hn0 hn1
      go_upto_if 37 with (fail)
      have HS : Hid (stepR m x = if x < lastR m x then cutR m (lastR m x - x) else (m * 2 ^ (x - lastR m x).toNat, 0)) := Lib.hid rfl
      obtain ⟨r0, r1, r2⟩ := stepR_fst (x := x) h0 h1
      obtain ⟨r3, r4⟩ := stepR_tail m x
      have HF : Hid (finM m x s = if roundR (stepR m x).1 (tailR (stepR m x).2 s) = 9007199254740992 then (4503599627370496, lastR m x + 1) else (roundR (stepR m x).1 (tailR (stepR m x).2 s), lastR m x)) := Lib.hid rfl
      have HK := Lib.hid (And.intro r2 hf)
      clear r2 hf
      generalize stepR m x = S at *
      generalize lastR m x = L at *
      go_cut [1, 15] (fun a b wx => a = .int .u64 S.1 ∧ b = .int .i64 S.2 ∧ ∃ q, wx = wc.drewN q)
      case first =>
        by_cases hk : x < L
        · go_wp2_with (go_at_call 226; refine (vCut m (L - x) _ h0 h1 (by omega) (by omega)).mono ?_; rintro e w1 ⟨rfl, q1, rfl⟩)
          go_meet
          exact ⟨by rw [HS.out, if_pos hk], by rw [HS.out, if_pos hk], _, rfl⟩
        · obtain ⟨k, hk1⟩ : ∃ k : Nat, x - L = k := ⟨(x - L).toNat, by omega⟩
          rw [if_neg (by omega), hk1, Int.toNat_natCast] at HS
          have e1 : S.1 = m * 2 ^ k := by rw [HS.out]
          rw [e1] at r0 r1
          by_cases hm : m = 0
          · have hmb2 : (m != 0) = false := by rw [hm]; rfl
            have E := Lib.hid hm
            clear hm
            go_wp2_with fail
            go_meet
            exact ⟨by rw [e1, E.out, Int.zero_mul], by rw [HS.out], 0, rfl⟩
          · have hmb2 : (m != 0) = true := bne_iff_ne.2 hm
            have hk53 := HL2.out hm
            go_wp2_with fail
            go_meet
            exact ⟨by rw [e1], by rw [HS.out], 0, rfl⟩
      case rest =>
        obtain ⟨rfl, rfl, q, rfl⟩ := hcut
        generalize S.1 = c1 at *
        generalize S.2 = t0 at *
        clear HS HL2
        go_upto_region 14 with (fail)
        obtain ⟨r5, r6⟩ := tailR_range r3 r4 s
        obtain ⟨B, hB⟩ : ∃ B, B = (s && (decide (t0 = 0) || decide (t0 = 2))) := ⟨_, rfl⟩
        have HT : Hid (tailR t0 s = if B = true then t0 + 1 else t0) := Lib.hid (by rw [hB]; rfl)
        have HB := Lib.hid hB
        clear hB
        generalize tailR t0 s = T at *
        go_cut [61] (fun b wx => b = .bool B ∧ wx = wc.drewN q)
        case first =>
          cases s
          · go_wp2_with fail
            go_meet
            exact ⟨by rw [HB.out]; rfl, rfl⟩
          · by_cases e0 : t0 = 0
            · have b0 : (t0 == 0) = true := beq_iff_eq.2 e0
              have E := Lib.hid e0
              clear e0
              go_wp2_with fail
              go_meet
              exact ⟨by rw [HB.out, decide_eq_true E.out]; rfl, rfl⟩
            · have b0 : (t0 == 0) = false := beq_eq_false_iff_ne.2 e0
              by_cases e2 : t0 = 2
              · have b2 : (t0 == 2) = true := beq_iff_eq.2 e2
                have E := Lib.hid e2
                clear e2
                go_wp2_with fail
                go_meet
                exact ⟨by rw [HB.out, decide_eq_true E.out, decide_eq_false e0]; rfl, rfl⟩
              · have b2 : (t0 == 2) = false := beq_eq_false_iff_ne.2 e2
                go_wp2_with fail
                go_meet
                exact ⟨by rw [HB.out, decide_eq_false e0, decide_eq_false e2]; rfl, rfl⟩
        case rest =>
          obtain ⟨rfl, rfl⟩ := hcut
          clear HB
          go_upto_if 61 with (fail)
          go_cut [15] (fun b wx => b = .int .i64 T ∧ wx = wc.drewN q)
          case first =>
            cases B
            · go_wp2_with fail
              go_meet
              exact ⟨by rw [HT.out]; rfl, rfl⟩
            · go_wp2_with fail
              go_meet
              exact ⟨by rw [HT.out]; rfl, rfl⟩
          case rest =>
            obtain ⟨rfl, rfl⟩ := hcut
            clear HT
            go_wp2_with (fail)
            refine (vWay _).mono ?_
            rintro e w2 ⟨rfl, hb2⟩
            have hst := store_func (P := Tryz.prog) w2 250 274
            go_upto_region 17 with (fail)
            have hand : bits BinOp.and IntKind.u64 c1 1 = c1 % 2 := and_one c1 r0 (by omega)
            have HU : Hid (roundR c1 T = c1 + if (decide (T = 3) || decide (T = 2) && decide (c1 % 2 = 1)) = true then 1 else 0) := Lib.hid rfl
            have HW := Lib.hid (fun wz => vWay1 neg (decide (c1 % 2 = 1)) T wz ⟨r5, r6⟩)
            have hodd : (c1 % 2 == 1) = decide (c1 % 2 = 1) := rfl
            generalize decide (c1 % 2 = 1) = od at *
            have HB2 := Lib.hid hb2
            clear hb2 hst
            go_wp2_with (fail)
            refine (HW.out _).mono ?_
            rintro e w3 ⟨rfl, rfl⟩
            generalize (decide (T = 3) || decide (T = 2) && od) = up at *
            go_upto_if 73 with (fail)
            have hr := @roundR_range c1 T
            generalize roundR c1 T = m2 at *
            go_cut [1] (fun b wx => b = .int .u64 m2 ∧ wx = w2.alloc (.cells #[.func (.func 250) #[] #[]] 274))
            case first =>
              cases up
              · go_wp2_with fail
                go_meet
                exact ⟨by rw [HU.out]; simp, rfl⟩
              · go_wp2_with fail
                go_meet
                exact ⟨by rw [HU.out]; simp, rfl⟩
            case rest =>
              obtain ⟨rfl, rfl⟩ := hcut
              clear HU HW hodd hand
              have hok := @finM_ok m x s h0 h1
              have HK2 := Lib.hid HK.out.2
              clear HK
              generalize hFq : finM m x s = F at *
              have HFq := Lib.hid hFq
              clear hFq
              obtain ⟨f0, f1, f2, f3⟩ := hok
              have f4 : 971 < F.2 := HK2.out
              have HF3 := Lib.hid f3
              clear f3
              go_upto_if 77 with (fail)
              go_cut [1, 14] (fun a b wx => a = .int .u64 F.1 ∧ b = .int .i64 F.2 ∧ wx = w2.alloc (.cells #[.func (.func 250) #[] #[]] 274))
              case first =>
                by_cases h53 : m2 = 9007199254740992
                · have hbq : (m2 == 9007199254740992) = true := beq_iff_eq.2 h53
                  rw [if_pos h53] at HF
                  clear h53
                  go_wp2_with fail
                  go_meet
                  exact ⟨by rw [HF.out], by rw [HF.out], rfl⟩
                · have hbq : (m2 == 9007199254740992) = false := beq_eq_false_iff_ne.2 h53
                  rw [if_neg h53] at HF
                  clear h53
                  go_wp2_with fail
                  go_meet
                  exact ⟨by rw [HF.out], by rw [HF.out], rfl⟩
              case rest =>
                obtain ⟨rfl, rfl, rfl⟩ := hcut
                clear HF
                have hbig : Below wc.heap.size wc (w2.alloc (.cells #[.func (.func 250) #[] #[]] 274)) := ((by repeat (first | exact Below.refl _ _ | refine belowN ?_ _ | refine Below.drew ?_ | refine Below.alloc ?_ (by first | exact Nat.le_refl _ | (simp; done) | (simp; omega) | omega) _)) : Below _ _ _).trans (HB2.out.mono (by simp)) |>.alloc (by have := HB2.out.size; simp at this; omega) _
                obtain ⟨s0, s1, _⟩ := HSt.out.keep hbig
                have HBig := Lib.hid hbig
                clear hbig
                rcases HJ.out with rfl | rfl
                · go_wp2_with fail
                  go_ret2
                  exact ⟨rfl, HBig.out⟩
                · go_wp2_with fail
                  go_ret2
                  exact ⟨rfl, HBig.out⟩
theorem vFin (neg : Bool) (m x : Int) (s : Bool) (w : World) (h0 : 0 ≤ m) (h1 : m ≤ 18446744073709551615) (hx : -100000 ≤ x) (hx1 : x ≤ 100000) (hne : m ≠ 0 ∨ s = true) (hf : (finM m x s).2 ≤ 971 ∨ Stays w) :
    Calls Tryz.prog 190 #[.bool neg, .int .u64 m, .int .i64 x, .bool s, .int .i64 0] w fun e w' => e = .returned (.tuple #[.int .u64 (finR neg m x s).1, .int .i64 (finR neg m x s).2]) ∧ Below w.heap.size w w' := by
  by_cases h : (finM m x s).2 ≤ 971
  · unfold finR
    rw [if_neg (by omega)]
    exact vFinish neg m x s w h0 h1 hx hx1 hne h
  · unfold finR
    rw [if_pos (by omega)]
    exact vFinishBig neg m x s w h0 h1 hx hx1 hne (by omega) (hf.resolve_left h)
end Go.Proofs.YtfpofmifmapmfaaGreatDoor

namespace Go.Proofs.YtfpofmifmapmfaaGreatDoor
open Go.RowKit Go.Proofs.YtfpofmifmapmfaaGreatDoorW.PrintLast
set_option linter.unusedVariables false
set_option linter.unusedSimpArgs false
set_option maxRecDepth 100000 in
theorem vFinish0 (neg : Bool) (w : World) : Calls Tryz.prog 190 #[.bool neg, .int .u64 0, .int .i64 0, .bool false, .int .i64 0] w fun e w' => e = .returned (.tuple #[.int .u64 (if neg then 9223372036854775808 else 0), .int .i64 0]) ∧ Below w.heap.size w w' := by
  cases neg
  all_goals
    go_enter Tryz.func190, Tryz.ntmps190
    ((try dsimp only); repeat (first | go_values | go_skip | go_guarded | go_step | go_upon))
    go_ret2
    exact ⟨rfl, Below.refl _ _⟩
structure QuI (w : World) (neg : Bool) (E : Int) (R : Int × Int) (A B : Option Addr) (N D : List Int) (wx : World) : Prop where
  wn : Ws N
  wd : Ws D
  ln : N.length ≤ 100000
  ld : D.length ≤ 100000
  n0 : 0 < val N
  d0 : 0 < val D
  hn : WordsIn w.heap.size wx.heap.size wx A N
  hd : WordsIn w.heap.size wx.heap.size wx B D
  b : Below w.heap.size w wx
  r : R = finR neg (val N / val D) E (decide (val N % val D ≠ 0))
  q1 : val N / val D ≤ 9223372036854775807
  fit : (0 ≤ E → val N / val D * 2 ^ E.toNat ≤ maxQ) ∨ Stays w
def QuCut (w : World) (neg : Bool) (E : Int) (R : Int × Int) (a b : Value) (wx : World) : Prop := ∃ A c N B d D, a = .slice A N.length c ∧ b = .slice B D.length d ∧ QuI w neg E R A B N D wx
set_option maxRecDepth 100000 in
set_option maxHeartbeats 1600000 in
theorem vQuotientS (neg : Bool) (A B : Option Addr) (c d lo up : Nat) (xs ys : List Int) (w : World) (hx : Ws xs) (hA : WordsIn lo up w A xs) (hy : Ws ys) (hB : WordsIn lo up w B ys) (hu : up ≤ w.heap.size)
    (hy0 : 0 < val ys) (hxl : xs.length ≤ 1500) (hyl : ys.length ≤ 1500) (hf : val xs ≤ maxQ * val ys ∨ Stays w) :
    Calls Tryz.prog 129 #[.bool neg, .slice A xs.length c, .slice B ys.length d, .int .i64 0] w fun e w' => e = .returned (.tuple #[.int .u64 (quotR neg (val xs) (val ys)).1, .int .i64 (quotR neg (val xs) (val ys)).2]) ∧ Below w.heap.size w w' := by
  have hx0 := val_nonneg hx
  have ex := val_limbs hx0
  have ey := val_limbs (Int.le_of_lt hy0)
  have lx := limbs_len_le hx
  have ly := limbs_len_le hy
  have wx := limbs_ws (val xs)
  have wy := limbs_ws (val ys)
  have hly : ¬ (limbs (val ys)).length = 0 := fun h => by have := (limbs_len_zero (Int.le_of_lt hy0)).1 h; omega
  have hlx := limbs_len_zero hx0
  have H1 := Lib.hid (fun wz (hz : Below w.heap.size w wz) => nNorm A c lo up xs wz hx (hA.keep (Keep.of hz hu)) (by have := hz.size; omega) (by omega))
  have H2 := Lib.hid (fun wz (hz : Below w.heap.size w wz) => nNorm B d lo up ys wz hy (hB.keep (Keep.of hz hu)) (by have := hz.size; omega) (by omega))
  have HQ : Hid (quotR neg (val xs) (val ys) = if val xs = 0 then (if neg then 9223372036854775808 else 0, 0)
    else if 1100 < blen (val xs) - blen (val ys) then finR neg 1 (blen (val xs) - blen (val ys)) true
    else if blen (val xs) - blen (val ys) < -1200 then finR neg 0 0 true
    else if 0 < blen (val xs) - blen (val ys) - 62 then finR neg (val xs / (val ys * 2 ^ (blen (val xs) - blen (val ys) - 62).toNat)) (blen (val xs) - blen (val ys) - 62) (decide (val xs % (val ys * 2 ^ (blen (val xs) - blen (val ys) - 62).toNat) ≠ 0))
    else finR neg (val xs * 2 ^ (-(blen (val xs) - blen (val ys) - 62)).toNat / val ys) (blen (val xs) - blen (val ys) - 62) (decide (val xs * 2 ^ (-(blen (val xs) - blen (val ys) - 62)).toNat % val ys ≠ 0))) := Lib.hid rfl
  generalize val xs = x at *
  generalize val ys = y at *
  generalize hlxx : limbs x = Lx at *
  generalize hlyy : limbs y = Ly at *
  have HX := Lib.hid (And.intro ex ey)
  have HL := Lib.hid hlx
  clear ex ey hlx
  generalize quotR neg x y = R at *
  go_enter Tryz.func129, Tryz.ntmps129
  go_wp2_with (fail)
  refine (H1.out _ (by repeat (first | exact Below.refl _ _ | refine belowN ?_ _ | refine Below.drew ?_ | refine Below.alloc ?_ (by first | exact Nat.le_refl _ | (simp; done) | (simp; omega) | omega) _))).mono ?_
  rintro e w1 ⟨rfl, hw1⟩
  subst hw1
  go_wp2_with (fail)
  refine (H2.out _ (by repeat (first | exact Below.refl _ _ | refine belowN ?_ _ | refine Below.drew ?_ | refine Below.alloc ?_ (by first | exact Nat.le_refl _ | (simp; done) | (simp; omega) | omega) _))).mono ?_
  rintro e w2 ⟨rfl, hw2⟩
  subst hw2
  have hly2 : (((Ly.length : Nat) : Int) == 0) = false := beq_eq_false_iff_ne.2 (by omega)
  go_wp2_with (fail)
  refine (vKnown _).mono ?_
  rintro e w3 ⟨rfl, rfl⟩
  have hbb : Below w.heap.size w ((w.alloc (.cells (wv Lx).toArray 36)).alloc (.cells (wv Ly).toArray 36)) := (by repeat (first | exact Below.refl _ _ | refine belowN ?_ _ | refine Below.drew ?_ | refine Below.alloc ?_ (by first | exact Nat.le_refl _ | (simp; done) | (simp; omega) | omega) _))
  have hz2 : ((w.alloc (.cells (wv Lx).toArray 36)).alloc (.cells (wv Ly).toArray 36)).heap.size = w.heap.size + 1 + 1 := by simp
  have hN1 : WordsIn w.heap.size (w.heap.size + 1 + 1) ((w.alloc (.cells (wv Lx).toArray 36)).alloc (.cells (wv Ly).toArray 36)) (some ⟨w.heap.size, 0, none⟩) Lx :=
    (FreshAt.row (Nat.le_refl _) (alloc_old (alloc_new w (.cells (wv Lx).toArray 36))) |>.words).wide (Nat.le_refl _) (by rw [hz2]; exact Nat.le_refl _)
  have hN2 : WordsIn w.heap.size (w.heap.size + 1 + 1) ((w.alloc (.cells (wv Lx).toArray 36)).alloc (.cells (wv Ly).toArray 36)) (some ⟨w.heap.size + 1, 0, none⟩) Ly :=
    (FreshAt.row (Nat.le_succ _) (by have := alloc_new (w.alloc (.cells (wv Lx).toArray 36)) (.cells (wv Ly).toArray 36); rw [World.size_alloc] at this; exact this) |>.words).wide (Nat.le_refl _) (by rw [hz2]; exact Nat.le_refl _)
  have HB := Lib.hid (And.intro hbb (And.intro hN1 (And.intro hN2 hz2)))
  clear hN1 hN2 hbb hz2 H1 H2 hA hB
  generalize (w.alloc (.cells (wv Lx).toArray 36)).alloc (.cells (wv Ly).toArray 36) = w2 at *
  by_cases hx1 : x = 0
  · have hl0 := HL.out.2 hx1
    have hlx2 : (((Lx.length : Nat) : Int) == 0) = true := beq_iff_eq.2 (by omega)
    rw [if_pos hx1] at HQ
    clear hx1 hl0 hlxx hlyy
    go_wp2_with (fail)
    refine (vFinish0 neg _).mono ?_
    rintro e w4 ⟨rfl, hb4⟩
    ((try dsimp only); repeat (first | go_values | go_skip | go_guarded | go_step | go_upon))
    go_ret2
    exact ⟨R2 (by rw [HQ.out]) (by rw [HQ.out]), HB.out.1.trans (hb4.mono HB.out.1.size)⟩
  · have hx2 : 0 < x := by omega
    have hl0 : ¬ Lx.length = 0 := fun h => hx1 (HL.out.1 h)
    have hlx2 : (((Lx.length : Nat) : Int) == 0) = false := beq_eq_false_iff_ne.2 (by omega)
    rw [if_neg hx1] at HQ
    clear hx1 hl0 hlxx hlyy
    have HB1 := Lib.hid (nBits _ Lx.length _ _ Lx w2 wx HB.out.2.1 (by omega))
    have HB2 := Lib.hid (nBits _ Ly.length _ _ Ly w2 wy HB.out.2.2.1 (by omega))
    have hs : ¬ 1100 < blen x - blen y ∨ Stays w := hf.imp (fun h => by have := quot_size hx2 hy0 h; omega) id
    have HS0 := Lib.hid hs
    clear hs
    have hqq := quotR_q hx2 hy0
    have HQQ := Lib.hid hqq
    clear hqq
    rw [HX.out.1] at HB1
    rw [HX.out.2] at HB2
    have hbx := blen_nonneg x
    have hby := blen_nonneg y
    have hbx1 : blen x ≤ 96000 := by have := blen_le_of_lt (n := 64 * Lx.length) (x := x) (by rw [← Wpow_eq, ← HX.out.1]; exact val_lt wx); omega
    have hby1 : blen y ≤ 96000 := by have := blen_le_of_lt (n := 64 * Ly.length) (x := y) (by rw [← Wpow_eq, ← HX.out.2]; exact val_lt wy); omega
    go_wp2_with (fail)
    refine HB1.out.mono ?_
    rintro e w4 ⟨rfl, rfl⟩
    go_wp2_with (fail)
    refine HB2.out.mono ?_
    rintro e w4 ⟨rfl, rfl⟩
    clear HB1 HB2
    generalize blen x = bx at *
    generalize blen y = bY at *
    by_cases hs2 : 1100 < bx - bY
    · rw [if_pos hs2] at HQ
      have HF := Lib.hid (fun wz (hz : Below w.heap.size w wz) => vFin neg 1 (bx - bY) true wz (by omega) (by omega) (by omega) (by omega) (Or.inr rfl) (Or.inr ((HS0.out.resolve_left (fun h => absurd hs2 (by omega))).keep hz)))
      go_wp2_with (fail)
      refine (HF.out _ HB.out.1).mono ?_
      rintro e w4 ⟨rfl, hb4⟩
      ((try dsimp only); repeat (first | go_values | go_skip | go_guarded | go_step | go_upon))
      go_ret2
      refine ⟨R2 (by rw [HQ.out]) (by rw [HQ.out]), HB.out.1.trans (hb4.mono HB.out.1.size)⟩
    rw [if_neg hs2] at HQ
    by_cases hs3 : bx - bY < -1200
    · rw [if_pos hs3] at HQ
      have h0 : (finM 0 0 true).2 ≤ 971 := by decide +kernel
      have HF := Lib.hid (fun wz => vFinish neg 0 0 true wz (by omega) (by omega) (by omega) (by omega) (Or.inr rfl) h0)
      go_wp2_with (fail)
      refine (HF.out _).mono ?_
      rintro e w4 ⟨rfl, hb4⟩
      ((try dsimp only); repeat (first | go_values | go_skip | go_guarded | go_step | go_upon))
      go_ret2
      refine ⟨R2 (by rw [HQ.out]; unfold finR; rw [if_neg (by omega)]) (by rw [HQ.out]; unfold finR; rw [if_neg (by omega)]), HB.out.1.trans (hb4.mono HB.out.1.size)⟩
    · rw [if_neg hs3] at HQ
      go_upto_if 63 with (fail)
      obtain ⟨E, hE⟩ : ∃ E, E = bx - bY - 62 := ⟨_, rfl⟩
      go_cut [1, 2] (fun a b wx => QuCut w neg (bx - bY - 62) R a b wx)
      case first =>
        rw [← hE] at HQ HQQ
        by_cases he : 0 < E
        · have he2 : 62 < bx - bY := by omega
          obtain ⟨k, hk⟩ : ∃ k : Nat, bx - bY - 62 = k := ⟨(bx - bY - 62).toNat, by omega⟩
          have hkE : E = k := by omega
          rw [if_pos he, hkE, Int.toNat_natCast] at HQ
          have HS := Lib.hid (vShl (some ⟨w.heap.size + 1, 0, none⟩) Ly.length _ _ Ly k w2 wy HB.out.2.2.1 (Nat.le_of_eq HB.out.2.2.2.symm) (by omega) (by omega))
          have HK := Lib.hid (And.intro hk hkE)
          have hk5 : bx - bY - 62 = k := hk
          have q1 := (HQQ.out.1 he).2
          rw [hkE, Int.toNat_natCast] at q1
          have ft := hf.imp_left (fun h => quot_fit_up hy0 h k)
          have HQ1 := Lib.hid (And.intro q1 ft)
          clear hkE hk HQQ hE he q1 ft
          go_wp2_with (fail)
          refine HS.out.mono ?_
          rintro e w4 ⟨B1, zs, cap, rfl, g1, g2, g3, g4, g5⟩
          rw [HX.out.2] at g3
          have HG := Lib.hid (And.intro g2 g3)
          clear g2 g3 hk5
          go_wp2_with (fail)
          go_meet
          have hw24 : w2.heap.size ≤ w4.heap.size := g5.size
          have hww := HB.out.1.size
          refine ⟨_, _, Lx, _, _, zs, rfl, rfl, wx, g1, by omega, by have := HG.out.1; have := HK.out.1; omega, by rw [HX.out.1]; exact hx2, by rw [HG.out.2]; exact Int.mul_pos hy0 (ipow_pos _), ?_, ?_, HB.out.1.trans (g5.mono hww), ?_, ?_, ?_⟩
          · exact ((HB.out.2.1).keep (Keep.of g5 (Nat.le_of_eq HB.out.2.2.2.symm))).wide (Nat.le_refl _) (by have := HB.out.2.2.2; omega)
          · exact g4.words.wide hww (Nat.le_refl _)
          · rw [HQ.out, HX.out.1, HG.out.2, HK.out.1]
          · rw [HX.out.1, HG.out.2]; exact HQ1.out.1
          · refine HQ1.out.2.imp_left (fun q _ => ?_); rw [HX.out.1, HG.out.2, HK.out.1, Int.toNat_natCast]; exact q
        · have he2 : ¬ 62 < bx - bY := by omega
          obtain ⟨k, hk⟩ : ∃ k : Nat, -(bx - bY - 62) = k := ⟨(-(bx - bY - 62)).toNat, by omega⟩
          have hkE : -E = k := by omega
          rw [if_neg he, hkE, Int.toNat_natCast] at HQ
          have HS := Lib.hid (vShl (some ⟨w.heap.size, 0, none⟩) Lx.length _ _ Lx k w2 wx HB.out.2.1 (Nat.le_of_eq HB.out.2.2.2.symm) (by omega) (by omega))
          have HK := Lib.hid (And.intro hk hE)
          have hk5 : -(bx - bY - 62) = k := hk
          have q1 := (HQQ.out.2 (by omega)).2
          rw [hkE, Int.toNat_natCast] at q1
          have HQ1 := Lib.hid q1
          have HF := Lib.hid (hf.imp_left (fun h => quot_fit hy0 h))
          clear hkE hk HQQ hE he q1
          go_wp2_with (fail)
          refine HS.out.mono ?_
          rintro e w4 ⟨B1, zs, cap, rfl, g1, g2, g3, g4, g5⟩
          rw [HX.out.1] at g3
          have HG := Lib.hid (And.intro g2 g3)
          clear g2 g3 hk5
          go_wp2_with (fail)
          go_meet
          have hw24 : w2.heap.size ≤ w4.heap.size := g5.size
          have hww := HB.out.1.size
          refine ⟨_, _, zs, _, _, Ly, rfl, rfl, g1, wy, by have := HG.out.1; have := HK.out.1; omega, by omega, by rw [HG.out.2]; exact Int.mul_pos hx2 (ipow_pos _), by rw [HX.out.2]; exact hy0, ?_, ?_, HB.out.1.trans (g5.mono hww), ?_, ?_, ?_⟩
          · exact g4.words.wide hww (Nat.le_refl _)
          · exact ((HB.out.2.2.1).keep (Keep.of g5 (Nat.le_of_eq HB.out.2.2.2.symm))).wide (Nat.le_refl _) (by have := HB.out.2.2.2; omega)
          · rw [HQ.out, HX.out.2, HG.out.2, HK.out.2]
          · rw [HX.out.2, HG.out.2]; exact HQ1.out
          · refine HF.out.imp_left (fun q h => ?_); rw [HX.out.2, HG.out.2]
            have hk0 : k = 0 := by have := HK.out.1; omega
            have hE0 : bx - bY - 62 = 0 := by have := HK.out.1; omega
            rw [hk0, hE0]
            simp only [Int.pow_zero, Int.mul_one, Int.toNat_zero]; exact q
      case rest =>
        obtain ⟨A2, c2, N, B2, d2, D, rfl, rfl, hI⟩ := hcut
        clear HQ HQQ HB HX
        generalize hEE : bx - bY - 62 = E at *
        have hE1 : -2000 ≤ E := by omega
        have hE2 : E ≤ 2000 := by omega
        have hxn : N.length ≤ 100000 := hI.ln
        have hxd : D.length ≤ 100000 := hI.ld
        have HD := Lib.hid (qDivMod A2 B2 c2 d2 w.heap.size wc.heap.size N D wc hI.wn hI.hn hI.wd hI.hd (Nat.le_refl _) hI.d0 (by omega) (by omega))
        have hq0 : 0 ≤ val N / val D := Int.ediv_nonneg (Int.le_of_lt hI.n0) (Int.le_of_lt hI.d0)
        have hr0 : 0 ≤ val N % val D := Int.emod_nonneg _ (by have := hI.d0; omega)
        have hq1 := hI.q1
        have hne : val N / val D ≠ 0 ∨ decide (0 < (limbs (val N % val D)).length) = true := by
          by_cases hz : val N / val D = 0
          · refine Or.inr (decide_eq_true ?_)
            have e := Int.emod_add_mul_ediv (val N) (val D)
            rw [hz] at e
            have n0 := hI.n0
            have := limbs_len_zero hr0
            omega
          · exact Or.inl hz
        have hsd : decide (val N % val D ≠ 0) = decide (0 < (limbs (val N % val D)).length) := by
          refine decide_eq_decide.2 ?_
          have := limbs_len_zero hr0
          omega
        have hR := hI.r
        rw [hsd] at hR
        have hfm := hI.fit.imp_left (fun q => finM_le (decide (0 < (limbs (val N % val D)).length)) hq0 (by omega) q)
        have HF := Lib.hid (fun wz (hz : Below w.heap.size w wz) => vFin neg (val N / val D) E (decide (0 < (limbs (val N % val D)).length)) wz hq0 (by omega) (by omega) (by omega) hne (hfm.imp_right (fun q => q.keep hz)))
        have HR : Hid (R = finR neg (val N / val D) E (decide (0 < (limbs (val N % val D)).length))) := Lib.hid (by rw [hR])
        have HW := Lib.hid (fun (A : Option Addr) wz (h : WordsIn wc.heap.size wz.heap.size wz A (limbs (val N / val D))) => nWord A (limbs (val N / val D)).length wc.heap.size wz.heap.size (limbs (val N / val D)) wz (limbs_ws _) h (by have := limbs_len_le_of (n := val N / val D) (k := 1) (by rw [Int.pow_one, W_eq]; omega); omega) (by rw [val_limbs hq0]; omega))
        have HWv := Lib.hid (val_limbs hq0)
        have HBc := Lib.hid hI.b
        clear hsd hR hne hfm hEE hI hs2 hs3 HS0
        generalize val N / val D = q at *
        generalize val N % val D = r at *
        generalize hlq : limbs q = lq at *
        generalize hlr : limbs r = lr at *
        clear hlq hlr
        rw [HWv.out] at HW
        clear HWv
        go_wp2_with (fail)
        refine HD.out.mono ?_
        rintro e w4 ⟨A3, A4, rfl, g1, g2, g3⟩
        have g4 := g1.words
        have G3 := Lib.hid g3
        clear g1 g2 g3
        go_wp2_with (fail)
        refine (HW.out _ _ g4).mono ?_
        rintro e w5 ⟨rfl, rfl⟩
        go_wp2_with (fail)
        refine (HF.out _ (HBc.out.trans (G3.out.mono HBc.out.size))).mono ?_
        rintro e w5 ⟨rfl, hb5⟩
        ((try dsimp only); repeat (first | go_values | go_skip | go_guarded | go_step | go_upon))
        go_ret2
        have e1 := HBc.out.size
        have e2 := G3.out.size
        exact ⟨R2 (by rw [HR.out]) (by rw [HR.out]), (HBc.out.trans (G3.out.mono e1)).trans (hb5.mono (by omega))⟩
set_option maxRecDepth 100000 in
set_option maxHeartbeats 1600000 in
theorem vRatS (q : Rat) (A B : Option Addr) (lo up : Nat) (w : World) (h : RatIn lo up w A B q) (hu : up ≤ w.heap.size) (hs : Sz 30000 q) (hf : FitQ q ∨ Stays w) :
    Calls Tryz.prog 66 #[qv A B q, .int .i64 0] w fun e w' => e = .returned (.tuple #[.int .u64 (nearR q).1, .int .i64 (nearR q).2]) ∧ Below w.heap.size w w' := by
  obtain ⟨hl1, hl2⟩ := hs.lens (by omega)
  have hm1 : (qn q).length ≤ 1500 := limbs_len_le_of (k := 1500) (by rw [Wpow_eq]; have := ipow_le (show 30000 ≤ 64 * 1500 by omega); have := hs.1; omega)
  have hm2 : (qd q).length ≤ 1500 := limbs_len_le_of (k := 1500) (by rw [Wpow_eq]; have := ipow_le (show 30000 ≤ 64 * 1500 by omega); have := hs.2; omega)
  have hdp := q.den_pos
  have v1 : val (qn q) = ((q.num.natAbs : Nat) : Int) := val_limbs (by omega)
  have v2 : val (qd q) = ((q.den : Nat) : Int) := val_limbs (by omega)
  obtain ⟨o, ho⟩ : ∃ o, o = Obj.cells #[.bool (decide (q.num < 0)), .slice A (qn q).length (qn q).length, .slice B (qd q).length (qd q).length] 26 := ⟨_, rfl⟩
  have k1 : RatIn lo up (w.alloc o) A B q := h.keep ((Keep.refl _ _ _).alloc hu _)
  have HC := Lib.hid (rCheck A B lo up q (w.alloc o) k1 (by rw [World.size_alloc]; omega) hl1 hl2)
  have HQ := Lib.hid (fun wz (hb : Below (w.alloc o).heap.size (w.alloc o) wz) => vQuotientS (decide (q.num < 0)) A B (qn q).length (qd q).length lo up (qn q) (qd q) wz (limbs_ws _) (k1.keep (Keep.of hb (by rw [World.size_alloc]; omega))).n (limbs_ws _) (k1.keep (Keep.of hb (by rw [World.size_alloc]; omega))).d (by have := hb.size; rw [World.size_alloc] at this; omega) (by rw [v2]; omega) hm1 hm2 (by rw [v1, v2]; exact hf.imp_right (fun q => (q.keep ((Below.refl _ _).alloc (Nat.le_refl _) o)).keep hb)))
  rw [v1, v2] at HQ
  have HR : Hid (quotR (decide (q.num < 0)) ((q.num.natAbs : Nat) : Int) ((q.den : Nat) : Int) = nearR q) := Lib.hid rfl
  have hn := alloc_new w o
  have HO := Lib.hid ho
  rw [ho] at hn
  unfold qv at *
  generalize decide (q.num < 0) = sg at *
  generalize (qn q).length = ln at *
  generalize (qd q).length = ld at *
  clear v1 v2 hdp ho k1 hl1 hl2 hm1 hm2
  rw [HO.out] at HC HQ
  go_enter Tryz.func66, Tryz.ntmps66
  ((try dsimp only); repeat (first | go_values | go_skip | go_guarded | go_step | go_upon))
  refine (vKnown _).mono ?_
  rintro e w1 ⟨rfl, rfl⟩
  ((try dsimp only); repeat (first | go_values | go_skip | go_guarded | go_step | go_upon))
  refine HC.out.mono ?_
  rintro e w1 ⟨rfl, hb1⟩
  have hr := (hb1.block _ (by simp)).trans hn
  obtain ⟨d0, d1, d2, d3, d4, d5⟩ := row3 hr
  have HB := Lib.hid hb1
  clear hb1 hr hn
  ((try dsimp only); repeat (first | go_values | go_skip | go_guarded | go_step | go_upon))
  refine (HQ.out _ HB.out).mono ?_
  rintro e w2 ⟨rfl, hb2⟩
  ((try dsimp only); repeat (first | go_values | go_skip | go_guarded | go_step | go_upon))
  go_ret2
  have e1 := HB.out.size
  rw [World.size_alloc] at e1
  exact ⟨R2 (by rw [HR.out]) (by rw [HR.out]), (((Below.refl _ _).alloc (Nat.le_refl _) _).trans (HB.out.mono (by simp))).trans (hb2.mono (by omega))⟩
theorem vRat (q : Rat) (A B : Option Addr) (lo up : Nat) (w : World) (h : RatIn lo up w A B q) (hu : up ≤ w.heap.size) (hs : Sz 30000 q) (hf : FitQ q) :
    Calls Tryz.prog 66 #[qv A B q, .int .i64 0] w fun e w' => e = .returned (.tuple #[.int .u64 (nearR q).1, .int .i64 0]) ∧ Below w.heap.size w w' := by
  have := vRatS q A B lo up w h hu hs (Or.inl hf)
  rwa [(nearR_ok hf).1] at this
end Go.Proofs.YtfpofmifmapmfaaGreatDoor
