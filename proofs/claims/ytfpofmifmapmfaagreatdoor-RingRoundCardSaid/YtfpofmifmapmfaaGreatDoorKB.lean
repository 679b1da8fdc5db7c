/- Package quot: Gcd, Lowest. -/
import Derived.Test.YtfpofmifmapmfaaGreatDoorKA
import Derived.ScopeJumps
import Derived.Handy
import Derived.Test.YtfpofmifmapmfaaGreatDoorWLast
import Derived.Deep.LoopGhost
namespace Go.Proofs.YtfpofmifmapmfaaGreatDoor
open Go.RowKit Go.Proofs.YtfpofmifmapmfaaGreatDoorW.PrintLast
set_option linter.unusedVariables false
set_option linter.unusedSimpArgs false
structure QShl (xs : List Int) (n L k : Nat) (c : Int) (zs : List Int) : Prop where
  ws : Ws zs
  len : zs.length = L
  z : ∀ m, k ≤ m → zs.getD m 0 = 0
  p0 : 0 ≤ c
  p1 : c < 2 ^ n
  e : val zs + W ^ k * c = val (xs.take k) * 2 ^ n
theorem QShl.start (xs : List Int) (n L : Nat) : QShl xs n L 0 0 (zw L) := ⟨zw_ws L, zw_length L, fun m _ => zw_getD L m, by omega, ipow_pos n, by simp [zw_val, val_nil]⟩
theorem qshl_word {x c : Int} {n : Nat} (hn : n < 64) (h0 : 0 ≤ x) (h1 : x ≤ 18446744073709551615) (c0 : 0 ≤ c) (c1 : c < 2 ^ n) :
    bits .or .u64 (x * 2 ^ n % 18446744073709551616) c = x * 2 ^ n % 18446744073709551616 + c ∧ 0 ≤ x * 2 ^ n % 18446744073709551616 + c ∧ x * 2 ^ n % 18446744073709551616 + c ≤ 18446744073709551615 ∧ 0 ≤ x * 2 ^ n / 18446744073709551616 ∧ x * 2 ^ n / 18446744073709551616 < 2 ^ n := by
  have a := shl_word (k := n) (x := x) (y := 0) (by omega) h0 (by omega) (by omega)
  have b := @mod_dvd_pow x n (by omega)
  have p := ipow_pos n
  have s := pow_split (show n ≤ 64 by omega)
  obtain ⟨m, hm⟩ := Int.dvd_of_emod_eq_zero b
  have d : x * 2 ^ n % 18446744073709551616 < 18446744073709551616 := Int.emod_lt_of_pos _ (by decide)
  have d0 : 0 ≤ x * 2 ^ n % 18446744073709551616 := Int.emod_nonneg _ (by decide)
  have e : m < 2 ^ (64 - n) := by
    rw [hm, ← s] at d
    exact Int.lt_of_mul_lt_mul_left d (Int.le_of_lt p)
  have f : (2:Int) ^ n * (m + 1) ≤ (2:Int) ^ n * 2 ^ (64 - n) := Int.mul_le_mul_of_nonneg_left (by omega) (Int.le_of_lt p)
  rw [s] at f
  have g : (2:Int) ^ n * (m + 1) = (2:Int) ^ n * m + 2 ^ n := by grind
  refine ⟨or_join n _ _ d0 (by omega) b c0 c1 (by omega), by omega, by omega, Int.ediv_nonneg (Int.mul_nonneg h0 (Int.le_of_lt p)) (by decide), div_split_lt (by omega) h1⟩
theorem QShl.next {xs : List Int} {n L k : Nat} {c : Int} {zs : List Int} (h : QShl xs n L k c zs) (hn : n < 64) (hk : k < L) (h0 : 0 ≤ xs.getD k 0) (h1 : xs.getD k 0 ≤ 18446744073709551615) :
    QShl xs n L (k + 1) (xs.getD k 0 * 2 ^ n / 18446744073709551616) (zs.set k (xs.getD k 0 * 2 ^ n % 18446744073709551616 + c)) := by
  obtain ⟨a, b, d, e, f⟩ := qshl_word hn h0 h1 h.p0 h.p1
  refine ⟨h.ws.set k b d, by rw [List.length_set]; exact h.len, fun m hm => by rw [getD_set_ne (by omega)]; exact h.z m (by omega), e, f, ?_⟩
  rw [val_set _ _ _ (by rw [h.len]; exact hk), h.z k (Nat.le_refl _), val_take_succ', Int.pow_succ]
  have g := h.e
  have hW := W_eq
  have i : xs.getD k 0 * 2 ^ n = xs.getD k 0 * 2 ^ n % 18446744073709551616 + W * (xs.getD k 0 * 2 ^ n / 18446744073709551616) := by rw [hW]; omega
  generalize xs.getD k 0 * 2 ^ n % 18446744073709551616 = s at *
  generalize xs.getD k 0 * 2 ^ n / 18446744073709551616 = t at *
  generalize (2:Int) ^ n = P at *
  grind
theorem QShl.done {xs : List Int} {n L : Nat} {c : Int} {zs : List Int} (h : QShl xs n L xs.length c zs) (hL : L = xs.length) (hv : val xs * 2 ^ n < W ^ L) : val zs = val xs * 2 ^ n := by
  have e := h.e
  rw [List.take_length] at e
  have a := val_nonneg h.ws
  have b := h.p0
  by_cases hc : c = 0
  · rw [hc] at e; omega
  · have := Int.mul_le_mul_of_nonneg_left (show 1 ≤ c by omega) (Int.le_of_lt (Wpow_pos xs.length))
    rw [hL] at hv; omega
theorem QShl.more {xs : List Int} {n L : Nat} {c : Int} {zs : List Int} (h : QShl xs n L xs.length c zs) (hn : n < 64) (hL : xs.length < L) : Ws (zs.set xs.length c) ∧ (zs.set xs.length c).length = L ∧ val (zs.set xs.length c) = val xs * 2 ^ n := by
  have p : (2:Int) ^ n ≤ 2 ^ 64 := ipow_le (by omega)
  have c1 := h.p1
  refine ⟨h.ws.set _ h.p0 (by omega), by rw [List.length_set]; exact h.len, ?_⟩
  rw [val_set _ _ _ (by rw [h.len]; exact hL), h.z _ (Nat.le_refl _)]
  have e := h.e
  rw [List.take_length] at e
  rw [Int.sub_zero]; exact e
set_option maxRecDepth 100000 in
set_option maxHeartbeats 1600000 in
theorem qShl (A : Option Addr) (c lo up : Nat) (xs : List Int) (n L : Nat) (w : World) (hx : Ws xs) (hA : WordsIn lo up w A xs) (hu : up ≤ w.heap.size) (hl : xs.length ≤ 17592186044416) (hn : n < 64) (hL : L = xs.length ∨ L = xs.length + 1) (hv : val xs * 2 ^ n < W ^ L) :
    Calls Tryz.prog 256 #[.slice A xs.length c, .int .i64 n, .int .i64 L] w fun e w' => ∃ zs q, e = .returned (.slice (some ⟨w.heap.size, 0, none⟩) L L) ∧ w' = (w.alloc (.cells (wv zs).toArray 36 (0, 0))).drewN q ∧ zs.length = L ∧ Ws zs ∧ val zs = val xs * 2 ^ n := by
  have hmk := run_make_at L L rfl (by omega)
  have e3 : ((n : Int)).toNat = n := by omega
  go_enter Tryz.func256, Tryz.ntmps256
  go_wp2
  go_loopw [8, 17] (fun c i wr => ∃ (k q : Nat) (c0 : Int) (zs : List Int), i = .int .i64 k ∧ c = .int .u64 c0 ∧ wr = (w.alloc (.cells (wv zs).toArray 36)).drewN q ∧ k ≤ xs.length ∧ QShl xs n L k c0 zs) (fun _ i _ => xs.length - (intOf i).toNat)
  case atStart => exact ⟨0, 0, 0, _, rfl, rfl, rfl, Nat.zero_le _, QShl.start xs n L⟩
  case round =>
    obtain ⟨k, q, c0, zs, rfl, rfl, hw, hk, hI⟩ := hrel
    have hc0 := hI.p0
    have hc1 := hI.p1
    have HL := Lib.hid hI.len
    by_cases hlt : k < xs.length
    · have hkL : k < L := by omega
      obtain ⟨b, o, rfl, hb1, hb2, hcy⟩ := (hA.keep (show Keep lo up w wr by rw [hw]; exact (Keep.refl _ _ _).alloc hu _)).at (i := k) hlt
      have hcz : wr.cell? ⟨w.heap.size, k, none⟩ = some (.int .u64 (zs.getD k 0)) := by rw [hw]; exact own_cell w zs k (by rw [HL.out]; exact hkL)
      have hfz : wr.frozen? ⟨w.heap.size, k, none⟩ = false := by rw [hw]; exact own_free w zs k
      have HW := Lib.hid hw
      clear hw
      have hyk := hx.getD k
      have HN := Lib.hid (hI.next hn hkL hyk.1 hyk.2)
      have hor := (qshl_word (n := n) (x := xs.getD k 0) hn hyk.1 hyk.2 hc0 hc1).1
      generalize xs.getD k 0 = y at *
      clear hc1
      go_wp2_with (go_at_call 224; refine (wShl0 y n _ hyk.1 hyk.2 (by omega) (by omega)).mono ?_; rintro e w' ⟨rfl, q2, rfl⟩; rw [e3])
      exact ⟨⟨k + 1, q + q2, _, _, vint (by omega), rfl, by rw [HW.out, setCell_drewN, own_set, World.drewN_drewN], by omega, HN.out⟩, by simp [intOf]; omega⟩
    · obtain rfl : k = xs.length := by omega
      have HW := Lib.hid hw
      by_cases hLL : xs.length < L
      · obtain ⟨m1, m2, m3⟩ := hI.more hn hLL
        have M3 := Lib.hid m3
        have hfz : wr.frozen? ⟨w.heap.size, xs.length, none⟩ = false := by rw [hw]; exact own_free w zs _
        have hcz : wr.cell? ⟨w.heap.size, xs.length, none⟩ = some (.int .u64 (zs.getD xs.length 0)) := by rw [hw]; exact own_cell w zs _ (by rw [HL.out]; exact hLL)
        have M2 := Lib.hid m2
        clear hw m3 m2 hc1
        go_wp2
        go_ret
        exact ⟨_, _, rfl, by rw [HW.out, setCell_drewN, own_set], M2.out, m1, M3.out⟩
      · have hLe : L = xs.length := by omega
        have HD := Lib.hid (hI.done hLe hv)
        have hz := hI.ws
        clear hw hLe hc1
        go_wp2
        go_ret
        exact ⟨_, _, rfl, HW.out, HL.out, hz, HD.out⟩
structure QShr (xs : List Int) (n i : Nat) (a : Int) (zs : List Int) : Prop where
  ws : Ws zs
  len : zs.length = xs.length
  ab : a = xs.getD i 0
  e : val (zs.drop i) = val (xs.drop i) / 2 ^ n
theorem shr_word {x a : Int} {n : Nat} (hn : n ≤ 64) (h0 : 0 ≤ x) (h1 : x ≤ 18446744073709551615) :
    0 ≤ x / 2 ^ n + a * 2 ^ (64 - n) % 18446744073709551616 ∧ x / 2 ^ n + a * 2 ^ (64 - n) % 18446744073709551616 ≤ 18446744073709551615 := by
  have h := shl_word (k := 64 - n) (x := a) (y := x)
  have p := ipow_pos n
  have b := @mod_dvd_pow a (64 - n) (by omega)
  have s := pow_split hn
  have e : x / 2 ^ n = x * 2 ^ (64 - n) / 18446744073709551616 := by
    have := @div_split x (64-n) (by omega)
    rwa [show 64 - (64 - n) = n by omega] at this
  have l := div_split_lt (x := x) (n := 64 - n) (by omega) h1
  obtain ⟨m, hm⟩ := Int.dvd_of_emod_eq_zero b
  have d : a * 2 ^ (64 - n) % 18446744073709551616 < 18446744073709551616 := Int.emod_lt_of_pos _ (by decide)
  have d0 : 0 ≤ a * 2 ^ (64 - n) % 18446744073709551616 := Int.emod_nonneg _ (by decide)
  have q := ipow_pos (64 - n)
  have e2 : m < 2 ^ n := by
    rw [hm, ← s, Int.mul_comm ((2:Int) ^ n)] at d
    exact Int.lt_of_mul_lt_mul_left d (Int.le_of_lt q)
  have f : (2:Int) ^ (64 - n) * (m + 1) ≤ (2:Int) ^ (64 - n) * 2 ^ n := Int.mul_le_mul_of_nonneg_left (by omega) (Int.le_of_lt q)
  rw [Int.mul_comm, Int.mul_comm _ ((2:Int) ^ n), s] at f
  have g : (m + 1) * (2:Int) ^ (64 - n) = (2:Int) ^ (64 - n) * m + 2 ^ (64 - n) := by grind
  have x0 := Int.ediv_nonneg h0 (Int.le_of_lt p)
  omega
theorem QShr.start {xs : List Int} (hx : Ws xs) (n : Nat) : QShr xs n xs.length 0 (zw xs.length) := by
  refine ⟨zw_ws _, zw_length _, ?_, ?_⟩
  · rw [List.getD_eq_getElem?_getD, List.getElem?_eq_none (Nat.le_refl _)]; rfl
  · rw [List.drop_of_length_le (by rw [zw_length]; exact Nat.le_refl _), List.drop_length]; simp [val_nil]
theorem QShr.next {xs : List Int} {n i : Nat} {a : Int} {zs : List Int} (h : QShr xs n (i + 1) a zs) (hx : Ws xs) (hn : n < 64) (hi : i < xs.length) :
    QShr xs n i (xs.getD i 0) (zs.set i (xs.getD i 0 / 2 ^ n + a * 2 ^ (64 - n) % 18446744073709551616)) := by
  have hxi := hx.getD i
  obtain ⟨b1, b2⟩ := shr_word (a := a) (show n ≤ 64 by omega) hxi.1 hxi.2
  refine ⟨h.ws.set _ b1 b2, by rw [List.length_set]; exact h.len, rfl, ?_⟩
  rw [val_drop_succ _ i (by rw [List.length_set, h.len]; exact hi), drop_set_lt (by omega), getD_set_eq (by rw [h.len]; exact hi), h.e, val_drop_succ xs i hi]
  have hH := val_nonneg (hx.drop (i + 1))
  -- the word above is the rest of what stands above
  have ha : ∃ r, val (xs.drop (i + 1)) = a + W * r := by
    by_cases hl : i + 1 < xs.length
    · exact ⟨_, by rw [val_drop_succ xs (i + 1) hl, h.ab]⟩
    · exact ⟨0, by rw [h.ab, List.drop_of_length_le (by omega), List.getD_eq_getElem?_getD, List.getElem?_eq_none (by omega)]; simp [val_nil]⟩
  obtain ⟨r, hr⟩ := ha
  generalize val (xs.drop (i + 1)) = H at *
  generalize xs.getD i 0 = x at *
  have p := ipow_pos n
  have q := ipow_pos (64 - n)
  have s := pow_split (show n ≤ 64 by omega)
  have e1 : (x + W * H) / 2 ^ n = x / 2 ^ n + 2 ^ (64 - n) * H := by
    rw [show x + W * H = x + (2 : Int) ^ n * (2 ^ (64 - n) * H) by rw [W_eq, ← s]; grind, Int.add_mul_ediv_left _ _ (by omega)]
  have e2 : a * 2 ^ (64 - n) % 18446744073709551616 = 2 ^ (64 - n) * (H % 2 ^ n) := by
    have d := Int.emod_add_mul_ediv H (2 ^ n)
    have l := Int.emod_lt_of_pos H p
    have l0 := Int.emod_nonneg H (show (2:Int) ^ n ≠ 0 by omega)
    have b3 : 2 ^ (64 - n) * (H % 2 ^ n) < 18446744073709551616 := by
      have := Int.mul_lt_mul_of_pos_left l q
      rw [Int.mul_comm ((2:Int) ^ (64 - n)) (2 ^ n), s] at this; exact this
    have b4 : 0 ≤ 2 ^ (64 - n) * (H % 2 ^ n) := Int.mul_nonneg (Int.le_of_lt q) l0
    have : a * 2 ^ (64 - n) = 2 ^ (64 - n) * (H % 2 ^ n) + 18446744073709551616 * (H / 2 ^ n - r * 2 ^ (64 - n)) := by
      have ea : a = H - W * r := by omega
      rw [ea, W_eq, ← s]
      generalize (2:Int) ^ (64 - n) = K at *
      generalize (2:Int) ^ n = P at *
      grind
    rw [this, Int.add_mul_emod_self_left, Int.emod_eq_of_lt b4 b3]
  rw [e1, e2]
  have d := Int.emod_add_mul_ediv H (2 ^ n)
  rw [W_eq, ← s]
  generalize (2:Int) ^ (64 - n) = K at *
  generalize (2:Int) ^ n = P at *
  grind
set_option maxRecDepth 100000 in
set_option maxHeartbeats 1600000 in
theorem qShr (A : Option Addr) (c lo up : Nat) (xs : List Int) (n : Nat) (w : World) (hx : Ws xs) (hA : WordsIn lo up w A xs) (hu : up ≤ w.heap.size) (hl : xs.length ≤ 17592186044416) (hn : n < 64) :
    Calls Tryz.prog 259 #[.slice A xs.length c, .int .i64 n] w fun e w' => ∃ A1, e = .returned (.slice A1 (limbs (val xs / 2 ^ n)).length (limbs (val xs / 2 ^ n)).length) ∧ FreshAt w.heap.size w' A1 (limbs (val xs / 2 ^ n)).length (limbs (val xs / 2 ^ n)) ∧ Below w.heap.size w w' := by
  have hmk := run_make_at xs.length xs.length rfl (by omega)
  have e3 : ((n : Int)).toNat = n := by omega
  go_enter Tryz.func259, Tryz.ntmps259
  go_wp2
  go_loopw [6, 7] (fun c i wr => ∃ (k q : Nat) (a : Int) (zs : List Int), i = .int .i64 ((k : Int) - 1) ∧ c = .int .u64 a ∧ wr = (w.alloc (.cells (wv zs).toArray 36)).drewN q ∧ k ≤ xs.length ∧ QShr xs n k a zs) (fun _ i _ => (intOf i + 1).toNat)
  case atStart => exact ⟨xs.length, 0, 0, _, vint (by omega), rfl, rfl, Nat.le_refl _, QShr.start hx n⟩
  case round =>
    obtain ⟨k, q, a, zs, rfl, rfl, hw, hk, hI⟩ := hrel
    have HL := Lib.hid hI.len
    rcases k with _ | i
    · have HW := Lib.hid hw
      have hz := hI.ws
      have HE := Lib.hid (show val zs = val xs / 2 ^ n from hI.e)
      have hg : wr.heap[w.heap.size]? = some (.cells (wv zs).toArray 36 (0, 0)) := by rw [hw, World.heap_drewN, alloc_heap_at, if_pos rfl]
      have hWz := (FreshAt.row (Nat.le_refl w.heap.size) hg).words
      clear hw
      have HG := Lib.hid hg
      clear hg
      rw [← HL.out]
      go_wp2_with (fail)
      refine (nNorm _ _ _ _ zs _ hz hWz (Nat.le_refl _) (by rw [HL.out]; omega)).mono ?_
      rintro e w' ⟨rfl, rfl⟩
      rw [HE.out]
      go_wp2
      go_ret
      refine ⟨_, rfl, FreshAt.row ?_ (by rw [alloc_heap_at, if_pos rfl]), by rw [HW.out]; exact (by repeat (first | exact Below.refl _ _ | refine belowN ?_ _ | refine Below.drew ?_ | refine Below.alloc ?_ (by first | exact Nat.le_refl _ | (simp; done) | (simp; omega) | omega) _))⟩
      have := heap_lt HG.out
      omega
    · rw [show (((i + 1 : Nat) : Int) - 1) = (i : Int) by omega]
      obtain ⟨b, o, rfl, hb1, hb2, hcy⟩ := (hA.keep (show Keep lo up w wr by rw [hw]; exact (Keep.refl _ _ _).alloc hu _)).at (i := i) (by omega)
      have hcz : wr.cell? ⟨w.heap.size, i, none⟩ = some (.int .u64 (zs.getD i 0)) := by rw [hw]; exact own_cell w zs i (by rw [HL.out]; omega)
      have hfz : wr.frozen? ⟨w.heap.size, i, none⟩ = false := by rw [hw]; exact own_free w zs i
      have HW := Lib.hid hw
      clear hw
      have hyk := hx.getD i
      have ha := hx.getD (i + 1)
      have HN := Lib.hid (hI.next hx hn (by omega))
      rw [← hI.ab] at ha
      have hil : i < xs.length := by omega
      generalize xs.getD i 0 = y at *
      go_wp2_with (go_at_call 249; refine (wShr a y n _ ha.1 ha.2 hyk.1 hyk.2 (by omega) (by omega)).mono ?_; rintro e w' ⟨rfl, q2, rfl⟩; rw [e3])
      exact ⟨⟨i, q + q2, _, _, rfl, rfl, by rw [HW.out, setCell_drewN, own_set, World.drewN_drewN], by omega, HN.out⟩, by simp [intOf]⟩
structure QSm (xs : List Int) (d : Int) (i : Nat) (r : Int) (zs : List Int) : Prop where
  ws : Ws zs
  len : zs.length = xs.length
  r0 : 0 ≤ r
  r1 : r < d
  e : val (xs.drop i) = val (zs.drop i) * d + r
theorem QSm.start (xs : List Int) {d : Int} (hd : 0 < d) : QSm xs d xs.length 0 (zw xs.length) := by
  refine ⟨zw_ws _, zw_length _, by omega, hd, ?_⟩
  rw [List.drop_length, List.drop_of_length_le (by rw [zw_length]; exact Nat.le_refl _)]; simp [val_nil]
theorem QSm.next {xs : List Int} {d : Int} {i : Nat} {r : Int} {zs : List Int} (h : QSm xs d (i + 1) r zs) (hx : Ws xs) (hd : 0 < d) (hi : i < xs.length) :
    QSm xs d i ((r * 18446744073709551616 + xs.getD i 0) % d) (zs.set i ((r * 18446744073709551616 + xs.getD i 0) / d)) := by
  have hxi := hx.getD i
  have r0 := h.r0
  have r1 := h.r1
  have q0 : 0 ≤ (r * 18446744073709551616 + xs.getD i 0) / d := Int.ediv_nonneg (by omega) (by omega)
  have q1 : (r * 18446744073709551616 + xs.getD i 0) / d < 18446744073709551616 := by
    refine (Int.ediv_lt_iff_lt_mul hd).2 ?_
    omega
  refine ⟨h.ws.set i q0 (by omega), by rw [List.length_set]; exact h.len, Int.emod_nonneg _ (by omega), Int.emod_lt_of_pos _ hd, ?_⟩
  rw [val_drop_succ xs i hi, h.e, val_drop_succ _ i (by rw [List.length_set, h.len]; exact hi), drop_set_lt (by omega), getD_set_eq (by rw [h.len]; exact hi)]
  have e := Int.emod_add_mul_ediv (r * 18446744073709551616 + xs.getD i 0) d
  rw [W_eq]
  generalize (r * 18446744073709551616 + xs.getD i 0) / d = q at *
  generalize (r * 18446744073709551616 + xs.getD i 0) % d = m at *
  grind
set_option maxRecDepth 100000 in
set_option maxHeartbeats 1600000 in
theorem qSmall (A : Option Addr) (c lo up : Nat) (xs : List Int) (d : Int) (w : World) (hx : Ws xs) (hA : WordsIn lo up w A xs) (hu : up ≤ w.heap.size) (hl : xs.length ≤ 17592186044416) (hd : 0 < d) (hd1 : d ≤ 18446744073709551615) :
    Calls Tryz.prog 228 #[.slice A xs.length c, .int .u64 d] w fun e w' => ∃ A1, e = .returned (.tuple #[.slice A1 (limbs (val xs / d)).length (limbs (val xs / d)).length, .int .u64 (val xs % d), .int .i64 0]) ∧ FreshAt w.heap.size w' A1 (limbs (val xs / d)).length (limbs (val xs / d)) ∧ Below w.heap.size w w' := by
  have hmk := run_make_at xs.length xs.length rfl (by omega)
  have hdb : (d == 0) = false := by simp; omega
  go_enter Tryz.func228, Tryz.ntmps228
  go_wp2
  go_loopw [8, 9] (fun c i wr => ∃ (k : Nat) (r : Int) (zs : List Int), i = .int .i64 ((k : Int) - 1) ∧ c = .int .u64 r ∧ wr.heap[w.heap.size]? = some (.cells (wv zs).toArray 36 (0, 0)) ∧ Below w.heap.size w wr ∧ k ≤ xs.length ∧ QSm xs d k r zs) (fun _ i _ => (intOf i + 1).toNat)
  case atStart => exact ⟨xs.length, 0, _, vint (by omega), rfl, by rw [alloc_heap_at, if_pos rfl], (by repeat (first | exact Below.refl _ _ | refine belowN ?_ _ | refine Below.drew ?_ | refine Below.alloc ?_ (by first | exact Nat.le_refl _ | (simp; done) | (simp; omega) | omega) _)), Nat.le_refl _, QSm.start xs hd⟩
  case round =>
    obtain ⟨k, r, zs, rfl, rfl, hg, hbw, hk, hI⟩ := hrel
    have HL := Lib.hid hI.len
    have HG := Lib.hid hg
    clear hg
    have hgl := heap_lt HG.out
    rcases k with _ | i
    · have hz := hI.ws
      have he := hI.e
      have r0 := hI.r0
      have r1 := hI.r1
      rw [List.drop_zero, List.drop_zero] at he
      have hu2 := (Int.ediv_emod_unique (a := val xs) (b := d) (q := val zs) (r := r) hd).2 ⟨by rw [he]; grind, r0, r1⟩
      have HQ := Lib.hid hu2.1
      have HR := Lib.hid hu2.2
      have hWz := (FreshAt.row (Nat.le_refl w.heap.size) HG.out).words
      clear he hu2
      rw [← HL.out]
      go_wp2_with (fail)
      refine (nNorm _ _ _ _ zs _ hz hWz (Nat.le_refl _) (by rw [HL.out]; omega)).mono ?_
      rintro e w' ⟨rfl, rfl⟩
      go_wp2
      go_ret3
      rw [HQ.out, HR.out]
      refine ⟨_, rfl, FreshAt.row (by omega) (by rw [alloc_heap_at, if_pos rfl]), hbw.alloc (by omega) _⟩
    · rw [show (((i + 1 : Nat) : Int) - 1) = (i : Int) by omega]
      have r0 := hI.r0
      have r1 := hI.r1
      have hil : i < xs.length := by omega
      obtain ⟨b, o, rfl, hb1, hb2, hcy⟩ := (hA.keep (Keep.of hbw hu)).at (i := i) (by omega)
      have hyk := hx.getD i
      have HN := Lib.hid (hI.next hx hd hil)
      generalize xs.getD i 0 = y at *
      go_wp2_with (fail)
      refine (wDiv r y d _ r0 r1 hyk.1 hyk.2 hd1).mono ?_
      rintro e w2 ⟨rfl, hb2'⟩
      have hg2 : w2.heap[w.heap.size]? = some (.cells (wv zs).toArray 36 (0, 0)) := by rw [hb2'.block _ hgl]; exact HG.out
      have hcz := row_cell hg2 (k := i) (by rw [HL.out]; exact hil)
      have hfz := free_of_cells hg2 i
      have HG2 := Lib.hid hg2
      clear hg2
      go_wp2_with (fail)
      exact ⟨⟨i, _, _, rfl, rfl, heap_set_row HG2.out _ _, (hbw.trans (hb2'.mono hbw.size)).setCell (Nat.le_refl _) _, by omega, HN.out⟩, by simp [intOf]⟩
end Go.Proofs.YtfpofmifmapmfaaGreatDoor

namespace Go.Proofs.YtfpofmifmapmfaaGreatDoor
open Go.RowKit Go.Proofs.YtfpofmifmapmfaaGreatDoorW.PrintLast
set_option linter.unusedVariables false
set_option linter.unusedSimpArgs false
structure TakeAt (U vs : List Int) (o : Nat) (y : Int) (k : Nat) (a b : Int) (V : List Int) : Prop where
  ws : Ws V
  len : V.length = U.length
  hi : V.drop (o + vs.length + 1) = U.drop (o + vs.length + 1)
  a0 : 0 ≤ a
  a1 : a ≤ 18446744073709551615
  b0 : 0 ≤ b
  b1 : b ≤ 1
  e : val V - W ^ (o + k) * b = val U - W ^ o * (y * val (vs.take k)) + W ^ (o + k) * a
theorem TakeAt.start {U : List Int} (h : Ws U) (vs : List Int) (o : Nat) (y : Int) : TakeAt U vs o y 0 0 0 U :=
  ⟨h, rfl, rfl, by omega, by omega, by omega, by omega, by simp [val_nil]⟩
theorem take_step {p a : Int} (hp0 : 0 ≤ p) (hp1 : p ≤ 340282366920938463426481119284349108225) (ha0 : 0 ≤ a) (ha1 : a ≤ 18446744073709551615) :
    0 ≤ p / 18446744073709551616 + (p % 18446744073709551616 + a) / 18446744073709551616 ∧ p / 18446744073709551616 + (p % 18446744073709551616 + a) / 18446744073709551616 ≤ 18446744073709551615 ∧
    p + a = (p % 18446744073709551616 + a) % 18446744073709551616 + 18446744073709551616 * (p / 18446744073709551616 + (p % 18446744073709551616 + a) / 18446744073709551616) := by omega
theorem TakeAt.next {U vs : List Int} {o : Nat} {y : Int} {k : Nat} {a b : Int} {V : List Int} (h : TakeAt U vs o y k a b V) (hk : k < vs.length) (ho : o + vs.length + 1 ≤ U.length) {l a' s b' : Int}
    (hl : vs.getD k 0 * y + a = l + 18446744073709551616 * a') (ha0 : 0 ≤ a') (ha1 : a' ≤ 18446744073709551615) (hs : V.getD (o + k) 0 - l - b = s - 18446744073709551616 * b') (hs0 : 0 ≤ s) (hs1 : s ≤ 18446744073709551615) (hb0 : 0 ≤ b') (hb1 : b' ≤ 1) :
    TakeAt U vs o y (k + 1) a' b' (V.set (o + k) s) := by
  refine ⟨h.ws.set _ hs0 hs1, by rw [List.length_set]; exact h.len, by rw [drop_set_lt (by omega)]; exact h.hi, ha0, ha1, hb0, hb1, ?_⟩
  rw [val_set _ _ _ (by rw [h.len]; omega), val_take_succ', show o + (k + 1) = (o + k) + 1 by omega, Int.pow_succ]
  have e := h.e
  rw [← W_eq] at hl hs
  have f : W ^ (o + k) = W ^ o * W ^ k := Int.pow_add W o k
  generalize V.getD (o + k) 0 = u at *
  generalize vs.getD k 0 = v at *
  generalize val (vs.take k) = t at *
  have g1 : W ^ (o + k) * (v * y + a) = W ^ (o + k) * (l + W * a') := by rw [hl]
  have g2 : W ^ (o + k) * (u - l - b) = W ^ (o + k) * (s - W * b') := by rw [hs]
  rw [f] at *
  generalize W ^ o = P at *
  generalize W ^ k = R at *
  grind
theorem TakeAt.last {U vs : List Int} {o : Nat} {y : Int} {a b : Int} {V : List Int} (h : TakeAt U vs o y vs.length a b V) (ho : o + vs.length + 1 ≤ U.length) {s b' : Int}
    (hs : V.getD (o + vs.length) 0 - a - b = s - 18446744073709551616 * b') (hs0 : 0 ≤ s) (hs1 : s ≤ 18446744073709551615) :
    Ws (V.set (o + vs.length) s) ∧ (V.set (o + vs.length) s).length = U.length ∧ (V.set (o + vs.length) s).drop (o + vs.length + 1) = U.drop (o + vs.length + 1) ∧
    val (V.set (o + vs.length) s) - W ^ (o + vs.length + 1) * b' = val U - W ^ o * (y * val vs) := by
  refine ⟨h.ws.set _ hs0 hs1, by rw [List.length_set]; exact h.len, by rw [drop_set_lt (by omega)]; exact h.hi, ?_⟩
  rw [val_set _ _ _ (by rw [h.len]; omega), Int.pow_succ]
  have e := h.e
  rw [List.take_length] at e
  rw [← W_eq] at hs
  have g2 : W ^ (o + vs.length) * (V.getD (o + vs.length) 0 - a - b) = W ^ (o + vs.length) * (s - W * b') := by rw [hs]
  grind
set_option maxRecDepth 100000 in
set_option maxHeartbeats 3200000 in
theorem qTake (g o cu : Nat) (U : List Int) (B : Option Addr) (d lo up : Nat) (vs : List Int) (y : Int) (w : World) (hU : Ws U) (hg : w.heap[g]? = some (.cells (wv U).toArray 36 (0, 0))) (ho : o + vs.length + 1 ≤ U.length)
    (hv : Ws vs) (hB : WordsIn lo up w B vs) (hgu : g < lo ∨ up ≤ g) (hu : up ≤ w.heap.size) (hy0 : 0 ≤ y) (hy1 : y ≤ 18446744073709551615) (hUl : U.length ≤ 17592186044416) :
    Calls Tryz.prog 257 #[.slice (some ⟨g, o, none⟩) (vs.length + 1) cu, .slice B vs.length d, .int .u64 y] w fun e w' => ∃ V b, e = .returned (.bool (b == 1)) ∧ Ws V ∧ V.length = U.length ∧ V.drop (o + vs.length + 1) = U.drop (o + vs.length + 1) ∧ 0 ≤ b ∧ b ≤ 1 ∧
      val V - W ^ (o + vs.length + 1) * b = val U - W ^ o * (y * val vs) ∧ w'.heap[g]? = some (.cells (wv V).toArray 36 (0, 0)) ∧ But g w w' := by
  have HG0 := Lib.hid hg
  clear hg
  go_enter Tryz.func257, Tryz.ntmps257
  go_wp2
  go_loopw [7, 8, 16] (fun a b i wr => ∃ (k : Nat) (a0 b0 : Int) (V : List Int), i = .int .i64 k ∧ a = .int .u64 a0 ∧ b = .int .u64 b0 ∧ k ≤ vs.length ∧ TakeAt U vs o y k a0 b0 V ∧ wr.heap[g]? = some (.cells (wv V).toArray 36 (0, 0)) ∧ But g w wr) (fun _ _ i _ => vs.length - (intOf i).toNat)
  case atStart => exact ⟨0, 0, 0, U, rfl, rfl, rfl, Nat.zero_le _, TakeAt.start hU vs o y, HG0.out, But.refl g w⟩
  case round =>
    obtain ⟨k, a0, b0, V, rfl, rfl, rfl, hk, hI, hg, hbw⟩ := hrel
    have HG := Lib.hid hg
    clear hg
    have hgl := heap_lt HG.out
    have HL := Lib.hid hI.len
    have ha0 := hI.a0
    have ha1 := hI.a1
    have hb0 := hI.b0
    have hb1 := hI.b1
    by_cases hlt : k < vs.length
    · have hBr : WordsIn lo up wr B vs := hB.keep (hbw.keep hu hgu)
      obtain ⟨bb, oo, rfl, hb3, hb4, hcv⟩ := hBr.at (i := k) hlt
      have hvk := hv.getD k
      have hzk := hI.ws.getD (o + k)
      have hkz : o + k < V.length := by rw [HL.out]; omega
      generalize hvv : vs.getD k 0 = v at hcv hvk
      have HV := Lib.hid hvv
      clear hvv
      have hp0 : 0 ≤ v * y := Int.mul_nonneg hvk.1 hy0
      have hp1 : v * y ≤ 340282366920938463426481119284349108225 := Int.le_trans (Int.mul_le_mul hvk.2 hy1 hy0 (by omega)) (by decide)
      go_wp2_with (fail)
      refine (wMul v y _ hvk.1 hy0 hvk.2 hy1).mono ?_
      rintro e w2 ⟨rfl, hbb⟩
      have hg2 : w2.heap[g]? = some (.cells (wv V).toArray 36 (0, 0)) := by rw [hbb.block _ hgl]; exact HG.out
      have hcz := row_cell hg2 hkz
      have hfz := free_of_cells hg2 (o + k)
      have HG2 := Lib.hid hg2
      clear hg2
      have HST := Lib.hid (take_step hp0 hp1 ha0 ha1)
      generalize hz : V.getD (o + k) 0 = z at hcz hzk
      have HZ := Lib.hid hz
      clear hz
      generalize hpp : v * y = p at *
      have HP := Lib.hid hpp
      clear hpp
      go_wp2_with (first | (go_at_call 213; refine (wAdd _ _ _ _ (by omega) (by omega) (by omega) (by omega) (by omega) (by omega)).mono ?_; rintro e w' ⟨rfl, rfl⟩) | (go_at_call 156; refine (wSub _ _ _ _ (by omega) (by omega) (by omega) (by omega) (by omega) (by omega)).mono ?_; rintro e w' ⟨rfl, rfl⟩))
      obtain ⟨s0, s1, s2⟩ := HST.out
      refine ⟨⟨k + 1, _, _, _, vint (by omega), rfl, rfl, by omega, ?_, heap_set_row HG2.out _ _, (hbw.trans (But.of hbb)).setCell _ _⟩, by simp [intOf]; omega⟩
      refine hI.next hlt ho (l := (p % 18446744073709551616 + a0) % 18446744073709551616) ?_ (by omega) (by omega) ?_ (by omega) (by omega) (by omega) (by omega)
      · rw [HV.out, HP.out]; omega
      · rw [HZ.out]; omega
    · obtain rfl : k = vs.length := by omega
      have hkz : o + vs.length < V.length := by rw [HL.out]; omega
      have hcz := row_cell HG.out hkz
      have hfz := free_of_cells HG.out (o + vs.length)
      have hzk := hI.ws.getD (o + vs.length)
      generalize hz : V.getD (o + vs.length) 0 = z at hcz hzk
      have HZ := Lib.hid hz
      clear hz
      go_wp2_with (first | (go_at_call 156; refine (wSub _ _ _ _ (by omega) (by omega) (by omega) (by omega) (by omega) (by omega)).mono ?_; rintro e w' ⟨rfl, rfl⟩))
      go_ret
      obtain ⟨l1, l2, l3, l4⟩ := hI.last ho (s := (z - a0 - b0) % 18446744073709551616) (b' := -((z - a0 - b0) / 18446744073709551616)) (by rw [HZ.out]; omega) (by omega) (by omega)
      exact ⟨_, _, rfl, l1, l2, l3, by omega, by omega, l4, heap_set_row HG.out _ _, hbw.setCell _ _⟩
structure GiveAt (U vs : List Int) (o k : Nat) (c : Int) (V : List Int) : Prop where
  ws : Ws V
  len : V.length = U.length
  hi : V.drop (o + vs.length + 1) = U.drop (o + vs.length + 1)
  c0 : 0 ≤ c
  c1 : c ≤ 1
  e : val V + W ^ (o + k) * c = val U + W ^ o * val (vs.take k)
theorem GiveAt.start {U : List Int} (h : Ws U) (vs : List Int) (o : Nat) : GiveAt U vs o 0 0 U :=
  ⟨h, rfl, rfl, by omega, by omega, by simp [val_nil]⟩
theorem GiveAt.next {U vs : List Int} {o k : Nat} {c : Int} {V : List Int} (h : GiveAt U vs o k c V) (hk : k < vs.length) (ho : o + vs.length + 1 ≤ U.length) {s c' : Int}
    (hs : V.getD (o + k) 0 + vs.getD k 0 + c = s + 18446744073709551616 * c') (hs0 : 0 ≤ s) (hs1 : s ≤ 18446744073709551615) (hc0 : 0 ≤ c') (hc1 : c' ≤ 1) :
    GiveAt U vs o (k + 1) c' (V.set (o + k) s) := by
  refine ⟨h.ws.set _ hs0 hs1, by rw [List.length_set]; exact h.len, by rw [drop_set_lt (by omega)]; exact h.hi, hc0, hc1, ?_⟩
  rw [val_set _ _ _ (by rw [h.len]; omega), val_take_succ', show o + (k + 1) = (o + k) + 1 by omega, Int.pow_succ]
  have e := h.e
  rw [← W_eq] at hs
  have f : W ^ (o + k) = W ^ o * W ^ k := Int.pow_add W o k
  generalize V.getD (o + k) 0 = u at *
  generalize vs.getD k 0 = v at *
  generalize val (vs.take k) = t at *
  have g2 : W ^ (o + k) * (u + v + c) = W ^ (o + k) * (s + W * c') := by rw [hs]
  rw [f] at *
  generalize W ^ o = P at *
  generalize W ^ k = R at *
  grind
theorem GiveAt.last {U vs : List Int} {o : Nat} {c : Int} {V : List Int} (h : GiveAt U vs o vs.length c V) (ho : o + vs.length + 1 ≤ U.length) {s c' : Int}
    (hs : V.getD (o + vs.length) 0 + c = s + 18446744073709551616 * c') (hs0 : 0 ≤ s) (hs1 : s ≤ 18446744073709551615) :
    Ws (V.set (o + vs.length) s) ∧ (V.set (o + vs.length) s).length = U.length ∧ (V.set (o + vs.length) s).drop (o + vs.length + 1) = U.drop (o + vs.length + 1) ∧
    val (V.set (o + vs.length) s) + W ^ (o + vs.length + 1) * c' = val U + W ^ o * val vs := by
  refine ⟨h.ws.set _ hs0 hs1, by rw [List.length_set]; exact h.len, by rw [drop_set_lt (by omega)]; exact h.hi, ?_⟩
  rw [val_set _ _ _ (by rw [h.len]; omega), Int.pow_succ]
  have e := h.e
  rw [List.take_length] at e
  rw [← W_eq] at hs
  have g2 : W ^ (o + vs.length) * (V.getD (o + vs.length) 0 + c) = W ^ (o + vs.length) * (s + W * c') := by rw [hs]
  grind
set_option maxRecDepth 100000 in
set_option maxHeartbeats 3200000 in
theorem qGive (g o cu : Nat) (U : List Int) (B : Option Addr) (d lo up : Nat) (vs : List Int) (w : World) (hU : Ws U) (hg : w.heap[g]? = some (.cells (wv U).toArray 36 (0, 0))) (ho : o + vs.length + 1 ≤ U.length)
    (hv : Ws vs) (hB : WordsIn lo up w B vs) (hgu : g < lo ∨ up ≤ g) (hu : up ≤ w.heap.size) (hUl : U.length ≤ 17592186044416) :
    Calls Tryz.prog 258 #[.slice (some ⟨g, o, none⟩) (vs.length + 1) cu, .slice B vs.length d] w fun e w' => ∃ V c, e = .returned (.tuple #[]) ∧ Ws V ∧ V.length = U.length ∧ V.drop (o + vs.length + 1) = U.drop (o + vs.length + 1) ∧ 0 ≤ c ∧
      val V + W ^ (o + vs.length + 1) * c = val U + W ^ o * val vs ∧ w'.heap[g]? = some (.cells (wv V).toArray 36 (0, 0)) ∧ But g w w' := by
  have HG0 := Lib.hid hg
  clear hg
  go_enter Tryz.func258, Tryz.ntmps258
  go_wp2
  go_loopw [4, 9] (fun c i wr => ∃ (k : Nat) (c0 : Int) (V : List Int), i = .int .i64 k ∧ c = .int .u64 c0 ∧ k ≤ vs.length ∧ GiveAt U vs o k c0 V ∧ wr.heap[g]? = some (.cells (wv V).toArray 36 (0, 0)) ∧ But g w wr) (fun _ i _ => vs.length - (intOf i).toNat)
  case atStart => exact ⟨0, 0, U, rfl, rfl, Nat.zero_le _, GiveAt.start hU vs o, HG0.out, But.refl g w⟩
  case round =>
    obtain ⟨k, c0, V, rfl, rfl, hk, hI, hg, hbw⟩ := hrel
    have HG := Lib.hid hg
    clear hg
    have hgl := heap_lt HG.out
    have HL := Lib.hid hI.len
    have ha0 := hI.c0
    have ha1 := hI.c1
    by_cases hlt : k < vs.length
    · have hBr : WordsIn lo up wr B vs := hB.keep (hbw.keep hu hgu)
      obtain ⟨bb, oo, rfl, hb3, hb4, hcv⟩ := hBr.at (i := k) hlt
      have hvk := hv.getD k
      have hzk := hI.ws.getD (o + k)
      have hkz : o + k < V.length := by rw [HL.out]; omega
      have hcz := row_cell HG.out hkz
      have hfz := free_of_cells HG.out (o + k)
      generalize hvv : vs.getD k 0 = v at hcv hvk
      have HV := Lib.hid hvv
      clear hvv
      generalize hz : V.getD (o + k) 0 = z at hcz hzk
      have HZ := Lib.hid hz
      clear hz
      go_wp2_with (first | (go_at_call 213; refine (wAdd _ _ _ _ (by omega) (by omega) (by omega) (by omega) (by omega) (by omega)).mono ?_; rintro e w' ⟨rfl, rfl⟩))
      refine ⟨⟨k + 1, _, _, vint (by omega), rfl, by omega, ?_, heap_set_row HG.out _ _, hbw.setCell _ _⟩, by simp [intOf]; omega⟩
      refine hI.next hlt ho ?_ (by omega) (by omega) (by omega) (by omega)
      rw [HV.out, HZ.out]; omega
    · obtain rfl : k = vs.length := by omega
      have hkz : o + vs.length < V.length := by rw [HL.out]; omega
      have hcz := row_cell HG.out hkz
      have hfz := free_of_cells HG.out (o + vs.length)
      have hzk := hI.ws.getD (o + vs.length)
      generalize hz : V.getD (o + vs.length) 0 = z at hcz hzk
      have HZ := Lib.hid hz
      clear hz
      go_wp2
      go_end0
      obtain ⟨l1, l2, l3, l4⟩ := hI.last ho (s := (z + c0) % 18446744073709551616) (c' := (z + c0) / 18446744073709551616) (by rw [HZ.out]; omega) (by omega) (by omega)
      rw [IntKind.wrap_u64]
      exact ⟨_, _, rfl, l1, l2, l3, by omega, l4, heap_set_row HG.out _ _, hbw.setCell _ _⟩
end Go.Proofs.YtfpofmifmapmfaaGreatDoor

namespace Go.Proofs.YtfpofmifmapmfaaGreatDoor
open Go.RowKit
set_option linter.unusedVariables false
set_option linter.unusedSimpArgs false
def jumpTo (J : Nat → Act → World → Prop) (Q : Exit → Act → World → Prop) : Exit → Act → World → Prop
  | .goto l, a, w => J l a w
  | e, a, w => Q e a w
theorem wp_scope_labels {P : Program} {a : Act} {w : World} {Q : Exit → Act → World → Prop} {c : Code} (J : Nat → Nat → Act → World → Prop)
    (first : c.wp P (jumpTo (fun l a w => ∃ n, J n l a w) Q) a w)
    (pass : ∀ n l a w, J n l a w → ∃ rest, findLabel c l = some rest ∧ rest.wp P (jumpTo (fun l' a' w' => ∃ m, m < n ∧ J m l' a' w') Q) a w) : (Code.scope c).wp P Q a w := by
  intro b k cs
  have key : ∀ n l a w rest, J n l a w → findLabel c l = some rest → ∃ e a' w', Q e a' w' ∧ Arrives P (lone (b.at a (.code rest :: .inScope c :: k)) cs w) b k cs e a' w' := by
    intro n
    induction n using Nat.strongRecOn with
    | _ n ih =>
      intro l a w rest hJ hf
      obtain ⟨rest', hf', hp⟩ := pass n l a w hJ
      obtain rfl : rest' = rest := by rw [hf] at hf'; exact (Option.some.inj hf').symm
      obtain ⟨e, a₁, w₁, hq, harr⟩ := hp b (.inScope c :: k) cs
      cases e with
      | normal => exact ⟨.normal, a₁, w₁, hq, Steps.trans harr (.one step_inScope)⟩
      | exit id => exact ⟨.exit id, a₁, w₁, hq, fun k' hk => harr k' (by simp [exitTo, hk])⟩
      | goto l' =>
        obtain ⟨m, hm, hJ'⟩ := hq
        obtain ⟨rest2, hf2, _⟩ := pass m l' a₁ w₁ hJ'
        obtain ⟨e₂, a₂, w₂, hq₂, harr₂⟩ := ih m hm l' a₁ w₁ rest2 hJ' hf2
        exact ⟨e₂, a₂, w₂, hq₂, .of_steps (harr (.code rest2 :: .inScope c :: k) (by simp [gotoIn, hf2])) harr₂⟩
      | ret => exact ⟨_, a₁, w₁, hq, harr⟩
      | panic ch => exact ⟨_, a₁, w₁, hq, harr⟩
      | outgrown => exact ⟨_, a₁, w₁, hq, harr⟩
  obtain ⟨e, a₁, w₁, hq, harr⟩ := first b (.inScope c :: k) cs
  cases e with
  | normal => exact ⟨.normal, a₁, w₁, hq, .head step_scope (Steps.trans harr (.one step_inScope))⟩
  | exit id => exact ⟨.exit id, a₁, w₁, hq, fun k' hk => .head step_scope (harr k' (by simp [exitTo, hk]))⟩
  | goto l' =>
    obtain ⟨m, hJ'⟩ := hq
    obtain ⟨rest2, hf2, _⟩ := pass m l' a₁ w₁ hJ'
    obtain ⟨e₂, a₂, w₂, hq₂, harr₂⟩ := key m l' a₁ w₁ rest2 hJ' hf2
    exact ⟨e₂, a₂, w₂, hq₂, .of_steps (.head step_scope (harr (.code rest2 :: .inScope c :: k) (by simp [gotoIn, hf2]))) harr₂⟩
  | ret => exact ⟨_, a₁, w₁, hq, .of_steps (.one step_scope) harr⟩
  | panic ch => exact ⟨_, a₁, w₁, hq, .of_steps (.one step_scope) harr⟩
  | outgrown => exact ⟨_, a₁, w₁, hq, .of_steps (.one step_scope) harr⟩
structure KIn (P T V t0 t1 t2 v1 v2 : Int) : Prop where
  p : 0 < P
  eT : ∃ r, T = (t0 * (W * W) + t1 * W + t2) * P + r ∧ 0 ≤ r ∧ r < P
  eV : ∃ r, V = (v1 * W + v2) * P + r ∧ 0 ≤ r ∧ r < P
  t00 : 0 ≤ t0
  t10 : 0 ≤ t1
  t11 : t1 < W
  t20 : 0 ≤ t2
  t21 : t2 < W
  v10 : 9223372036854775808 ≤ v1
  v11 : v1 < W
  v20 : 0 ≤ v2
  v21 : v2 < W
  lt : T < W * V
section
variable {P T V t0 t1 t2 v1 v2 : Int} (H : KIn P T V t0 t1 t2 v1 v2)
include H
theorem KIn.T0 : 0 ≤ T := by
  obtain ⟨r, e, r0, r1⟩ := H.eT
  have hW := W_pos
  have a : 0 ≤ t0 * (W * W) := Int.mul_nonneg H.t00 (Int.mul_nonneg (by omega) (by omega))
  have b : 0 ≤ t1 * W := Int.mul_nonneg H.t10 (by omega)
  have c : 0 ≤ (t0 * (W * W) + t1 * W + t2) * P := Int.mul_nonneg (by have := H.t20; omega) (Int.le_of_lt H.p)
  omega
theorem KIn.V0 : W * P ≤ V := by
  obtain ⟨r, e, r0, r1⟩ := H.eV
  have hW := W_pos
  have a : 1 * W ≤ v1 * W := Int.mul_le_mul_of_nonneg_right (by have := H.v10; omega) (by omega)
  have b : W * P ≤ (v1 * W + v2) * P := Int.mul_le_mul_of_nonneg_right (by have := H.v20; omega) (Int.le_of_lt H.p)
  omega
theorem KIn.Vpos : 0 < V := by
  have a := H.V0
  have := Int.mul_pos W_pos H.p
  omega
theorem KIn.q0 : 0 ≤ T / V := Int.ediv_nonneg H.T0 (Int.le_of_lt H.Vpos)
theorem KIn.q1 : T / V < W := (Int.ediv_lt_iff_lt_mul H.Vpos).2 H.lt
theorem KIn.top : t0 ≤ v1 := by
  obtain ⟨r, e, r0, r1⟩ := H.eT
  obtain ⟨s, f, s0, s1⟩ := H.eV
  have hW := W_pos
  have hp := H.p
  have lt := H.lt
  -- t0 W W P ≤ T < W V < W (v1 + 1) W P
  have a : t0 * (W * W) * P ≤ T := by
    have h1 : 0 ≤ t1 * W * P := Int.mul_nonneg (Int.mul_nonneg H.t10 (by omega)) (by omega)
    have h2 : 0 ≤ t2 * P := Int.mul_nonneg H.t20 (by omega)
    have h3 : (t0 * (W * W) + t1 * W + t2) * P = t0 * (W * W) * P + t1 * W * P + t2 * P := by grind
    omega
  have b : V ≤ (v1 + 1) * W * P := by
    have h1 : (v2 + 1) * P ≤ W * P := Int.mul_le_mul_of_nonneg_right (by have := H.v21; omega) (by omega)
    have h2 : (v1 * W + v2) * P = v1 * W * P + v2 * P := by grind
    have h3 : (v1 + 1) * W * P = v1 * W * P + W * P := by grind
    have h4 : (v2 + 1) * P = v2 * P + P := by grind
    omega
  have c : W * V ≤ W * ((v1 + 1) * W * P) := Int.mul_le_mul_of_nonneg_left b (by omega)
  have d : W * ((v1 + 1) * W * P) = (v1 + 1) * (W * W * P) := by grind
  have e2 : t0 * (W * W) * P = t0 * (W * W * P) := by grind
  have g : t0 * (W * W * P) < (v1 + 1) * (W * W * P) := by omega
  have := Int.lt_of_mul_lt_mul_right g (Int.le_of_lt (Int.mul_pos (Int.mul_pos W_pos W_pos) H.p))
  omega
theorem KIn.of_le {g : Int} (hg0 : 0 ≤ g) (h : g ≤ T / V) : g * v1 ≤ t0 * W + t1 ∧ g * v2 ≤ (t0 * W + t1 - g * v1) * W + t2 := by
  have a : g * V ≤ T := (Int.le_ediv_iff_mul_le H.Vpos).1 h
  obtain ⟨r, e, r0, r1⟩ := H.eT
  obtain ⟨s, f, s0, s1⟩ := H.eV
  have hp := H.p
  have hgs : 0 ≤ g * s := Int.mul_nonneg hg0 s0
  have b : g * (v1 * W + v2) * P < (t0 * (W * W) + t1 * W + t2 + 1) * P := by
    have h1 : g * V = g * (v1 * W + v2) * P + g * s := by rw [f]; grind
    have h2 : (t0 * (W * W) + t1 * W + t2 + 1) * P = (t0 * (W * W) + t1 * W + t2) * P + P := by grind
    omega
  have c := Int.lt_of_mul_lt_mul_right b (Int.le_of_lt hp)
  have d : g * (v1 * W + v2) = g * v1 * W + g * v2 := by grind
  have e1 : (t0 * W + t1 - g * v1) * W = t0 * (W * W) + t1 * W - g * v1 * W := by grind
  refine ⟨?_, by omega⟩
  have hgv : 0 ≤ g * v2 := Int.mul_nonneg hg0 H.v20
  have k : g * v1 * W < (t0 * W + t1 + 1) * W := by
    have : (t0 * W + t1 + 1) * W = t0 * (W * W) + t1 * W + W := by grind
    have := H.t21
    omega
  have := Int.lt_of_mul_lt_mul_right k (Int.le_of_lt W_pos)
  omega
theorem KIn.le_succ {g : Int} (hg0 : 0 ≤ g) (hg1 : g ≤ W) (h : g * v2 ≤ (t0 * W + t1 - g * v1) * W + t2) : g ≤ T / V + 1 := by
  obtain ⟨r, e, r0, r1⟩ := H.eT
  obtain ⟨s, f, s0, s1⟩ := H.eV
  have hp := H.p
  have hV := H.V0
  have e1 : (t0 * W + t1 - g * v1) * W = t0 * (W * W) + t1 * W - g * v1 * W := by grind
  have a : g * (v1 * W + v2) ≤ t0 * (W * W) + t1 * W + t2 := by
    have : g * (v1 * W + v2) = g * v1 * W + g * v2 := by grind
    omega
  have b : g * (v1 * W + v2) * P ≤ (t0 * (W * W) + t1 * W + t2) * P := Int.mul_le_mul_of_nonneg_right a (Int.le_of_lt hp)
  have c : g * V < T + V := by
    have h1 : g * V = g * (v1 * W + v2) * P + g * s := by rw [f]; grind
    have h2 : g * s ≤ W * s := Int.mul_le_mul_of_nonneg_right hg1 s0
    have h3 : W * s < W * P := Int.mul_lt_mul_of_pos_left s1 W_pos
    omega
  have d : (g - 1) * V < T := by
    have : (g - 1) * V = g * V - V := by grind
    omega
  have := (Int.le_ediv_iff_mul_le H.Vpos).2 (Int.le_of_lt d)
  omega
end
end Go.Proofs.YtfpofmifmapmfaaGreatDoor

namespace Go.Proofs.YtfpofmifmapmfaaGreatDoor
open Go.RowKit Go.Proofs.YtfpofmifmapmfaaGreatDoorW.PrintLast
set_option linter.unusedVariables false
set_option linter.unusedSimpArgs false
structure LInv (X V : Int) (n M jn : Nat) (U Q : List Int) : Prop where
  wsU : Ws U
  lenU : U.length = M + n
  wsQ : Ws Q
  lenQ : Q.length = M
  le : jn ≤ M
  e : X = W ^ jn * val (Q.drop jn) * V + val U
  lt : val U < W ^ jn * V
structure LDiv (vs : List Int) (n : Nat) : Prop where
  ws : Ws vs
  len : vs.length = n
  n2 : 2 ≤ n
  top : 9223372036854775808 ≤ vs.getD (n - 1) 0
theorem LDiv.lt {vs : List Int} {n : Nat} (D : LDiv vs n) : val vs < W ^ n := by have := val_lt D.ws; rwa [D.len] at this
theorem LInv.high {X : Int} {vs : List Int} {n M j : Nat} {U Q : List Int} (h : LInv X (val vs) n M (j + 1) U Q) (D : LDiv vs n) : val (U.drop (j + n + 1)) = 0 := by
  have hj := h.le
  have a := val_take_drop U (j + n + 1) (by rw [h.lenU]; omega)
  have b := val_nonneg (h.wsU.take (j + n + 1))
  have c := val_nonneg (h.wsU.drop (j + n + 1))
  have d := D.lt
  have e := h.lt
  have f : W ^ (j + 1) * val vs < W ^ (j + 1) * W ^ n := Int.mul_lt_mul_of_pos_left d (Wpow_pos _)
  rw [← Int.pow_add, show j + 1 + n = j + n + 1 by omega] at f
  by_cases z : val (U.drop (j + n + 1)) = 0
  · exact z
  · have := Int.mul_le_mul_of_nonneg_left (show 1 ≤ val (U.drop (j + n + 1)) by omega) (Int.le_of_lt (Wpow_pos (j + n + 1)))
    omega
theorem LInv.low {X : Int} {vs : List Int} {n M j : Nat} {U Q : List Int} (h : LInv X (val vs) n M (j + 1) U Q) (D : LDiv vs n) : ∃ r, val U = W ^ j * val (U.drop j) + r ∧ 0 ≤ r ∧ r < W ^ j := by
  have hj := h.le
  have a := val_take_drop U j (by rw [h.lenU]; omega)
  have b := val_nonneg (h.wsU.take j)
  have c := val_lt (h.wsU.take j)
  rw [List.length_take, Nat.min_eq_left (by rw [h.lenU]; omega)] at c
  exact ⟨_, by omega, b, c⟩
theorem three_words {xs : List Int} (k : Nat) (h : k + 2 < xs.length) : val (xs.drop k) = xs.getD k 0 + W * (xs.getD (k + 1) 0 + W * (xs.getD (k + 2) 0 + W * val (xs.drop (k + 3)))) := by
  rw [val_drop_succ xs k (by omega), val_drop_succ xs (k + 1) (by omega), val_drop_succ xs (k + 2) (by omega)]
theorem LInv.kin {X : Int} {vs : List Int} {n M j : Nat} {U Q : List Int} (h : LInv X (val vs) n M (j + 1) U Q) (D : LDiv vs n) :
    KIn (W ^ (n - 2)) (val (U.drop j)) (val vs) (U.getD (j + n) 0) (U.getD (j + n - 1) 0) (U.getD (j + n - 2) 0) (vs.getD (n - 1) 0) (vs.getD (n - 2) 0) := by
  have hj := h.le
  have hl := h.lenU
  have n2 := D.n2
  have hW := W_eq
  obtain ⟨k, rfl⟩ : ∃ k, n = k + 2 := ⟨n - 2, by omega⟩
  have g0 := h.wsU.getD (j + (k + 2))
  have g1 := h.wsU.getD (j + (k + 2) - 1)
  have g2 := h.wsU.getD (j + (k + 2) - 2)
  have d1 := D.ws.getD (k + 2 - 1)
  have d2 := D.ws.getD (k + 2 - 2)
  refine ⟨Wpow_pos _, ?_, ?_, g0.1, g1.1, by omega, g2.1, by omega, D.top, by omega, d2.1, by omega, ?_⟩
  · have hi := h.high D
    have a := val_take_drop (U.drop j) k (by rw [List.length_drop]; omega)
    have b := val_nonneg ((h.wsU.drop j).take k)
    have c := val_lt ((h.wsU.drop j).take k)
    rw [List.length_take, Nat.min_eq_left (by rw [List.length_drop]; omega)] at c
    refine ⟨_, ?_, b, c⟩
    rw [List.drop_drop, three_words (j + k) (by omega), show j + k + 3 = j + (k + 2) + 1 by omega, hi] at a
    rw [a, show k + 2 - 2 = k by omega, show j + (k + 2) - 2 = j + k by omega, show j + (k + 2) - 1 = j + k + 1 by omega, show j + (k + 2) = j + k + 2 by omega]
    grind
  · have a := val_take_drop vs k (by rw [D.len]; omega)
    have b := val_nonneg (D.ws.take k)
    have c := val_lt (D.ws.take k)
    rw [List.length_take, Nat.min_eq_left (by rw [D.len]; omega)] at c
    refine ⟨_, ?_, b, c⟩
    rw [val_drop_succ vs k (by rw [D.len]; omega), val_drop_succ vs (k + 1) (by rw [D.len]; omega), List.drop_of_length_le (by rw [D.len]; omega), val_nil] at a
    rw [a, show k + 2 - 2 = k by omega, show k + 2 - 1 = k + 1 by omega]
    grind
  · obtain ⟨r, e, r0, r1⟩ := h.low D
    have lt := h.lt
    rw [Int.pow_succ] at lt
    have : W ^ j * val (U.drop j) < W ^ j * (W * val vs) := by
      have : W ^ j * W * val vs = W ^ j * (W * val vs) := by grind
      omega
    exact Int.lt_of_mul_lt_mul_left this (Int.le_of_lt (Wpow_pos j))
theorem LInv.step {X : Int} {vs : List Int} {n M j : Nat} {U Q U' : List Int} (h : LInv X (val vs) n M (j + 1) U Q) (D : LDiv vs n) (hw : Ws U') (hl : U'.length = U.length)
    (hv : val U' = val U - W ^ j * (val (U.drop j) / val vs * val vs)) : LInv X (val vs) n M j U' (Q.set j (val (U.drop j) / val vs)) ∧ 0 ≤ val (U.drop j) / val vs ∧ val (U.drop j) / val vs ≤ 18446744073709551615 := by
  have K := h.kin D
  have q0 := K.q0
  have q1 := K.q1
  have hW := W_eq
  have hj := h.le
  have vp := K.Vpos
  obtain ⟨r, e, r0, r1⟩ := h.low D
  have m0 := Int.emod_nonneg (val (U.drop j)) (show val vs ≠ 0 by omega)
  have m1 := Int.emod_lt_of_pos (val (U.drop j)) vp
  have m2 := Int.emod_add_mul_ediv (val (U.drop j)) (val vs)
  refine ⟨⟨hw, by rw [hl]; exact h.lenU, h.wsQ.set _ q0 (by omega), by rw [List.length_set]; exact h.lenQ, by omega, ?_, ?_⟩, q0, by omega⟩
  · rw [val_drop_succ _ j (by rw [List.length_set, h.lenQ]; omega), drop_set_lt (by omega), getD_set_eq (by rw [h.lenQ]; omega), hv]
    have ex := h.e
    rw [Int.pow_succ] at ex
    rw [ex]
    generalize val (U.drop j) / val vs = q at *
    grind
  · rw [hv, e]
    have a : W ^ j * (val (U.drop j) % val vs + 1) ≤ W ^ j * val vs := Int.mul_le_mul_of_nonneg_left (by omega) (Int.le_of_lt (Wpow_pos j))
    have b : W ^ j * (val (U.drop j)) = W ^ j * (val (U.drop j) % val vs) + W ^ j * (val (U.drop j) / val vs * val vs) := by
      have : val (U.drop j) = val (U.drop j) % val vs + val (U.drop j) / val vs * val vs := by rw [Int.mul_comm (val (U.drop j) / val vs)]; omega
      rw [← Int.mul_add, ← this]
    have c : W ^ j * (val (U.drop j) % val vs + 1) = W ^ j * (val (U.drop j) % val vs) + W ^ j := by grind
    omega
theorem LInv.take0 {X : Int} {vs : List Int} {n M j : Nat} {U Q U' : List Int} {g : Int} (h : LInv X (val vs) n M (j + 1) U Q) (D : LDiv vs n) (hw : Ws U') (hl : U'.length = U.length)
    (g1 : val (U.drop j) / val vs ≤ g) (g2 : g ≤ val (U.drop j) / val vs + 1) (hv : val U' - W ^ (j + n + 1) * 0 = val U - W ^ j * (g * val vs)) : g = val (U.drop j) / val vs ∧ LInv X (val vs) n M j U' (Q.set j g) := by
  have K := h.kin D
  have vp := K.Vpos
  have e : g = val (U.drop j) / val vs := by
    by_cases hh : g = val (U.drop j) / val vs
    · exact hh
    · exfalso
      have hg : g = val (U.drop j) / val vs + 1 := by omega
      obtain ⟨r, e, r0, r1⟩ := h.low D
      have a : val (U.drop j) < g * val vs := by rw [hg]; exact Int.lt_mul_of_ediv_lt vp (by omega)
      have b : W ^ j * (val (U.drop j) + 1) ≤ W ^ j * (g * val vs) := Int.mul_le_mul_of_nonneg_left (by omega) (Int.le_of_lt (Wpow_pos j))
      have c : W ^ j * (val (U.drop j) + 1) = W ^ j * val (U.drop j) + W ^ j := by grind
      have d := val_nonneg hw
      omega
  refine ⟨e, ?_⟩
  rw [e]
  exact (h.step D hw hl (by rw [← e]; omega)).1
theorem LInv.take1 {X : Int} {vs : List Int} {n M j : Nat} {U Q U1 U2 : List Int} {g c : Int} (h : LInv X (val vs) n M (j + 1) U Q) (D : LDiv vs n) (hw1 : Ws U1) (hl1 : U1.length = U.length) (hd1 : U1.drop (j + n + 1) = U.drop (j + n + 1))
    (hw : Ws U2) (hl : U2.length = U1.length) (hd : U2.drop (j + n + 1) = U1.drop (j + n + 1))
    (g1 : val (U.drop j) / val vs ≤ g) (g2 : g ≤ val (U.drop j) / val vs + 1) (hv : val U1 - W ^ (j + n + 1) * 1 = val U - W ^ j * (g * val vs)) (hc : 0 ≤ c) (hv2 : val U2 + W ^ (j + n + 1) * c = val U1 + W ^ j * val vs) :
    g - 1 = val (U.drop j) / val vs ∧ LInv X (val vs) n M j U2 (Q.set j (g - 1)) := by
  have K := h.kin D
  have vp := K.Vpos
  have hj := h.le
  have hi := h.high D
  have lim : ∀ {Y : List Int}, Ws Y → Y.length = U.length → val (Y.drop (j + n + 1)) = 0 → val Y < W ^ (j + n + 1) := by
    intro Y hY hlY hdY
    have a := val_take_drop Y (j + n + 1) (by rw [hlY, h.lenU]; omega)
    have b := val_lt (hY.take (j + n + 1))
    rw [List.length_take, Nat.min_eq_left (by rw [hlY, h.lenU]; omega)] at b
    rw [hdY] at a
    omega
  have L1 := lim hw1 hl1 (by rw [hd1]; exact hi)
  have L2 := lim hw (by rw [hl, hl1]) (by rw [hd, hd1]; exact hi)
  obtain ⟨r, e, r0, r1⟩ := h.low D
  have hg : g = val (U.drop j) / val vs + 1 := by
    by_cases hh : g = val (U.drop j) / val vs + 1
    · exact hh
    · exfalso
      have hg : g = val (U.drop j) / val vs := by omega
      have a : g * val vs ≤ val (U.drop j) := by rw [hg]; exact (Int.le_ediv_iff_mul_le vp).1 (Int.le_refl _)
      have b : W ^ j * (g * val vs) ≤ W ^ j * val (U.drop j) := Int.mul_le_mul_of_nonneg_left a (Int.le_of_lt (Wpow_pos j))
      omega
  -- what is left behind both
  have q : val U - W ^ j * (val (U.drop j) / val vs * val vs) = val U - W ^ j * (g * val vs) + W ^ j * val vs := by rw [hg]; grind
  have b : W ^ j * (val (U.drop j) / val vs * val vs) ≤ W ^ j * val (U.drop j) := Int.mul_le_mul_of_nonneg_left ((Int.le_ediv_iff_mul_le vp).1 (Int.le_refl _)) (Int.le_of_lt (Wpow_pos j))
  have m1 := Int.emod_lt_of_pos (val (U.drop j)) vp
  have m2 := Int.emod_add_mul_ediv (val (U.drop j)) (val vs)
  have top : val U - W ^ j * (val (U.drop j) / val vs * val vs) < W ^ (j + n + 1) := by
    have a1 : W ^ j * (val (U.drop j) % val vs + 1) ≤ W ^ j * val vs := Int.mul_le_mul_of_nonneg_left (by omega) (Int.le_of_lt (Wpow_pos j))
    have a2 : W ^ j * (val (U.drop j)) = W ^ j * (val (U.drop j) % val vs) + W ^ j * (val (U.drop j) / val vs * val vs) := by
      have : val (U.drop j) = val (U.drop j) % val vs + val (U.drop j) / val vs * val vs := by rw [Int.mul_comm (val (U.drop j) / val vs)]; omega
      rw [← Int.mul_add, ← this]
    have a3 : W ^ j * (val (U.drop j) % val vs + 1) = W ^ j * (val (U.drop j) % val vs) + W ^ j := by grind
    have a5 : W ^ n ≤ W ^ (n + 1) := by rw [Wpow_eq, Wpow_eq]; exact ipow_le (by omega)
    have a6 := D.lt
    have a4 : W ^ j * val vs ≤ W ^ j * W ^ (n + 1) := Int.mul_le_mul_of_nonneg_left (by omega) (Int.le_of_lt (Wpow_pos j))
    rw [← Int.pow_add, show j + (n + 1) = j + n + 1 by omega] at a4
    omega
  have hc1 : c = 1 := by
    have n2 := val_nonneg hw
    by_cases hh : c = 1
    · exact hh
    · exfalso
      by_cases h1 : c < 1
      · have : c = 0 := by omega
        subst this
        omega
      · have : W ^ (j + n + 1) * 2 ≤ W ^ (j + n + 1) * c := Int.mul_le_mul_of_nonneg_left (by omega) (Int.le_of_lt (Wpow_pos _))
        omega
  subst hc1
  have hgm : g - 1 = val (U.drop j) / val vs := by omega
  refine ⟨hgm, ?_⟩
  rw [hgm]
  exact (h.step D hw (by rw [hl, hl1]) (by omega)).1
theorem LInv.done {X V : Int} {n M : Nat} {U Q : List Int} (h : LInv X V n M 0 U Q) (hV : 0 < V) : X / V = val Q ∧ X % V = val U := by
  have e := h.e
  have lt := h.lt
  simp only [Int.pow_zero, Int.one_mul, List.drop_zero] at e lt
  exact (Int.ediv_emod_unique hV).2 ⟨by rw [e]; grind, val_nonneg h.wsU, lt⟩
theorem LInv.start {X : Int} {vs : List Int} {n M : Nat} {U : List Int} (D : LDiv vs n) (hU : Ws U) (hl : U.length = M + n) (hX : val U = X) (hlt : X < W ^ M * val vs) : LInv X (val vs) n M M U (zw M) :=
  ⟨hU, hl, zw_ws M, zw_length M, Nat.le_refl _, by rw [List.drop_of_length_le (by rw [zw_length]; exact Nat.le_refl _)]; simp [val_nil, hX], by rw [hX]; exact hlt⟩
theorem scale_div {a b P : Int} (hP : 0 < P) (hb : 0 < b) (ha : 0 ≤ a) : a * P / (b * P) = a / b ∧ a * P % (b * P) = a % b * P := by
  have e := Int.emod_add_mul_ediv a b
  have r0 := Int.emod_nonneg a (show b ≠ 0 by omega)
  have r1 := Int.emod_lt_of_pos a hb
  refine (Int.ediv_emod_unique (Int.mul_pos hb hP)).2 ⟨?_, Int.mul_nonneg r0 (Int.le_of_lt hP), Int.mul_lt_mul_of_pos_right r1 hP⟩
  generalize a % b = r at *
  generalize a / b = q at *
  rw [← e]; grind
theorem long_start {ys : List Int} (hy : Ws ys) (hn : 2 ≤ ys.length) (hyl : (limbs (val ys)).length = ys.length) :
    1 ≤ blen (ys.getD (ys.length - 1) 0) ∧ blen (ys.getD (ys.length - 1) 0) ≤ 64 ∧ ∀ s : Nat, (s : Int) = 64 - blen (ys.getD (ys.length - 1) 0) → val ys * 2 ^ s < W ^ ys.length ∧ (2:Int) ^ (64 * ys.length - 1) ≤ val ys * 2 ^ s := by
  have hp : 0 < val ys := by
    have a := val_nonneg hy
    have b := (limbs_len_zero a).2
    omega
  have hl := limbs_last hp
  rw [limbs_getD hy (by omega), hyl] at hl
  have hb := hy.getD (ys.length - 1)
  have hbl := blen_limbs hp
  rw [limbs_getD hy (by omega), hyl] at hbl
  have b1 := blen_pos (x := ys.getD (ys.length - 1) 0) (by omega)
  refine ⟨b1, blen_64 hb.2, fun s hs => ?_⟩
  have l1 := blen_lt (val ys)
  have l2 := blen_le hp
  have e1 : (blen (val ys)).toNat + s = 64 * ys.length := by omega
  have e2 : (blen (val ys) - 1).toNat + s = 64 * ys.length - 1 := by omega
  constructor
  · rw [Wpow_eq, ← e1, Int.pow_add]
    exact Int.mul_lt_mul_of_pos_right l1 (ipow_pos s)
  · rw [← e2, Int.pow_add]
    exact Int.mul_le_mul_of_nonneg_right l2 (Int.le_of_lt (ipow_pos s))
theorem ldiv_of {vs : List Int} {n : Nat} (hv : Ws vs) (hl : vs.length = n) (hn : 2 ≤ n) (h : (2:Int) ^ (64 * n - 1) ≤ val vs) : LDiv vs n := by
  refine ⟨hv, hl, hn, ?_⟩
  obtain ⟨k, rfl⟩ : ∃ k, n = k + 1 := ⟨n - 1, by omega⟩
  have e := val_take_succ vs k (by omega)
  rw [List.take_of_length_le (by omega)] at e
  have b := val_lt (hv.take k)
  rw [List.length_take, Nat.min_eq_left (by omega)] at b
  have hW := Wpow_eq k
  have e2 : (2:Int) ^ (64 * (k + 1) - 1) = W ^ k * 9223372036854775808 := by
    rw [hW, show 64 * (k + 1) - 1 = 64 * k + 63 by omega, Int.pow_add]; rfl
  rw [show k + 1 - 1 = k by omega]
  by_cases hh : 9223372036854775808 ≤ vs.getD k 0
  · exact hh
  · have := Int.mul_le_mul_of_nonneg_left (show vs.getD k 0 + 1 ≤ 9223372036854775808 by omega) (Int.le_of_lt (Wpow_pos k))
    have f : W ^ k * (vs.getD k 0 + 1) = W ^ k * vs.getD k 0 + W ^ k := by grind
    omega
theorem long_lt {xs vs : List Int} {n M s : Nat} (hx : Ws xs) (hM : xs.length + 1 = M + n) (hs : s < 64) (h : (2:Int) ^ (64 * n - 1) ≤ val vs) (hn : 2 ≤ n) : val xs * 2 ^ s < W ^ M * val vs ∧ val xs * 2 ^ s < W ^ (xs.length + 1) := by
  have a := val_lt hx
  have b : val xs * 2 ^ s < W ^ xs.length * 2 ^ s := Int.mul_lt_mul_of_pos_right a (ipow_pos s)
  have c : W ^ xs.length * 2 ^ s ≤ W ^ xs.length * 2 ^ 63 := Int.mul_le_mul_of_nonneg_left (ipow_le (by omega)) (Int.le_of_lt (Wpow_pos _))
  have d : W ^ M * (2:Int) ^ (64 * n - 1) ≤ W ^ M * val vs := Int.mul_le_mul_of_nonneg_left h (Int.le_of_lt (Wpow_pos _))
  have e : W ^ xs.length * 2 ^ 63 = W ^ M * (2:Int) ^ (64 * n - 1) := by
    rw [Wpow_eq, Wpow_eq, ← Int.pow_add, ← Int.pow_add]
    congr 1; omega
  have f : W ^ xs.length * 2 ^ 63 ≤ W ^ (xs.length + 1) := by
    rw [Wpow_eq, Wpow_eq, ← Int.pow_add]; exact ipow_le (by omega)
  exact ⟨by omega, by omega⟩
def Pass (P : Program) (Q : Exit → Act → World → Prop) (c : Code) (J : Nat → Nat → Act → World → Prop) (l : Nat) : Prop :=
  ∃ R, findLabel c l = some (Code.skip.seq R) ∧ ∀ m a w, J m l a w → R.wp P (jumpTo (fun l' a' w' => ∃ m', m' < m ∧ J m' l' a' w') Q) a w
theorem Pass.use {P : Program} {Q : Exit → Act → World → Prop} {c : Code} {J : Nat → Nat → Act → World → Prop} {l : Nat} (h : Pass P Q c J l) {R : Code} (hf : findLabel c l = some (Code.skip.seq R)) {m n : Nat} {a : Act} {w : World} (hJ : J m l a w) (hm : m < n) :
    R.wp P (jumpTo (fun l' a' w' => ∃ m', m' < n ∧ J m' l' a' w') Q) a w := by
  obtain ⟨R', hf', hw⟩ := h
  rw [hf] at hf'
  cases hf'
  refine wp_mono (hw m a w hJ) fun e a' w' hq => ?_
  cases e with
  | goto l' => obtain ⟨m', h1, h2⟩ := hq; exact ⟨m', by omega, h2⟩
  | _ => exact hq
theorem Pass.use0 {P : Program} {Q : Exit → Act → World → Prop} {c : Code} {J : Nat → Nat → Act → World → Prop} {l : Nat} (h : Pass P Q c J l) {R : Code} (hf : findLabel c l = some (Code.skip.seq R)) {m : Nat} {a : Act} {w : World} (hJ : J m l a w) :
    R.wp P (jumpTo (fun l' a' w' => ∃ m', J m' l' a' w') Q) a w := by
  obtain ⟨R', hf', hw⟩ := h
  rw [hf] at hf'
  cases hf'
  refine wp_mono (hw m a w hJ) fun e a' w' hq => ?_
  cases e with
  | goto l' => obtain ⟨m', h1, h2⟩ := hq; exact ⟨m', h2⟩
  | _ => exact hq
theorem wp_scope_long {P : Program} {a : Act} {w : World} {Q : Exit → Act → World → Prop} {c : Code} (J : Nat → Nat → Act → World → Prop)
    (hl : ∀ n l a w, J n l a w → l = 0 ∨ l = 1 ∨ l = 2 ∨ l = 3) (h0 : Pass P Q c J 0) (h2 : Pass P Q c J 2) (h3 : Pass P Q c J 2 → Pass P Q c J 3) (h1 : Pass P Q c J 3 → Pass P Q c J 1)
    (first : Pass P Q c J 1 → c.wp P (jumpTo (fun l a w => ∃ n, J n l a w) Q) a w) : (Code.scope c).wp P Q a w := by
  have h3' := h3 h2
  have h1' := h1 h3'
  refine wp_scope_labels J (first h1') fun n l a w hJ => ?_
  rcases hl n l a w hJ with rfl | rfl | rfl | rfl
  · obtain ⟨R, hf, hw⟩ := h0; exact ⟨_, hf, wp_seq (wp_skip (hw n a w hJ))⟩
  · obtain ⟨R, hf, hw⟩ := h1'; exact ⟨_, hf, wp_seq (wp_skip (hw n a w hJ))⟩
  · obtain ⟨R, hf, hw⟩ := h2; exact ⟨_, hf, wp_seq (wp_skip (hw n a w hJ))⟩
  · obtain ⟨R, hf, hw⟩ := h3'; exact ⟨_, hf, wp_seq (wp_skip (hw n a w hJ))⟩
end Go.Proofs.YtfpofmifmapmfaaGreatDoor

namespace Go.Proofs.YtfpofmifmapmfaaGreatDoor
open Go.RowKit Go.Proofs.YtfpofmifmapmfaaGreatDoorW.PrintLast
set_option linter.unusedVariables false
set_option linter.unusedSimpArgs false
structure LMem (w0 : World) (vs U Q : List Int) (w : World) : Prop where
  bw : Below w0.heap.size w0 w
  hv : w.heap[w0.heap.size]? = some (.cells (wv vs).toArray 36 (0, 0))
  hu : w.heap[w0.heap.size + 1]? = some (.cells (wv U).toArray 36 (0, 0))
  hq : w.heap[w0.heap.size + 2]? = some (.cells (wv Q).toArray 36 (0, 0))
def KK : Nat := 18446744073709551620
theorem KK_eq : KK = 18446744073709551620 := rfl
def dT (U : List Int) (j : Nat) : Int := val (U.drop j)
structure LIx (n j a b c N1 N2 M : Nat) : Prop where
  ea : a = j + n
  eb : a = b + 1
  ec : b = c + 1
  e1 : n = N1 + 1
  e2 : N1 = N2 + 1
  lt : a < M + n
theorem LIx.mk' {n j M : Nat} (hn : 2 ≤ n) (hj : j + 1 ≤ M) : ∃ a b c N1 N2, LIx n j a b c N1 N2 M := ⟨j + n, j + n - 1, j + n - 2, n - 1, n - 2, by omega, by omega, by omega, by omega, by omega, by omega⟩
def LAt (X V : Int) (vs : List Int) (n M : Nat) (l m jn : Nat) (U : List Int) (s6 s7 : Value) : Prop :=
  (l = 1 ∧ m = jn * KK + (KK - 1)) ∨ (l = 0 ∧ m = 0 ∧ jn = 0) ∨
  (∃ (j : Nat) (g r : Int), jn = j + 1 ∧ s6 = .int .u64 g ∧ s7 = .int .u64 r ∧ l = 3 ∧ m = jn * KK + g.toNat + 1 ∧ 0 ≤ g ∧ g ≤ 18446744073709551615 ∧ dT U j / V ≤ g ∧ 0 ≤ r ∧ r ≤ 18446744073709551615 ∧
    r = U.getD (j + n) 0 * 18446744073709551616 + U.getD (j + n - 1) 0 - g * vs.getD (n - 1) 0) ∨
  (∃ (j : Nat) (g : Int), jn = j + 1 ∧ s6 = .int .u64 g ∧ l = 2 ∧ m = jn * KK ∧ 0 ≤ g ∧ g ≤ 18446744073709551615 ∧ dT U j / V ≤ g ∧ g ≤ dT U j / V + 1)
theorem LMem.but {w0 : World} {vs U Q : List Int} {w w' : World} (h : LMem w0 vs U Q w) (k : Below w.heap.size w w') : LMem w0 vs U Q w' := by
  have h1 := heap_lt h.hv
  have h2 := heap_lt h.hu
  have h3 := heap_lt h.hq
  exact ⟨h.bw.trans (k.mono h.bw.size), by rw [k.block _ h1]; exact h.hv, by rw [k.block _ h2]; exact h.hu, by rw [k.block _ h3]; exact h.hq⟩
theorem LMem.butU {w0 : World} {vs U U' Q : List Int} {w w' : World} (h : LMem w0 vs U Q w) (k : But (w0.heap.size + 1) w w') (hu : w'.heap[w0.heap.size + 1]? = some (.cells (wv U').toArray 36 (0, 0))) : LMem w0 vs U' Q w' := by
  have h1 := heap_lt h.hv
  have h2 := heap_lt h.hu
  have h3 := heap_lt h.hq
  exact ⟨h.bw.trans (k.below (by omega) (by omega)), by rw [k.block _ h1 (by omega)]; exact h.hv, hu, by rw [k.block _ h3 (by omega)]; exact h.hq⟩
theorem LMem.setQ {w0 : World} {vs U Q : List Int} {w : World} (h : LMem w0 vs U Q w) (j : Nat) (g : Int) : LMem w0 vs U (Q.set j g) (w.setCell ⟨w0.heap.size + 2, j, none⟩ (.int .u64 g)) :=
  ⟨h.bw.setCell (by show w0.heap.size ≤ w0.heap.size + 2; omega) _, by rw [Below.heap_setCell _ _ _ _ (by show w0.heap.size ≠ w0.heap.size + 2; omega)]; exact h.hv,
   by rw [Below.heap_setCell _ _ _ _ (by show w0.heap.size + 1 ≠ w0.heap.size + 2; omega)]; exact h.hu, heap_set_row h.hq j g⟩
theorem LMem.drew {w0 : World} {vs U Q : List Int} {w : World} (h : LMem w0 vs U Q w) : LMem w0 vs U Q w.drew := ⟨h.bw.drew, h.hv, h.hu, h.hq⟩
theorem LMem.mk3 {w : World} {vs U Q : List Int} (q : Nat) : LMem w vs U Q ((((w.alloc (.cells (wv vs).toArray 36)).alloc (.cells (wv U).toArray 36)).alloc (.cells (wv Q).toArray 36)).drewN q) := by
  have e1 : (w.alloc (.cells (wv vs).toArray 36)).heap.size = w.heap.size + 1 := World.size_alloc ..
  have e2 : ((w.alloc (.cells (wv vs).toArray 36)).alloc (.cells (wv U).toArray 36)).heap.size = w.heap.size + 2 := by rw [World.size_alloc, e1]
  refine ⟨(by repeat (first | exact Below.refl _ _ | refine belowN ?_ _ | refine Below.drew ?_ | refine Below.alloc ?_ (by first | exact Nat.le_refl _ | (simp; done) | (simp; omega) | omega) _)), ?_, ?_, ?_⟩
  · rw [World.heap_drewN, alloc_heap_at, if_neg (by omega), alloc_heap_at, if_neg (by omega), alloc_heap_at, if_pos rfl]
  · rw [World.heap_drewN, alloc_heap_at, if_neg (by omega), alloc_heap_at, if_pos e1.symm]
  · rw [World.heap_drewN, alloc_heap_at, if_pos e2.symm]
theorem LMem.words {w0 : World} {vs U Q : List Int} {w : World} (h : LMem w0 vs U Q w) : WordsIn w0.heap.size (w0.heap.size + 1) w (some ⟨w0.heap.size, 0, none⟩) vs :=
  Or.inr ⟨_, 0, rfl, Nat.le_refl _, by omega, fun i hj => by rw [Nat.zero_add]; exact row_cell h.hv hj⟩
set_option maxRecDepth 100000 in
theorem list151 (t : List Value) (h : t.length = 151) : ∃ f : Nat → Value, t = [f 0, f 1, f 2, f 3, f 4, f 5, f 6, f 7, f 8, f 9, f 10, f 11, f 12, f 13, f 14, f 15, f 16, f 17, f 18, f 19, f 20, f 21, f 22, f 23, f 24, f 25, f 26, f 27, f 28, f 29, f 30, f 31, f 32, f 33, f 34, f 35, f 36, f 37, f 38, f 39, f 40, f 41, f 42, f 43, f 44, f 45, f 46, f 47, f 48, f 49, f 50, f 51, f 52, f 53, f 54, f 55, f 56, f 57, f 58, f 59, f 60, f 61, f 62, f 63, f 64, f 65, f 66, f 67, f 68, f 69, f 70, f 71, f 72, f 73, f 74, f 75, f 76, f 77, f 78, f 79, f 80, f 81, f 82, f 83, f 84, f 85, f 86, f 87, f 88, f 89, f 90, f 91, f 92, f 93, f 94, f 95, f 96, f 97, f 98, f 99, f 100, f 101, f 102, f 103, f 104, f 105, f 106, f 107, f 108, f 109, f 110, f 111, f 112, f 113, f 114, f 115, f 116, f 117, f 118, f 119, f 120, f 121, f 122, f 123, f 124, f 125, f 126, f 127, f 128, f 129, f 130, f 131, f 132, f 133, f 134, f 135, f 136, f 137, f 138, f 139, f 140, f 141, f 142, f 143, f 144, f 145, f 146, f 147, f 148, f 149, f 150] := by
  refine ⟨fun i => t.getD i undef, ?_⟩
  have e : t = (List.range 151).map (fun i => t.getD i undef) := by
    apply List.ext_getElem
    · simp [h]
    · intro i h1 h2
      simp [List.getD_eq_getElem?_getD, List.getElem?_eq_getElem h1]
  exact e.trans (by rfl)
def LJ (A B : Option Addr) (lx c ly d : Nat) (w0 : World) (X : Int) (vs : List Int) (n M : Nat) (s : Int) (m l : Nat) (a : Act) (w : World) : Prop :=
  ∃ (s6 s7 s8 s9 s10 : Value) (jn : Nat) (U Q : List Int) (t : List Value) (jz : Int),
    a = { tmps := ([.slice A lx c, .slice B ly d, undef, undef, .slice none 0 0, .slice none 0 0, s6, s7, s8, s9, s10, .int .i64 n, .int .i64 s, .slice (some ⟨w0.heap.size, 0, none⟩) n n, .slice (some ⟨w0.heap.size + 1, 0, none⟩) (M + n) (M + n), .int .i64 jz, .slice (some ⟨w0.heap.size + 2, 0, none⟩) M M] ++ t).toArray, defers := [] } ∧ t.length = 151 ∧ jz = (jn : Int) - 1 ∧
    LInv X (val vs) n M jn U Q ∧ LMem w0 vs U Q w ∧ LAt X (val vs) vs n M l m jn U s6 s7
set_option maxRecDepth 100000 in
set_option maxHeartbeats 6400000 in
theorem qLong (A B : Option Addr) (c d lo up : Nat) (xs ys : List Int) (w : World) (hx : Ws xs) (hA : WordsIn lo up w A xs) (hy : Ws ys) (hB : WordsIn lo up w B ys) (hu : up ≤ w.heap.size)
    (hn : 2 ≤ ys.length) (hyl : (limbs (val ys)).length = ys.length) (hxl : xs.length ≤ 17592186040000) (hle : ys.length ≤ xs.length) :
    Calls Tryz.prog 229 #[.slice A xs.length c, .slice B ys.length d] w fun e w' => ∃ A1 A2, e = .returned (.tuple #[.slice A1 (limbs (val xs / val ys)).length (limbs (val xs / val ys)).length, .slice A2 (limbs (val xs % val ys)).length (limbs (val xs % val ys)).length]) ∧
      FreshAt w.heap.size w' A1 (limbs (val xs / val ys)).length (limbs (val xs / val ys)) ∧ FreshAt w.heap.size w' A2 (limbs (val xs % val ys)).length (limbs (val xs % val ys)) ∧ Below w.heap.size w w' := by
  obtain ⟨M, hM⟩ : ∃ M, xs.length + 1 = M + ys.length := ⟨xs.length + 1 - ys.length, by omega⟩
  have hyp : 0 < val ys := by
    have a := val_nonneg hy
    have b := (limbs_len_zero a).2
    omega
  obtain ⟨bl1, bl2, bl3⟩ := long_start hy hn hyl
  have hS : ∃ (s : Nat) (vs : List Int) , s < 64 ∧ LDiv vs ys.length ∧ val vs = val ys * 2 ^ s ∧ blen (ys.getD (ys.length - 1) 0) = 64 - s ∧ (2:Int) ^ (64 * ys.length - 1) ≤ val vs ∧ val ys * 2 ^ s < W ^ ys.length ∧ vs = limbs (val ys * 2 ^ s) := by
    obtain ⟨s, hs⟩ : ∃ s : Nat, (s : Int) = 64 - blen (ys.getD (ys.length - 1) 0) := ⟨(64 - blen (ys.getD (ys.length - 1) 0)).toNat, by omega⟩
    obtain ⟨b1, b2⟩ := bl3 s hs
    have h0 : 0 ≤ val ys * 2 ^ s := Int.mul_nonneg (by omega) (Int.le_of_lt (ipow_pos s))
    have hl1 := limbs_len_le_of b1
    have hl2 : ys.length - 1 < (limbs (val ys * 2 ^ s)).length := limbs_len_gt_of (by
      have : W ^ (ys.length - 1) ≤ (2:Int) ^ (64 * ys.length - 1) := by rw [Wpow_eq]; exact ipow_le (by omega)
      omega)
    have hv := val_limbs h0
    exact ⟨s, _, by omega, ldiv_of (limbs_ws _) (by omega) hn (by rw [hv]; exact b2), hv, by omega, by rw [hv]; exact b2, b1, rfl⟩
  obtain ⟨s, vs, hs, hD, hV, hsl, hVt, hVl, hvs⟩ := hS
  have hXl := long_lt (xs := xs) (vs := vs) (n := ys.length) (M := M) (s := s) hx hM hs hVt hn
  have hytop := hy.getD (ys.length - 1)
  have HVS := Lib.hid hvs
  have HSL := Lib.hid hsl
  have HHV := Lib.hid hV
  clear bl3 hvs hsl
  have hMl : M ≤ 17592186040001 := by omega
  have hnl : ys.length ≤ 17592186040000 := by omega
  generalize hnn : ys.length = n at *
  have HNN := Lib.hid hnn
  clear hnn
  go_enter Tryz.func229, Tryz.ntmps229
  go_wp2
  refine wp_scope_long (LJ A B xs.length c n d w (val xs * 2 ^ s) vs n M s) ?_ ?_ ?_ ?_ ?_ ?_
  · rintro m l a wr ⟨s6, s7, s8, s9, s10, jn, U, Q, t, jz, rfl, ht, rfl, hI, hMem, hL⟩
    rcases hL with ⟨rfl, hm⟩ | ⟨rfl, hm, hj0⟩ | ⟨j, g, r, rfl, rfl, rfl, rfl, hm, hg0, hg1, hg2, hr0, hr1, hr2⟩ | ⟨j, g, rfl, rfl, rfl, hm, hg0, hg1, hg2, hg3⟩ <;> simp
  · refine ⟨_, rfl, ?_⟩
    rintro m a wr ⟨s6, s7, s8, s9, s10, jn, U, Q, t, jz, rfl, ht, rfl, hI, hMem, hL⟩
    obtain ⟨f, rfl⟩ := list151 t ht
    clear ht
    have hL3 : jn = 0 := by
      rcases hL with ⟨h, _⟩ | ⟨_, _, h⟩ | ⟨j, g, r, h1, h2, h3, h4, h5⟩ | ⟨j, g, h1, h2, h, h3⟩
      · simp at h
      · exact h
      · simp at h4
      · simp at h
    clear hL
    subst hL3
    have hvp : 0 < val vs := by have := ipow_pos (64 * n - 1); omega
    obtain ⟨hdq, hdr⟩ := hI.done hvp
    have hUlt := hI.lt
    simp only [Int.pow_zero, Int.one_mul] at hUlt
    have hvlt := hD.lt
    have htk : val (U.take n) = val U := by
      have a := val_take_drop U n (by rw [hI.lenU]; omega)
      have b := val_nonneg (hI.wsU.take n)
      have c := val_nonneg (hI.wsU.drop n)
      by_cases z : val (U.drop n) = 0
      · rw [z] at a; omega
      · have := Int.mul_le_mul_of_nonneg_left (show 1 ≤ val (U.drop n) by omega) (Int.le_of_lt (Wpow_pos n))
        omega
    obtain ⟨hs1, hs2⟩ := scale_div (a := val xs) (b := val ys) (P := 2 ^ s) (ipow_pos s) hyp (val_nonneg hx)
    have HQ : Hid (val Q = val xs / val ys) := by show val Q = _; rw [← hs1, ← hdq, hV]
    have HR : Hid (val (U.take n) / 2 ^ s = val xs % val ys) := by
      show val (U.take n) / 2 ^ s = _
      rw [htk, ← hdr, hV, hs2, Int.mul_ediv_cancel _ (by have := ipow_pos s; omega)]
    clear hdq hdr hUlt hvlt htk hs1 hs2
    have hN := nNorm (some ⟨w.heap.size + 2, 0, none⟩) M 0 wr.heap.size Q wr.drew hI.wsQ (Or.inr ⟨_, 0, rfl, Nat.zero_le _, heap_lt hMem.hq, fun i hj => by rw [Nat.zero_add]; exact row_cell (w := wr) hMem.hq hj⟩) (Nat.le_refl _) (by rw [hI.lenQ]; omega)
    rw [hI.lenQ, HQ.out] at hN
    have HN := Lib.hid hN
    have hgu := heap_lt hMem.hu
    have hsh := fun (o : Obj) => qShr (some ⟨w.heap.size + 1, 0, none⟩) (M + n) 0 wr.heap.size (U.take n) s (wr.drew.alloc o) (hI.wsU.take n) (Or.inr ⟨_, 0, rfl, Nat.zero_le _, hgu, fun i hj => by
      rw [Nat.zero_add]
      rw [List.length_take] at hj
      have e : (wr.drew.alloc o).heap[w.heap.size + 1]? = some (.cells (wv U).toArray 36 (0, 0)) := by rw [alloc_heap_at, if_neg (by show w.heap.size + 1 ≠ wr.heap.size; omega)]; exact hMem.hu
      rw [row_cell e (by omega), List.getD_eq_getElem?_getD, List.getD_eq_getElem?_getD, List.getElem?_take, if_pos (by omega)]⟩) (by rw [World.size_alloc]; show wr.heap.size ≤ wr.heap.size + 1; omega) (by rw [List.length_take]; omega) hs
    rw [List.length_take, Nat.min_eq_left (by rw [hI.lenU]; omega), HR.out] at hsh
    have HSH := Lib.hid hsh
    have hbw := hMem.bw
    clear hN hsh
    have hnM : (n : Int) ≤ (M : Int) + (n : Int) := by omega
    go_wp2_with (fail)
    refine start_ (n := 9) (S := fun w' => True) (ds := []) (bt 9 0) (by kernel_rfl) rfl rfl (trivial) (fun hHeld => ?_)
    refine pv_ 0 161 ?_
    refine pv_ 2 163 ?_
    refine pv_ 3 164 ?_
    refine pv_ 4 165 ?_
    refine pv_ 5 166 ?_
    refine ca_ 1 162 Tryz.func147 #[.slice (some ⟨w.heap.size + 2, 0, none⟩) M M] ?_
    with_reducible refine (HN.out).mono ?_
    rintro e w' ⟨rfl, rfl⟩
    refine ⟨_, rfl, (by exact hHeld), fun hHeld => ?_⟩
    refine nn ?_
    refine ca_ 6 167 Tryz.func259 #[.slice (some ⟨w.heap.size + 1, 0, none⟩) n (M + n), .int .i64 s] ?_
    with_reducible refine (HSH.out _).mono ?_
    rintro e w' ⟨A2, rfl, hF2, hb2⟩
    refine ⟨_, rfl, (by exact hHeld), fun hHeld => ?_⟩
    refine nn ?_
    refine pv_ 7 4 ?_
    refine pv_ 8 5 ?_
    refine done_ (by kernel_rfl) ?_
    go_wp2
    simp only [jumpTo]
    go_ret2
    have hbs := hbw.size
    have hb0 : Below w.heap.size w (wr.drew.alloc (.cells (wv (limbs (val xs / val ys))).toArray 36)) := (hbw.drew).alloc hbs _
    have hs1 : w.heap.size ≤ (wr.drew.alloc (.cells (wv (limbs (val xs / val ys))).toArray 36)).heap.size := hb0.size
    refine ⟨_, A2, rfl, ?_, hF2.wide hs1, hb0.trans (hb2.mono hs1)⟩
    exact (FreshAt.row (lo := w.heap.size) (w := wr.drew.alloc (.cells (wv (limbs (val xs / val ys))).toArray 36)) (g := wr.heap.size) hbs (by rw [alloc_heap_at]; exact if_pos rfl)).keep (Keep.of hb2 (Nat.le_refl _)) (Nat.le_refl _)
  · refine ⟨_, rfl, ?_⟩
    rintro m a wr ⟨s6, s7, s8, s9, s10, jn, U, Q, t, jz, rfl, ht, rfl, hI, hMem, hL⟩
    obtain ⟨f, rfl⟩ := list151 t ht
    clear ht
    have hL3 : ∃ (j : Nat) (g : Int), jn = j + 1 ∧ s6 = .int .u64 g ∧ m = jn * KK ∧ 0 ≤ g ∧ g ≤ 18446744073709551615 ∧ dT U j / val vs ≤ g ∧ g ≤ dT U j / val vs + 1 := by
      rcases hL with ⟨h, _⟩ | ⟨h, _⟩ | ⟨j, g, r, h1, h2, h3, h4, h5⟩ | ⟨j, g, h1, h2, h, h3⟩
      · simp at h
      · simp at h
      · simp at h4
      · exact ⟨j, g, h1, h2, h3⟩
    clear hL
    obtain ⟨j, g, rfl, rfl, hm, hg0, hg1, hg2, hg3⟩ := hL3
    have HM := Lib.hid hm
    have HG2 := Lib.hid hg2
    have HG3 := Lib.hid hg3
    clear hm hg2 hg3
    rw [show (((j + 1 : Nat) : Int) - 1) = (j : Int) by omega]
    have hjM := hI.le
    have hlenU := hI.lenU
    have hlenV := hD.len
    have HLU := Lib.hid hlenU
    have HLV := Lib.hid hlenV
    have hgq := heap_lt hMem.hq
    have hWv := hMem.words
    have hcap : j ≤ M + n := by omega
    have hcap2 : j + n + 1 ≤ M + n := by omega
    clear hlenU hlenV
    have hT := qTake (w.heap.size + 1) j (M + n - j) U (some ⟨w.heap.size, 0, none⟩) n w.heap.size (w.heap.size + 1) vs g wr hI.wsU hMem.hu (by rw [HLU.out, HLV.out]; omega) hD.ws hWv (by omega) (by omega) hg0 hg1 (by rw [HLU.out]; omega)
    rw [HLV.out] at hT
    have HT := Lib.hid hT
    clear hT
    go_wp2_with (fail)
    rw [show j + n + 1 - j = n + 1 by omega]
    refine HT.out.mono ?_
    rintro e w2 ⟨V1, bb, rfl, hw1, hl1, hd1, hb0, hb1, hv1, hgu, hbut⟩
    have hMem2 := hMem.butU hbut hgu
    rcases (show bb = 0 ∨ bb = 1 by omega) with rfl | rfl
    · obtain ⟨hgq2, hI2⟩ := hI.take0 hD hw1 hl1 HG2.out HG3.out hv1
      have hcq := row_cell hMem2.hq (k := j) (by rw [hI.lenQ]; omega)
      have hfq := free_of_cells hMem2.hq j
      have HMM := Lib.hid (hMem2.setQ j g)
      have HV1 := Lib.hid hv1
      have HGQ := Lib.hid hgq2
      have HL1 := Lib.hid hl1
      have HD1 := Lib.hid hd1
      have HGU := Lib.hid hgu
      clear hv1 hgq2 hl1 hd1 hgu
      go_wp2_with (fail)
      go_step3
      show ∃ m', m' < m ∧ LJ A B xs.length c n d w (val xs * 2 ^ s) vs n M s m' 1 _ _
      refine ⟨j * KK + (KK - 1), by rw [HM.out, Nat.add_mul]; have := KK_eq; omega, ?_⟩
      exact ⟨_, _, _, _, _, j, V1, Q.set j g, _, _, rfl, (by rfl), rfl, hI2, HMM.out, Or.inl ⟨rfl, rfl⟩⟩
    · have HV1 := Lib.hid hv1
      have HL1 := Lib.hid hl1
      have HD1 := Lib.hid hd1
      have HGU := Lib.hid hgu
      clear hv1 hl1 hd1 hgu
      have hgq2 := heap_lt hMem2.hq
      have hG := qGive (w.heap.size + 1) j (M + n - j) V1 (some ⟨w.heap.size, 0, none⟩) n w.heap.size (w.heap.size + 1) vs w2 hw1 hMem2.hu (by rw [HL1.out, HLU.out, HLV.out]; omega) hD.ws hMem2.words (by omega) (by omega) (by rw [HL1.out, HLU.out]; omega)
      rw [HLV.out] at hG
      have HG := Lib.hid hG
      clear hG
      have hgp : 1 ≤ g := by
        by_cases h : 1 ≤ g
        · exact h
        · exfalso
          have h0 : g = 0 := by omega
          have e := HV1.out
          rw [h0] at e
          have n1 := val_nonneg hI.wsU
          have hi := hI.high hD
          have l1 := val_take_drop V1 (j + n + 1) (by rw [HL1.out, HLU.out]; omega)
          have l2 := val_lt (hw1.take (j + n + 1))
          rw [List.length_take, Nat.min_eq_left (by rw [HL1.out, HLU.out]; omega)] at l2
          have hd1 := HD1.out
          rw [hd1, hi] at l1
          omega
      go_wp2_with (fail)
      rw [show j + n + 1 - j = n + 1 by omega]
      refine HG.out.mono ?_
      rintro e w3 ⟨V2, cc, rfl, hw2, hl2, hd2, hc0, hv2, hgu2, hbut2⟩
      have hMem3 := hMem2.butU hbut2 hgu2
      obtain ⟨hgq3, hI2⟩ := hI.take1 hD hw1 HL1.out HD1.out hw2 hl2 hd2 HG2.out HG3.out HV1.out hc0 hv2
      have hcq := row_cell hMem3.hq (k := j) (by rw [hI.lenQ]; omega)
      have hfq := free_of_cells hMem3.hq j
      have HMM := Lib.hid (hMem3.setQ j (g - 1))
      have HV2 := Lib.hid hv2
      have HGQ := Lib.hid hgq3
      have HL2 := Lib.hid hl2
      have HD2 := Lib.hid hd2
      have HGU2 := Lib.hid hgu2
      clear hv2 hgq3 hl2 hd2 hgu2
      go_wp2_with (fail)
      go_step3
      show ∃ m', m' < m ∧ LJ A B xs.length c n d w (val xs * 2 ^ s) vs n M s m' 1 _ _
      refine ⟨j * KK + (KK - 1), by rw [HM.out, Nat.add_mul]; have := KK_eq; omega, ?_⟩
      exact ⟨_, _, _, _, _, j, V2, Q.set j (g - 1), _, _, rfl, (by rfl), rfl, hI2, HMM.out, Or.inl ⟨rfl, rfl⟩⟩
  · intro h2
    refine ⟨_, rfl, ?_⟩
    rintro m a wr ⟨s6, s7, s8, s9, s10, jn, U, Q, t, jz, rfl, ht, rfl, hI, hMem, hL⟩
    obtain ⟨f, rfl⟩ := list151 t ht
    clear ht
    have hL3 : ∃ (j : Nat) (g r : Int), jn = j + 1 ∧ s6 = .int .u64 g ∧ s7 = .int .u64 r ∧ m = jn * KK + g.toNat + 1 ∧ 0 ≤ g ∧ g ≤ 18446744073709551615 ∧ dT U j / val vs ≤ g ∧ 0 ≤ r ∧ r ≤ 18446744073709551615 ∧
      r = U.getD (j + n) 0 * 18446744073709551616 + U.getD (j + n - 1) 0 - g * vs.getD (n - 1) 0 := by
      rcases hL with ⟨h, _⟩ | ⟨h, _⟩ | ⟨j, g, r, h1, h2, h3, h4, h5⟩ | ⟨j, g, _, _, h, _⟩
      · simp at h
      · simp at h
      · exact ⟨j, g, r, h1, h2, h3, h5⟩
      · simp at h
    clear hL
    obtain ⟨j, g, r, rfl, rfl, rfl, hm, hg0, hg1, hg2, hr0, hr1, hr2⟩ := hL3
    obtain ⟨a, b, c0, N1, N2, hix⟩ := LIx.mk' (n := n) (j := j) (M := M) hD.n2 hI.le
    have HM := Lib.hid hm
    have HR2 := Lib.hid hr2
    have HG2 := Lib.hid hg2
    clear hm hr2 hg2
    rw [show (((j + 1 : Nat) : Int) - 1) = (j : Int) by omega]
    have hlt := hix.lt
    have hjM := hI.le
    have hlenU := hI.lenU
    have hlenV := hD.len
    have ea := hix.ea
    have eb := hix.eb
    have ec := hix.ec
    have e1 := hix.e1
    have e2 := hix.e2
    have i1 : (n : Int) - 1 = (N1 : Int) := by omega
    have i2 : (n : Int) - 2 = (N2 : Int) := by omega
    have i3 : (j : Int) + (n : Int) = (a : Int) := by omega
    have i4 : (a : Int) - 1 = (b : Int) := by omega
    have i5 : (a : Int) - 2 = (c0 : Int) := by omega
    have hv1 := hD.ws.getD N1
    have hv2 := hD.ws.getD N2
    have ht0 := hI.wsU.getD a
    have ht1 := hI.wsU.getD b
    have ht2 := hI.wsU.getD c0
    have hK := hI.kin hD
    rw [show n - 2 = N2 by omega, show n - 1 = N1 by omega, show j + n - 2 = c0 by omega, show j + n - 1 = b by omega, show j + n = a by omega] at hK
    generalize hgv1 : vs.getD N1 0 = v1 at *
    generalize hgv2 : vs.getD N2 0 = v2 at *
    generalize hgt0 : U.getD a 0 = t0 at *
    generalize hgt1 : U.getD b 0 = t1 at *
    generalize hgt2 : U.getD c0 0 = t2 at *
    have HV1 := Lib.hid hgv1
    have HV2 := Lib.hid hgv2
    have HT0 := Lib.hid hgt0
    have HT1 := Lib.hid hgt1
    have HT2 := Lib.hid hgt2
    have cV2 : wr.cell? ⟨w.heap.size, N2, none⟩ = some (.int .u64 v2) := by have := row_cell hMem.hv (k := N2) (by omega); rwa [HV2.out] at this
    have hN1n : N1 < n := by omega
    have hN2n : N2 < n := by omega
    have haM : a < M + n := by omega
    have hbM : b < M + n := by omega
    have hcM : c0 < M + n := by omega
    have EA := Lib.hid ea
    have EB := Lib.hid eb
    have EC := Lib.hid ec
    have E1 := Lib.hid e1
    have E2 := Lib.hid e2
    have HLU := Lib.hid hlenU
    have HLV := Lib.hid hlenV
    clear hgv1 hgv2 hgt0 hgt1 hgt2 ea eb ec e1 e2 hlt
    have hp0 : 0 ≤ g * v2 := Int.mul_nonneg hg0 hv2.1
    have hp1 : g * v2 ≤ 340282366920938463426481119284349108225 := Int.le_trans (Int.mul_le_mul hg1 hv2.2 hv2.1 (by omega)) (by decide)
    have HPP := Lib.hid (show g * v2 / 18446744073709551616 * 18446744073709551616 + g * v2 % 18446744073709551616 = g * v2 by omega)
    go_wp2_with (fail)
    refine (wMul g v2 _ hg0 hv2.1 hg1 hv2.2).mono ?_
    rintro e w2 ⟨rfl, hbb⟩
    have hMem2 := hMem.but hbb
    have cU0 : w2.cell? ⟨w.heap.size + 1, c0, none⟩ = some (.int .u64 t2) := by have := row_cell hMem2.hu (k := c0) (by omega); rwa [HT2.out] at this
    have cV1 : w2.cell? ⟨w.heap.size, N1, none⟩ = some (.int .u64 v1) := by have := row_cell hMem2.hv (k := N1) (by omega); rwa [HV1.out] at this
    clear cV2
    by_cases htest : g * v2 ≤ r * 18446744073709551616 + t2
    · have hic : icmp (g * v2 / 18446744073709551616 * 18446744073709551616 + g * v2 % 18446744073709551616) (r * 18446744073709551616 + t2) ≤ 0 := by
        rw [HPP.out]; unfold icmp; split
        · omega
        · split <;> omega
      generalize hpp : g * v2 = p at *
      have HP2 := Lib.hid hpp
      clear hpp
      go_wp2_with (go_at_call 155; refine (wCmp _ _ _ _ _ (by omega) (by omega) (by omega) (by omega)).mono ?_; rintro e w' ⟨rfl, rfl⟩)
      go_step3
      show ∃ m', m' < m ∧ LJ A B xs.length c n d w (val xs * 2 ^ s) vs n M s m' 2 _ _
      refine ⟨(j + 1) * KK, by rw [HM.out]; omega, ?_⟩
      refine ⟨_, _, _, _, _, j + 1, U, Q, _, _, rfl, (by rfl), by omega, hI, hMem2, Or.inr (Or.inr (Or.inr ⟨j, g, rfl, rfl, rfl, rfl, hg0, hg1, HG2.out, ?_⟩))⟩
      have hr2 := HR2.out
      rw [show j + n - 1 = b by have := EA.out; have := EB.out; omega, show j + n = a from EA.out.symm, show n - 1 = N1 by have := E1.out; omega, HT0.out, HT1.out, HV1.out] at hr2
      exact hK.le_succ hg0 (by rw [W_eq]; omega) (by rw [HP2.out, W_eq, ← hr2]; exact htest)
    · have hic : icmp (g * v2 / 18446744073709551616 * 18446744073709551616 + g * v2 % 18446744073709551616) (r * 18446744073709551616 + t2) = 1 := by
        rw [HPP.out]; exact icmp_gt (by omega)
      have hgpos : 1 ≤ g := by
        by_cases h : 1 ≤ g
        · exact h
        · have : g = 0 := by omega
          rw [this, Int.zero_mul] at htest; omega
      have hr2 := HR2.out
      rw [show j + n - 1 = b by have := EA.out; have := EB.out; omega, show j + n = a from EA.out.symm, show n - 1 = N1 by have := E1.out; omega, HT0.out, HT1.out, HV1.out] at hr2
      have hgt : dT U j / val vs ≤ g - 1 := by
        have h5 := HG2.out
        by_cases hh : g ≤ dT U j / val vs
        · have := (hK.of_le hg0 hh).2
          rw [W_eq, ← hr2] at this
          omega
        · omega
      have HGT := Lib.hid hgt
      have HR3 := Lib.hid hr2
      have HTE := Lib.hid htest
      clear hgt hr2 htest
      generalize hpp : g * v2 = p at *
      have HP2 := Lib.hid hpp
      clear hpp
      by_cases hcar : r + v1 < 18446744073709551616
      · have hcb : ((r + v1) / 18446744073709551616 == 0) = true := beq_iff_eq.2 (by omega)
        go_wp2_with (first | (go_at_call 155; refine (wCmp _ _ _ _ _ (by omega) (by omega) (by omega) (by omega)).mono ?_; rintro e w' ⟨rfl, rfl⟩; rw [hic]) | (go_at_call 213; refine (wAdd _ _ _ _ (by omega) (by omega) (by omega) (by omega) (by omega) (by omega)).mono ?_; rintro e w' ⟨rfl, rfl⟩))
        go_step3
        show ∃ m', m' < m ∧ LJ A B xs.length c n d w (val xs * 2 ^ s) vs n M s m' 3 _ _
        refine ⟨(j + 1) * KK + (g - 1).toNat + 1, by rw [HM.out]; omega, ?_⟩
        refine ⟨_, _, _, _, _, j + 1, U, Q, _, _, rfl, (by rfl), by omega, hI, hMem2, Or.inr (Or.inr (Or.inl ⟨j, g - 1, r + v1, rfl, vint (by omega), vint (by omega), rfl, rfl, by omega, by omega, HGT.out, by omega, by omega, ?_⟩))⟩
        rw [show j + n - 1 = b by have := EA.out; have := EB.out; omega, show j + n = a from EA.out.symm, show n - 1 = N1 by have := E1.out; omega, HT0.out, HT1.out, HV1.out, HR3.out]
        grind
      · have hcb : ((r + v1) / 18446744073709551616 == 0) = false := beq_eq_false_iff_ne.2 (by omega)
        go_wp2_with (first | (go_at_call 155; refine (wCmp _ _ _ _ _ (by omega) (by omega) (by omega) (by omega)).mono ?_; rintro e w' ⟨rfl, rfl⟩; rw [hic]) | (go_at_call 213; refine (wAdd _ _ _ _ (by omega) (by omega) (by omega) (by omega) (by omega) (by omega)).mono ?_; rintro e w' ⟨rfl, rfl⟩))
        go_step3
        simp only [Exit.then]
        apply_assumption
        refine Pass.use (n := m) h2 rfl (m := (j + 1) * KK) ?_ (by rw [HM.out]; omega)
        refine ⟨_, _, _, _, _, j + 1, U, Q, _, _, rfl, (by rfl), by omega, hI, hMem2, Or.inr (Or.inr (Or.inr ⟨j, g - 1, rfl, vint (by omega), rfl, rfl, by omega, by omega, HGT.out, ?_⟩))⟩
        refine hK.le_succ (by omega) (by rw [W_eq]; omega) ?_
        have h7 : (g - 1) * v2 ≤ 18446744073709551615 * 18446744073709551615 := Int.mul_le_mul (by omega) hv2.2 hv2.1 (by omega)
        have h8 : t0 * W + t1 - (g - 1) * v1 = r + v1 := by rw [HR3.out, W_eq]; grind
        rw [h8, W_eq]
        omega
  · intro h3
    refine ⟨_, rfl, ?_⟩
    rintro m a wr ⟨s6, s7, s8, s9, s10, jn, U, Q, t, jz, rfl, ht, rfl, hI, hMem, hL⟩
    obtain ⟨f, rfl⟩ := list151 t ht
    clear ht
    have hL3 : m = jn * KK + (KK - 1) := by
      rcases hL with ⟨_, h⟩ | ⟨h, _⟩ | ⟨j, g, r, h1, h2, h3, h4, h5⟩ | ⟨j, g, h1, h2, h, h3⟩
      · exact h
      · simp at h
      · simp at h4
      · simp at h
    clear hL
    have HM := Lib.hid hL3
    clear hL3
    rcases jn with _ | j
    · go_wp2_with (fail)
      go_step3
      show ∃ m', m' < m ∧ LJ A B xs.length c n d w (val xs * 2 ^ s) vs n M s m' 0 _ _
      refine ⟨0, by rw [HM.out]; have := KK_eq; omega, ?_⟩
      exact ⟨_, _, _, _, _, 0, U, Q, _, _, rfl, (by rfl), rfl, hI, hMem, Or.inr (Or.inl ⟨rfl, rfl, rfl⟩)⟩
    obtain ⟨a, b, c0, N1, N2, hix⟩ := LIx.mk' (n := n) (j := j) (M := M) hD.n2 hI.le
    rw [show (((j + 1 : Nat) : Int) - 1) = (j : Int) by omega]
    have hlt := hix.lt
    have hjM := hI.le
    have hlenU := hI.lenU
    have hlenV := hD.len
    have ea := hix.ea
    have eb := hix.eb
    have ec := hix.ec
    have e1 := hix.e1
    have e2 := hix.e2
    have i1 : (n : Int) - 1 = (N1 : Int) := by omega
    have i2 : (n : Int) - 2 = (N2 : Int) := by omega
    have i3 : (j : Int) + (n : Int) = (a : Int) := by omega
    have i4 : (a : Int) - 1 = (b : Int) := by omega
    have i5 : (a : Int) - 2 = (c0 : Int) := by omega
    have hv1 := hD.ws.getD N1
    have hv2 := hD.ws.getD N2
    have ht0 := hI.wsU.getD a
    have ht1 := hI.wsU.getD b
    have ht2 := hI.wsU.getD c0
    have hK := hI.kin hD
    rw [show n - 2 = N2 by omega, show n - 1 = N1 by omega, show j + n - 2 = c0 by omega, show j + n - 1 = b by omega, show j + n = a by omega] at hK
    generalize hgv1 : vs.getD N1 0 = v1 at *
    generalize hgv2 : vs.getD N2 0 = v2 at *
    generalize hgt0 : U.getD a 0 = t0 at *
    generalize hgt1 : U.getD b 0 = t1 at *
    generalize hgt2 : U.getD c0 0 = t2 at *
    have HV1 := Lib.hid hgv1
    have HV2 := Lib.hid hgv2
    have HT0 := Lib.hid hgt0
    have HT1 := Lib.hid hgt1
    have HT2 := Lib.hid hgt2
    have cV2 : wr.cell? ⟨w.heap.size, N2, none⟩ = some (.int .u64 v2) := by have := row_cell hMem.hv (k := N2) (by omega); rwa [HV2.out] at this
    have hN1n : N1 < n := by omega
    have hN2n : N2 < n := by omega
    have haM : a < M + n := by omega
    have hbM : b < M + n := by omega
    have hcM : c0 < M + n := by omega
    have EA := Lib.hid ea
    have EB := Lib.hid eb
    have EC := Lib.hid ec
    have E1 := Lib.hid e1
    have E2 := Lib.hid e2
    have HLU := Lib.hid hlenU
    have HLV := Lib.hid hlenV
    clear hgv1 hgv2 hgt0 hgt1 hgt2 ea eb ec e1 e2 hlt
    have cV1 : wr.cell? ⟨w.heap.size, N1, none⟩ = some (.int .u64 v1) := by have := row_cell hMem.hv (k := N1) (by rw [HLV.out]; omega); rwa [HV1.out] at this
    have cU : wr.cell? ⟨w.heap.size + 1, a, none⟩ = some (.int .u64 t0) := by have := row_cell hMem.hu (k := a) (by rw [HLU.out]; omega); rwa [HT0.out] at this
    have cU1 : wr.cell? ⟨w.heap.size + 1, b, none⟩ = some (.int .u64 t1) := by have := row_cell hMem.hu (k := b) (by rw [HLU.out]; omega); rwa [HT1.out] at this
    have hq1 := hK.q1
    have hq0 := hK.q0
    have htop := hK.top
    have hv10 := hK.v10
    have HQ1 := Lib.hid hq1
    have HQ0 := Lib.hid hq0
    clear hq1 hq0 cV2 i2 i5
    have F1 := Lib.hid (show wrap64 ((j : Int) + (n : Int)) = (a : Int) by unfold wrap64; omega)
    have F2 := Lib.hid (show wrap64 ((n : Int) - 1) = (N1 : Int) by unfold wrap64; omega)
    have F3 := Lib.hid (show wrap64 ((a : Int) - 1) = (b : Int) by unfold wrap64; omega)
    have F0 := Lib.hid (show wrap64 (a : Int) = (a : Int) by unfold wrap64; omega)
    have F00 := Lib.hid (show wrap64 (N1 : Int) = (N1 : Int) by unfold wrap64; omega)
    have F000 := Lib.hid (show wrap64 (b : Int) = (b : Int) by unfold wrap64; omega)
    have F4 := Lib.hid (show (a : Int) < (M : Int) + (n : Int) by omega)
    have F5 := Lib.hid (show (b : Int) < (M : Int) + (n : Int) by omega)
    have F6 := Lib.hid (show (N1 : Int) < (n : Int) by omega)
    go_wp2_with (fail)
    have f1 := F1.out
    have f2 := F2.out
    have f3 := F3.out
    have f0 := F0.out
    have f00 := F00.out
    have f000 := F000.out
    have f4 := F4.out
    have f5 := F5.out
    have f6 := F6.out
    refine start_ (n := 12) (S := fun w' => w'.cell? ⟨w.heap.size + 1, a, none⟩ = some (.int .u64 t0) ∧ w'.cell? ⟨w.heap.size, N1, none⟩ = some (.int .u64 v1)) (ds := []) (bt 12 0) (by kernel_rfl) rfl rfl (⟨cU, cV1⟩) (fun hHeld => ?_)
    refine pv_ 0 45 ?_
    refine pv_ 1 46 ?_
    refine pv_ 2 47 ?_
    refine pv_ 3 48 ?_
    refine pv_ 4 49 ?_
    refine ld_ 5 50 ?_ hHeld ?_ ?_; rotate_left
    · rintro w' ⟨s1, s2⟩
      go_simp; with_reducible rfl
    refine pv_ 6 51 ?_
    refine pv_ 7 52 ?_
    refine pv_ 8 53 ?_
    refine pv_ 9 54 ?_
    refine ld_ 10 55 ?_ hHeld ?_ ?_; rotate_left
    · rintro w' ⟨s1, s2⟩
      go_simp; with_reducible rfl
    refine pv_ 11 56 ?_
    refine done_ (by kernel_rfl) ?_
    clear f1 f2 f3 f0 f00 f000
    have hdV : dT U j = val (U.drop j) := rfl
    by_cases heq : t0 = v1
    · have hbq : (t0 == v1) = true := beq_iff_eq.2 heq
      have HEQ := Lib.hid heq
      clear heq
      go_wp2_with (fail)
      have f1 := F1.out
      have f2 := F2.out
      have f3 := F3.out
      have f0 := F0.out
      have f00 := F00.out
      have f000 := F000.out
      refine start_ (n := 18) (S := fun w' => w'.cell? ⟨w.heap.size + 1, b, none⟩ = some (.int .u64 t1) ∧ w'.cell? ⟨w.heap.size, N1, none⟩ = some (.int .u64 v1)) (ds := []) (bt 18 0) (by kernel_rfl) rfl rfl (⟨cU1, cV1⟩) (fun hHeld => ?_)
      refine pv_ 0 58 ?_
      refine pv_ 1 59 ?_
      refine pv_ 2 60 ?_
      refine pv_ 3 61 ?_
      refine pv_ 4 62 ?_
      refine pv_ 5 63 ?_
      refine ld_ 6 64 ?_ hHeld ?_ ?_; rotate_left
      · rintro w' ⟨s1, s2⟩
        go_simp; with_reducible rfl
      refine pv_ 7 65 ?_
      refine pv_ 8 66 ?_
      refine pv_ 9 67 ?_
      refine pv_ 10 68 ?_
      refine ld_ 11 69 ?_ hHeld ?_ ?_; rotate_left
      · rintro w' ⟨s1, s2⟩
        go_simp; with_reducible rfl
      refine ca_ 12 70 Tryz.func213 #[.int .u64 t1, .int .u64 v1, .int .u64 0] ?_
      with_reducible refine (wAdd t1 v1 0 _ ht1.1 hv1.1 (Int.le_refl 0) ht1.2 hv1.2 (by decide)).mono ?_
      rintro e w' ⟨rfl, rfl⟩
      refine ⟨_, rfl, (by exact hHeld), fun hHeld => ?_⟩
      refine nn ?_
      refine pv_ 13 57 ?_
      refine pv_ 14 71 ?_
      refine pv_ 15 72 ?_
      refine pv_ 16 7 ?_
      refine pv_ 17 8 ?_
      refine done_ (by kernel_rfl) ?_
      clear f1 f2 f3 f0 f00 f000
      by_cases hcar : t1 + v1 < 18446744073709551616
      · have hcb : ((t1 + v1) / 18446744073709551616 == 1) = false := beq_eq_false_iff_ne.2 (by omega)
        go_wp2_with (fail)
        go_step3
        simp only [Exit.then]
        apply_assumption
        refine Pass.use (n := m) h3 rfl (m := (j + 1) * KK + (18446744073709551615 : Int).toNat + 1) ?_ (by rw [HM.out]; have := KK_eq; omega)
        refine ⟨_, _, _, _, _, j + 1, U, Q, _, _, rfl, (by rfl), by omega, hI, hMem.drew.drew, Or.inr (Or.inr (Or.inl ⟨j, 18446744073709551615, t1 + v1, rfl, rfl, vint (by omega), rfl, rfl, by omega, by omega, ?_, by omega, by omega, ?_⟩))⟩
        · have h5 := HQ1.out
          rw [W_eq] at h5
          rw [hdV]; omega
        · rw [show j + n - 1 = b by have := EA.out; have := EB.out; omega, show j + n = a from EA.out.symm, show n - 1 = N1 by have := E1.out; omega, HT0.out, HT1.out, HV1.out, HEQ.out]; omega
      · have hcb : ((t1 + v1) / 18446744073709551616 == 1) = true := beq_iff_eq.2 (by omega)
        go_wp2_with (fail)
        go_step3
        show ∃ m', m' < m ∧ LJ A B xs.length c n d w (val xs * 2 ^ s) vs n M s m' 2 _ _
        refine ⟨(j + 1) * KK, by rw [HM.out]; have := KK_eq; omega, ?_⟩
        refine ⟨_, _, _, _, _, j + 1, U, Q, _, _, rfl, (by rfl), by omega, hI, hMem.drew.drew, Or.inr (Or.inr (Or.inr ⟨j, 18446744073709551615, rfl, rfl, rfl, rfl, by omega, by omega, ?_, ?_⟩))⟩
        · have h5 := HQ1.out
          rw [W_eq] at h5
          rw [hdV]; omega
        · refine hK.le_succ (by omega) (by rw [W_eq]; omega) ?_
          rw [HEQ.out, W_eq]
          omega
    · have hlt0 : t0 < v1 := by omega
      have hbq : (t0 == v1) = false := beq_eq_false_iff_ne.2 heq
      clear heq
      have hvp : 0 < v1 := by omega
      have e0 := Int.emod_nonneg (t0 * 18446744073709551616 + t1) (show v1 ≠ 0 by omega)
      have e1 := Int.emod_lt_of_pos (t0 * 18446744073709551616 + t1) hvp
      have e2 := Int.emod_add_mul_ediv (t0 * 18446744073709551616 + t1) v1
      have e3 : 0 ≤ (t0 * 18446744073709551616 + t1) / v1 := Int.ediv_nonneg (by omega) (by omega)
      have e4 : (t0 * 18446744073709551616 + t1) / v1 < 18446744073709551616 := (Int.ediv_lt_iff_lt_mul hvp).2 (by omega)
      have hqg : dT U j / val vs ≤ (t0 * 18446744073709551616 + t1) / v1 := by
        have h5 := (hK.of_le HQ0.out (Int.le_refl _)).1
        rw [W_eq] at h5
        rw [hdV]
        exact (Int.le_ediv_iff_mul_le hvp).2 h5
      have HQG := Lib.hid hqg
      have E2' := Lib.hid e2
      clear hqg e2
      have hdiv := fun wd => wDiv t0 t1 v1 wd ht0.1 hlt0 ht1.1 ht1.2 hv1.2
      generalize (t0 * 18446744073709551616 + t1) / v1 = g at *
      generalize (t0 * 18446744073709551616 + t1) % v1 = r at *
      have HDV := Lib.hid hdiv
      clear hdiv
      go_wp2_with (fail)
      have f1 := F1.out
      have f2 := F2.out
      have f3 := F3.out
      have f0 := F0.out
      have f00 := F00.out
      have f000 := F000.out
      refine start_ (n := 25) (S := fun w' => w'.cell? ⟨w.heap.size + 1, a, none⟩ = some (.int .u64 t0) ∧ w'.cell? ⟨w.heap.size + 1, b, none⟩ = some (.int .u64 t1) ∧ w'.cell? ⟨w.heap.size, N1, none⟩ = some (.int .u64 v1)) (ds := [18]) (bt 25 0) (by kernel_rfl) rfl rfl (⟨cU, cU1, cV1⟩) (fun hHeld => ?_)
      refine pv_ 0 76 ?_
      refine pv_ 1 77 ?_
      refine pv_ 2 78 ?_
      refine pv_ 3 79 ?_
      refine pv_ 4 80 ?_
      refine ld_ 5 81 ?_ hHeld ?_ ?_; rotate_left
      · rintro w' ⟨s1, s2, s3⟩
        go_simp; with_reducible rfl
      refine pv_ 6 82 ?_
      refine pv_ 7 83 ?_
      refine pv_ 8 84 ?_
      refine pv_ 9 85 ?_
      refine pv_ 10 86 ?_
      refine pv_ 11 87 ?_
      refine ld_ 12 88 ?_ hHeld ?_ ?_; rotate_left
      · rintro w' ⟨s1, s2, s3⟩
        go_simp; with_reducible rfl
      refine pv_ 13 89 ?_
      refine pv_ 14 90 ?_
      refine pv_ 15 91 ?_
      refine pv_ 16 92 ?_
      refine ld_ 17 93 ?_ hHeld ?_ ?_; rotate_left
      · rintro w' ⟨s1, s2, s3⟩
        go_simp; with_reducible rfl
      refine last_ (i := 18) (N := some 94) (bt 25 524287) rfl rfl (by kernel_rfl) (by decide) (fun K hK => ?_)
      refine goes_ Tryz.func255 (by kernel_rfl) rfl #[.int .u64 t0, .int .u64 t1, .int .u64 v1] (by rfl) rfl rfl (by first | rfl | (simp [Act.eval]; done) | (go_simp; rfl)) ?_
      with_reducible refine (HDV.out _).mono ?_
      rintro e w' ⟨rfl, hbb⟩
      refine ⟨_, rfl, ?_⟩
      refine hK.out _ _ ?_
      clear hK K
      refine nn ?_
      refine pv_ 19 75 ?_
      refine pv_ 20 95 ?_
      refine pv_ 21 96 ?_
      refine pv_ 22 97 ?_
      refine pv_ 23 6 ?_
      refine pv_ 24 7 ?_
      refine done_ (by kernel_rfl) ?_
      clear f1 f2 f3 f0 f00 f000
      go_wp2_with (fail)
      go_step3
      simp only [Exit.then]
      apply_assumption
      refine Pass.use (n := m) h3 rfl (m := (j + 1) * KK + g.toNat + 1) ?_ (by rw [HM.out]; have := KK_eq; omega)
      refine ⟨_, _, _, _, _, j + 1, U, Q, _, _, rfl, (by rfl), by omega, hI, hMem.drew.drew.but hbb, Or.inr (Or.inr (Or.inl ⟨j, g, r, rfl, rfl, rfl, rfl, rfl, by omega, by omega, HQG.out, by omega, by omega, ?_⟩))⟩
      have e2 := E2'.out
      rw [show j + n - 1 = b by have := EA.out; have := EB.out; omega, show j + n = a from EA.out.symm, show n - 1 = N1 by have := E1.out; omega, HT0.out, HT1.out, HV1.out]
      rw [Int.mul_comm g v1]; omega
  · intro h1
    obtain ⟨N1, hN1⟩ : ∃ N1, n = N1 + 1 := ⟨n - 1, by omega⟩
    have hyN := HNN.out
    have cy := hA
    obtain ⟨bb, oo, hBeq, hb1, hb2, hcy⟩ := hB.at (i := N1) (by omega)
    subst hBeq
    have i1 : (n : Int) - 1 = (N1 : Int) := by omega
    rw [show n - 1 = N1 by omega] at hytop bl1 bl2 HSL
    have hNn : N1 < n := by omega
    generalize ys.getD N1 0 = yt at hcy hytop bl1 bl2 HSL
    have HN1 := Lib.hid hN1
    have HYN := Lib.hid hyN
    clear hN1 hyN cy
    have is : (64 : Int) - blen yt = (s : Int) := by rw [HSL.out]; omega
    have hq1 := qShl (some ⟨bb, oo, none⟩) d lo up ys s n w hy hB hu (by rw [HYN.out]; omega) hs (Or.inl HYN.out.symm) (by have := hVl; exact this)
    rw [HYN.out] at hq1
    have HQ1 := Lib.hid hq1
    clear hq1
    go_wp2_with (first | (go_at_call 186; refine (wLen yt _ hytop.1 hytop.2).mono ?_; rintro e w' ⟨rfl, rfl⟩))
    refine HQ1.out.mono ?_
    rintro e w' ⟨zs, q1, rfl, rfl, hzl, hzw, hzv⟩
    have hzs : zs = vs := by
      have e := (limbs_val hzw).1
      rw [hzv, ← HVS.out, hD.len, List.take_of_length_le (by omega)] at e
      exact e.symm
    subst hzs
    clear hzl hzw hzv
    have hA2 : WordsIn lo up ((w.alloc (.cells (wv zs).toArray 36)).drewN q1) A xs := hA.keep (((Keep.refl _ _ _).alloc hu _).drewN _)
    have hq2 := qShl A c lo up xs s (M + n) ((w.alloc (.cells (wv zs).toArray 36)).drewN q1) hx hA2 (by rw [World.heap_drewN, World.size_alloc]; omega) (by omega) hs (Or.inr hM.symm) (by rw [← hM]; exact hXl.2)
    have HQ2 := Lib.hid hq2
    clear hq2 HQ1
    have hmk := run_make_at M ((xs.length : Int) - (n : Int) + 1) (by omega) (by omega)
    go_wp2_with (fail)
    rw [show ((xs.length : Int) + 1) = ((M + n : Nat) : Int) by omega]
    refine HQ2.out.mono ?_
    rintro e w' ⟨us, q2, rfl, rfl, hul, huw, huv⟩
    have hI0 := LInv.start (X := val xs * 2 ^ s) (M := M) hD huw hul huv hXl.1
    have HI0 := Lib.hid hI0
    clear hI0 HQ2 hul huw huv
    go_wp2_with (fail)
    go_step3
    simp only [Exit.then]
    apply_assumption
    refine Pass.use0 h1 rfl (m := M * KK + (KK - 1)) ?_
    refine ⟨_, _, _, _, _, M, us, zw M, _, _, rfl, (by rfl), by omega, HI0.out, LMem.mk3 _, Or.inl ⟨rfl, rfl⟩⟩
end Go.Proofs.YtfpofmifmapmfaaGreatDoor

namespace Go.Proofs.YtfpofmifmapmfaaGreatDoor
open Go.RowKit Go.Proofs.YtfpofmifmapmfaaGreatDoorW.PrintLast
set_option linter.unusedVariables false
set_option linter.unusedSimpArgs false
theorem two_blocks (w : World) (o1 o2 : Obj) : ((w.alloc o1).alloc o2).heap[w.heap.size]? = some o1 ∧ ((w.alloc o1).alloc o2).heap[w.heap.size + 1]? = some o2 := by
  have e1 : (w.alloc o1).heap.size = w.heap.size + 1 := World.size_alloc ..
  refine ⟨?_, ?_⟩
  · rw [alloc_heap_at, if_neg (by omega), alloc_heap_at, if_pos rfl]
  · rw [alloc_heap_at, if_pos e1.symm]
set_option maxRecDepth 100000 in
set_option maxHeartbeats 3200000 in
theorem qDivMod (A B : Option Addr) (c d lo up : Nat) (xs ys : List Int) (w : World) (hx : Ws xs) (hA : WordsIn lo up w A xs) (hy : Ws ys) (hB : WordsIn lo up w B ys) (hu : up ≤ w.heap.size)
    (hy0 : 0 < val ys) (hxl : xs.length ≤ 17592186040000) (hyl : ys.length ≤ 17592186040000) :
    Calls Tryz.prog 193 #[.slice A xs.length c, .slice B ys.length d] w fun e w' => ∃ A1 A2, e = .returned (.tuple #[.slice A1 (limbs (val xs / val ys)).length (limbs (val xs / val ys)).length, .slice A2 (limbs (val xs % val ys)).length (limbs (val xs % val ys)).length, .int .i64 0]) ∧
      FreshAt w.heap.size w' A1 (limbs (val xs / val ys)).length (limbs (val xs / val ys)) ∧ FreshAt w.heap.size w' A2 (limbs (val xs % val ys)).length (limbs (val xs % val ys)) ∧ Below w.heap.size w w' := by
  have hx0 := val_nonneg hx
  have hLx := limbs_len_le hx
  have hLy := limbs_len_le hy
  have hX := limbs_ws (val xs)
  have hY := limbs_ws (val ys)
  have hVX := Lib.hid (val_limbs hx0)
  have hVY := Lib.hid (val_limbs (Int.le_of_lt hy0))
  have hLy0 : 0 < (limbs (val ys)).length := by have := (limbs_len_zero (Int.le_of_lt hy0)).1; omega
  have hb0 : ((((limbs (val ys)).length : Nat) : Int) == 0) = false := beq_eq_false_iff_ne.2 (by omega)
  have hNx := nNorm A c lo up xs w hx hA hu (by omega)
  have hB2 : WordsIn lo up (w.alloc (.cells (wv (limbs (val xs))).toArray 36 (0, 0))) B ys := hB.keep ((Keep.refl _ _ _).alloc hu _)
  have hNy := nNorm B d lo up ys (w.alloc (.cells (wv (limbs (val xs))).toArray 36 (0, 0))) hy hB2 (by rw [World.size_alloc]; omega) (by omega)
  rw [World.size_alloc] at hNy
  have HNx := Lib.hid hNx
  have HNy := Lib.hid hNy
  clear hNx hNy hB2
  obtain ⟨k1, k2⟩ := two_blocks w (.cells (wv (limbs (val xs))).toArray 36 (0, 0)) (.cells (wv (limbs (val ys))).toArray 36 (0, 0))
  have hW1 : WordsIn w.heap.size (w.heap.size + 2) ((w.alloc (.cells (wv (limbs (val xs))).toArray 36 (0, 0))).alloc (.cells (wv (limbs (val ys))).toArray 36 (0, 0))) (some ⟨w.heap.size, 0, none⟩) (limbs (val xs)) :=
    Or.inr ⟨_, 0, rfl, Nat.le_refl _, by omega, fun i hj => by rw [Nat.zero_add]; exact row_cell k1 hj⟩
  have hW2 : WordsIn w.heap.size (w.heap.size + 2) ((w.alloc (.cells (wv (limbs (val xs))).toArray 36 (0, 0))).alloc (.cells (wv (limbs (val ys))).toArray 36 (0, 0))) (some ⟨w.heap.size + 1, 0, none⟩) (limbs (val ys)) :=
    Or.inr ⟨_, 0, rfl, by omega, by omega, fun i hj => by rw [Nat.zero_add]; exact row_cell k2 hj⟩
  have hF1 : FreshAt w.heap.size ((w.alloc (.cells (wv (limbs (val xs))).toArray 36 (0, 0))).alloc (.cells (wv (limbs (val ys))).toArray 36 (0, 0))) (some ⟨w.heap.size, 0, none⟩) (limbs (val xs)).length (limbs (val xs)) := FreshAt.row (Nat.le_refl _) k1
  have hbw : Below w.heap.size w ((w.alloc (.cells (wv (limbs (val xs))).toArray 36 (0, 0))).alloc (.cells (wv (limbs (val ys))).toArray 36 (0, 0))) := (by repeat (first | exact Below.refl _ _ | refine belowN ?_ _ | refine Below.drew ?_ | refine Below.alloc ?_ (by first | exact Nat.le_refl _ | (simp; done) | (simp; omega) | omega) _))
  have hsz : ((w.alloc (.cells (wv (limbs (val xs))).toArray 36 (0, 0))).alloc (.cells (wv (limbs (val ys))).toArray 36 (0, 0))).heap.size = w.heap.size + 2 := by rw [World.size_alloc, World.size_alloc]
  have HW2 := Lib.hid (show ∃ W2, W2 = ((w.alloc (.cells (wv (limbs (val xs))).toArray 36 (0, 0))).alloc (.cells (wv (limbs (val ys))).toArray 36 (0, 0))) from ⟨_, rfl⟩)
  have hcmp := nCmp (some ⟨w.heap.size, 0, none⟩) (some ⟨w.heap.size + 1, 0, none⟩) (limbs (val xs)).length (limbs (val ys)).length w.heap.size (w.heap.size + 2) w.heap.size (w.heap.size + 2) (limbs (val xs)) (limbs (val ys)) _ hX hW1 hY hW2 (by omega) (by omega)
  rw [hVX.out, hVY.out] at hcmp
  have HC := Lib.hid hcmp
  clear hcmp
  by_cases hlt : val xs < val ys
  · have hic := icmp_lt hlt
    have HQ := Lib.hid (Int.ediv_eq_zero_of_lt hx0 hlt)
    have HR := Lib.hid (Int.emod_eq_of_lt hx0 hlt)
    have HSZ := Lib.hid hsz
    clear hlt k1 k2 hsz
    rw [HQ.out, HR.out]
    go_enter Tryz.func193, Tryz.ntmps193
    go_wp2_with (first | (go_at_call_of 147 (Value.slice A xs.length c); refine HNx.out.mono ?_; rintro e w' ⟨rfl, rfl⟩) | (go_at_call_of 147 (Value.slice B ys.length d); refine HNy.out.mono ?_; rintro e w' ⟨rfl, rfl⟩) | (go_at_call 96; refine HC.out.mono ?_; rintro e w' ⟨rfl, q, rfl⟩))
    go_ways
    go_ret3
    rw [limbs_zero]
    exact ⟨none, some ⟨w.heap.size, 0, none⟩, rfl, Or.inl ⟨rfl, rfl, rfl⟩, hF1.keep (up := w.heap.size + 2) ((Keep.refl _ _ _).drewN q) (Nat.le_of_eq HSZ.out), belowN hbw q⟩
  · obtain ⟨v, hic, hv0⟩ : ∃ v, icmp (val xs) (val ys) = v ∧ 0 ≤ v := by
      by_cases he : val xs = val ys
      · exact ⟨0, icmp_eq he, Int.le_refl _⟩
      · exact ⟨1, icmp_gt (by omega), by omega⟩
    have hvn : decide (v < 0) = false := decide_eq_false (by omega)
    rw [hic] at HC
    have hmo : (limbs (val ys)).length ≤ (limbs (val xs)).length := limbs_mono (by omega) (by omega)
    have HMO := Lib.hid hmo
    clear hic hmo
    by_cases h1 : (limbs (val ys)).length = 1
    · obtain ⟨a, ha⟩ := List.length_eq_one_iff.1 h1
      have hya : a = val ys := by have := hVY.out; rw [ha] at this; simpa [val_cons, val_nil] using this
      have hya2 := (hY.getD 0)
      rw [ha] at hya2
      simp only [List.getD_cons_zero] at hya2
      have hcell : ((w.alloc (.cells (wv (limbs (val xs))).toArray 36 (0, 0))).alloc (.cells (wv (limbs (val ys))).toArray 36 (0, 0))).cell? ⟨w.heap.size + 1, 0, none⟩ = some (.int .u64 a) := by
        rw [row_cell k2 (k := 0) (by omega), ha]; rfl
      have hS : ∀ q, Calls Tryz.prog 228 #[.slice (some ⟨w.heap.size, 0, none⟩) (limbs (val xs)).length (limbs (val xs)).length, .int .u64 a] (((w.alloc (.cells (wv (limbs (val xs))).toArray 36 (0, 0))).alloc (.cells (wv (limbs (val ys))).toArray 36 (0, 0))).drewN q) fun e w' => ∃ A1, e = .returned (.tuple #[.slice A1 (limbs (val xs / val ys)).length (limbs (val xs / val ys)).length, .int .u64 (val xs % val ys), .int .i64 0]) ∧ FreshAt (w.heap.size + 2) w' A1 (limbs (val xs / val ys)).length (limbs (val xs / val ys)) ∧ Below (w.heap.size + 2) ((w.alloc (.cells (wv (limbs (val xs))).toArray 36 (0, 0))).alloc (.cells (wv (limbs (val ys))).toArray 36 (0, 0))) w' := fun q => by
        have := qSmall (some ⟨w.heap.size, 0, none⟩) (limbs (val xs)).length w.heap.size (w.heap.size + 2) (limbs (val xs)) a (((w.alloc (.cells (wv (limbs (val xs))).toArray 36 (0, 0))).alloc (.cells (wv (limbs (val ys))).toArray 36 (0, 0))).drewN q) hX hW1 (Nat.le_of_eq hsz.symm) (by omega) (by omega) (by omega)
        rw [hVX.out, hya] at this
        rw [hya]
        refine this.mono ?_
        rintro e w' ⟨A1, h1, h2, h3⟩
        rw [show (((w.alloc (.cells (wv (limbs (val xs))).toArray 36 (0, 0))).alloc (.cells (wv (limbs (val ys))).toArray 36 (0, 0))).drewN q).heap.size = w.heap.size + 2 from hsz] at h2 h3
        exact ⟨A1, h1, h2, ⟨h3.os, h3.tape, h3.output, h3.size, h3.block⟩⟩
      have HS := Lib.hid hS
      have HA := Lib.hid hya
      have hr0 := Int.emod_nonneg (val xs) (show val ys ≠ 0 by omega)
      have hr1 := Int.emod_lt_of_pos (val xs) hy0
      have hr2 : val xs % val ys ≤ 18446744073709551615 := by omega
      have HSZ := Lib.hid hsz
      have HB := Lib.hid hbw
      have HL1 := Lib.hid h1
      have hb1 : ((((limbs (val ys)).length : Nat) : Int) == 1) = true := beq_iff_eq.2 (by omega)
      have HA1 := Lib.hid ha
      clear hS hya ha h1 hsz k1 k2 hF1 hW1 hW2 hbw
      go_enter Tryz.func193, Tryz.ntmps193
      go_wp2_with (first | (go_at_call_of 147 (Value.slice A xs.length c); refine HNx.out.mono ?_; rintro e w' ⟨rfl, rfl⟩) | (go_at_call_of 147 (Value.slice B ys.length d); refine HNy.out.mono ?_; rintro e w' ⟨rfl, rfl⟩) | (go_at_call 96; refine HC.out.mono ?_; rintro e w' ⟨rfl, q, rfl⟩) | (go_at_call 228; trace_state; fail_if_success skip; refine (HS.out _).mono ?_; rintro e w' ⟨A1, rfl, hf1, hb1⟩) | (go_at_call 88; refine (nFrom (val xs % val ys) _ hr0 hr2).mono ?_; rintro e w2 ⟨rfl, rfl⟩))
      refine (HS.out _).mono ?_
      rintro e w' ⟨A1, rfl, hf1, hbl⟩
      go_wp2_with (first | (go_at_call 88; refine (nFrom (val xs % val ys) _ hr0 hr2).mono ?_; rintro e w2 ⟨rfl, rfl⟩))
      go_ways
      go_ret3
      have hsz := HSZ.out
      have hs2 := hbl.size
      rw [hsz] at hs2
      refine ⟨A1, some ⟨w'.heap.size + 1, 0, none⟩, rfl, ?_, ?_, ?_⟩
      · exact (hf1.wide (by omega)).keep (up := w'.heap.size) (((Keep.refl _ _ _).alloc (Nat.le_refl _) _).alloc (by rw [World.size_alloc]; omega) _) (Nat.le_refl _)
      · exact FreshAt.row (by omega) (by rw [alloc_heap_at, if_pos (by rw [World.size_alloc])])
      · exact ((HB.out.trans (hbl.mono (by omega))).alloc (by omega) _).alloc (by rw [World.size_alloc]; omega) _
    · have hL : ∀ q, Calls Tryz.prog 229 #[.slice (some ⟨w.heap.size, 0, none⟩) (limbs (val xs)).length (limbs (val xs)).length, .slice (some ⟨w.heap.size + 1, 0, none⟩) (limbs (val ys)).length (limbs (val ys)).length] (((w.alloc (.cells (wv (limbs (val xs))).toArray 36 (0, 0))).alloc (.cells (wv (limbs (val ys))).toArray 36 (0, 0))).drewN q) fun e w' => ∃ A1 A2, e = .returned (.tuple #[.slice A1 (limbs (val xs / val ys)).length (limbs (val xs / val ys)).length, .slice A2 (limbs (val xs % val ys)).length (limbs (val xs % val ys)).length]) ∧
          FreshAt w.heap.size w' A1 (limbs (val xs / val ys)).length (limbs (val xs / val ys)) ∧ FreshAt w.heap.size w' A2 (limbs (val xs % val ys)).length (limbs (val xs % val ys)) ∧ Below w.heap.size w w' := fun q => by
        have := qLong (some ⟨w.heap.size, 0, none⟩) (some ⟨w.heap.size + 1, 0, none⟩) (limbs (val xs)).length (limbs (val ys)).length w.heap.size (w.heap.size + 2) (limbs (val xs)) (limbs (val ys)) (((w.alloc (.cells (wv (limbs (val xs))).toArray 36 (0, 0))).alloc (.cells (wv (limbs (val ys))).toArray 36 (0, 0))).drewN q) hX hW1 hY hW2 (Nat.le_of_eq hsz.symm) (by omega) (by rw [hVY.out]) (by omega) HMO.out
        rw [hVX.out, hVY.out] at this
        refine this.mono ?_
        rintro e w' ⟨A1, A2, h1, h2, h3, h4⟩
        rw [show (((w.alloc (.cells (wv (limbs (val xs))).toArray 36 (0, 0))).alloc (.cells (wv (limbs (val ys))).toArray 36 (0, 0))).drewN q).heap.size = w.heap.size + 2 from hsz] at h2 h3 h4
        exact ⟨A1, A2, h1, h2.wide (by omega), h3.wide (by omega), hbw.trans ((⟨h4.os, h4.tape, h4.output, h4.size, h4.block⟩ : Below (w.heap.size + 2) ((w.alloc (.cells (wv (limbs (val xs))).toArray 36 (0, 0))).alloc (.cells (wv (limbs (val ys))).toArray 36 (0, 0))) w').mono (by omega))⟩
      have HL := Lib.hid hL
      have hb1 : ((((limbs (val ys)).length : Nat) : Int) == 1) = false := beq_eq_false_iff_ne.2 (by omega)
      clear hL hsz k1 k2 hF1 hW1 hW2 hbw
      go_enter Tryz.func193, Tryz.ntmps193
      go_wp2_with (first | (go_at_call_of 147 (Value.slice A xs.length c); refine HNx.out.mono ?_; rintro e w' ⟨rfl, rfl⟩) | (go_at_call_of 147 (Value.slice B ys.length d); refine HNy.out.mono ?_; rintro e w' ⟨rfl, rfl⟩) | (go_at_call 96; refine HC.out.mono ?_; rintro e w' ⟨rfl, q, rfl⟩) | (go_at_call 229; refine (HL.out _).mono ?_; rintro e w' ⟨A1, A2, rfl, hf1, hf2, hb1⟩))
      go_ways
      go_ret3
      exact ⟨A1, A2, rfl, hf1, hf2, hb1⟩
end Go.Proofs.YtfpofmifmapmfaaGreatDoor

namespace Go.Proofs.YtfpofmifmapmfaaGreatDoor
open Go.RowKit Go.Proofs.YtfpofmifmapmfaaGreatDoorW.PrintLast
set_option linter.unusedVariables false
set_option linter.unusedSimpArgs false
theorem gcd_step {x y : Int} (hx : 0 ≤ x) (hy : 0 < y) : Int.gcd y (x % y) = Int.gcd x y := by
  obtain ⟨m, rfl⟩ := Int.eq_ofNat_of_zero_le hx
  obtain ⟨n, rfl⟩ := Int.eq_ofNat_of_zero_le (show 0 ≤ y by omega)
  show Int.gcd (n : Int) ((m : Int) % (n : Int)) = Int.gcd (m : Int) (n : Int)
  rw [← Int.natCast_emod, Int.gcd_natCast_natCast, Int.gcd_natCast_natCast, Nat.gcd_comm m n, Nat.gcd_rec n m, Nat.gcd_comm]
theorem gcd_end {x : Int} (hx : 0 ≤ x) : ((Int.gcd x 0 : Nat) : Int) = x := by
  rw [Int.gcd_zero]; omega
set_option maxRecDepth 100000 in
set_option maxHeartbeats 3200000 in
theorem qGcd (A B : Option Addr) (c d lo up : Nat) (xs ys : List Int) (w : World) (hx : Ws xs) (hA : WordsIn lo up w A xs) (hy : Ws ys) (hB : WordsIn lo up w B ys) (hu : up ≤ w.heap.size)
    (hxl : xs.length ≤ 17592186040000) (hyl : ys.length ≤ 17592186040000) :
    Calls Tryz.prog 179 #[.slice A xs.length c, .slice B ys.length d] w fun e w' => ∃ A1, e = .returned (.slice A1 (limbs (Int.gcd (val xs) (val ys) : Nat)).length (limbs (Int.gcd (val xs) (val ys) : Nat)).length) ∧
      FreshAt w.heap.size w' A1 (limbs (Int.gcd (val xs) (val ys) : Nat)).length (limbs (Int.gcd (val xs) (val ys) : Nat)) ∧ Below w.heap.size w w' := by
  have hx0 := val_nonneg hx
  have hy0 := val_nonneg hy
  have hLx := limbs_len_le hx
  have hLy := limbs_len_le hy
  have hNx := nNorm A c lo up xs w hx hA hu (by omega)
  have hB2 : WordsIn lo up (w.alloc (.cells (wv (limbs (val xs))).toArray 36 (0, 0))) B ys := hB.keep ((Keep.refl _ _ _).alloc hu _)
  have hNy := nNorm B d lo up ys (w.alloc (.cells (wv (limbs (val xs))).toArray 36 (0, 0))) hy hB2 (by rw [World.size_alloc]; omega) (by omega)
  rw [World.size_alloc] at hNy
  have HNx := Lib.hid hNx
  have HNy := Lib.hid hNy
  clear hNx hNy hB2
  obtain ⟨k1, k2⟩ := two_blocks w (.cells (wv (limbs (val xs))).toArray 36 (0, 0)) (.cells (wv (limbs (val ys))).toArray 36 (0, 0))
  have hF1 : FreshAt w.heap.size ((w.alloc (.cells (wv (limbs (val xs))).toArray 36 (0, 0))).alloc (.cells (wv (limbs (val ys))).toArray 36 (0, 0))) (some ⟨w.heap.size, 0, none⟩) (limbs (val xs)).length (limbs (val xs)) := FreshAt.row (Nat.le_refl _) k1
  have hF2 : FreshAt w.heap.size ((w.alloc (.cells (wv (limbs (val xs))).toArray 36 (0, 0))).alloc (.cells (wv (limbs (val ys))).toArray 36 (0, 0))) (some ⟨w.heap.size + 1, 0, none⟩) (limbs (val ys)).length (limbs (val ys)) := FreshAt.row (by omega) k2
  have hbw : Below w.heap.size w ((w.alloc (.cells (wv (limbs (val xs))).toArray 36 (0, 0))).alloc (.cells (wv (limbs (val ys))).toArray 36 (0, 0))) := (by repeat (first | exact Below.refl _ _ | refine belowN ?_ _ | refine Below.drew ?_ | refine Below.alloc ?_ (by first | exact Nat.le_refl _ | (simp; done) | (simp; omega) | omega) _))
  have HS := Lib.hid (And.intro hF1 (And.intro hF2 hbw))
  clear k1 k2 hF1 hF2 hbw
  go_enter Tryz.func179, Tryz.ntmps179
  go_wp2_with (first | (go_at_call_of 147 (Value.slice A xs.length c); refine HNx.out.mono ?_; rintro e w' ⟨rfl, rfl⟩) | (go_at_call_of 147 (Value.slice B ys.length d); refine HNy.out.mono ?_; rintro e w' ⟨rfl, rfl⟩))
  go_loopg [0, 1] (val ys).toNat (fun k a b wr => ∃ (x y : Int) (A1 B1 : Option Addr), a = .slice A1 (limbs x).length (limbs x).length ∧ b = .slice B1 (limbs y).length (limbs y).length ∧ 0 ≤ x ∧ 0 ≤ y ∧ k = y.toNat ∧ Int.gcd x y = Int.gcd (val xs) (val ys) ∧
    FreshAt w.heap.size wr A1 (limbs x).length (limbs x) ∧ FreshAt w.heap.size wr B1 (limbs y).length (limbs y) ∧ Below w.heap.size w wr ∧ (limbs x).length ≤ 17592186040000 ∧ (limbs y).length ≤ 17592186040000)
  case atStart => exact ⟨val xs, val ys, _, _, rfl, rfl, hx0, hy0, rfl, rfl, HS.out.1, HS.out.2.1, HS.out.2.2, by omega, by omega⟩
  case round =>
    obtain ⟨x, y, A1, B1, rfl, rfl, h1, h2, h3, h4, h5, h6, h7, h8, h9⟩ := hrel
    have hs := h7.size
    have HG := Lib.hid h4
    have HK := Lib.hid h3
    clear h3 h4
    by_cases hy1 : y = 0
    · have hl : (limbs y).length = 0 := by rw [hy1, limbs_zero]; rfl
      have hdl : ¬ 0 < (limbs y).length := by omega
      have HY := Lib.hid hy1
      have HLY := Lib.hid hl
      clear hy1 hl
      go_wp2
      go_ret
      have hg : ((Int.gcd (val xs) (val ys) : Nat) : Int) = x := by rw [← HG.out, HY.out, gcd_end h1]
      rw [hg]
      exact ⟨A1, rfl, h5, h7⟩
    · have hyp : 0 < y := by omega
      have hl : 0 < (limbs y).length := by have := (limbs_len_zero h2).1; omega
      have hD := qDivMod A1 B1 (limbs x).length (limbs y).length w.heap.size wr.heap.size (limbs x) (limbs y) wr (limbs_ws x) h5.words (limbs_ws y) h6.words (Nat.le_refl _) (by rw [val_limbs h2]; exact hyp) h8 h9
      rw [val_limbs h1, val_limbs h2] at hD
      have HD := Lib.hid hD
      clear hD
      go_wp2_with (first | (go_at_call 193; refine HD.out.mono ?_; rintro e w' ⟨A2, A3, rfl, hf1, hf2, hb1⟩))
      have hr0 := Int.emod_nonneg x (show y ≠ 0 by omega)
      have hr1 := Int.emod_lt_of_pos x hyp
      have hm := limbs_mono hr0 (Int.le_of_lt hr1)
      go_roundg (x % y).toNat
      case measure => have := HK.out; omega
      case rel => exact ⟨y, x % y, B1, A3, rfl, rfl, h2, hr0, rfl, (gcd_step h1 hyp).trans HG.out, h6.keep (Keep.of hb1 (Nat.le_refl _)) (Nat.le_refl _), hf2.wide hs, h7.trans (hb1.mono hs), h9, by omega⟩
set_option maxRecDepth 100000 in
set_option maxHeartbeats 3200000 in
theorem qLowest (A B : Option Addr) (c d lo up : Nat) (xs ys : List Int) (w : World) (hx : Ws xs) (hA : WordsIn lo up w A xs) (hy : Ws ys) (hB : WordsIn lo up w B ys) (hu : up ≤ w.heap.size)
    (hy0 : 0 < val ys) (hxl : xs.length ≤ 17592186040000) (hyl : ys.length ≤ 17592186040000) :
    Calls Tryz.prog 151 #[.slice A xs.length c, .slice B ys.length d] w fun e w' => ∃ A1 A2, e = .returned (.tuple #[.slice A1 (limbs (val xs / (Int.gcd (val xs) (val ys) : Nat))).length (limbs (val xs / (Int.gcd (val xs) (val ys) : Nat))).length, .slice A2 (limbs (val ys / (Int.gcd (val xs) (val ys) : Nat))).length (limbs (val ys / (Int.gcd (val xs) (val ys) : Nat))).length]) ∧
      FreshAt w.heap.size w' A1 (limbs (val xs / (Int.gcd (val xs) (val ys) : Nat))).length (limbs (val xs / (Int.gcd (val xs) (val ys) : Nat))) ∧ FreshAt w.heap.size w' A2 (limbs (val ys / (Int.gcd (val xs) (val ys) : Nat))).length (limbs (val ys / (Int.gcd (val xs) (val ys) : Nat))) ∧ Below w.heap.size w w' := by
  have hG := qGcd A B c d lo up xs ys w hx hA hy hB hu hxl hyl
  have hg0 : 0 < ((Int.gcd (val xs) (val ys) : Nat) : Int) := by
    have : 0 < Int.gcd (val xs) (val ys) := Int.gcd_pos_of_ne_zero_right _ (by omega)
    omega
  have hgy : ((Int.gcd (val xs) (val ys) : Nat) : Int) ≤ val ys := Int.le_of_dvd hy0 (Int.gcd_dvd_right ..)
  have hl0 : 0 < (limbs ((Int.gcd (val xs) (val ys) : Nat) : Int)).length := by have := (limbs_len_zero (Int.le_of_lt hg0)).1; omega
  have hb0 : ((((limbs ((Int.gcd (val xs) (val ys) : Nat) : Int)).length : Nat) : Int) == 0) = false := beq_eq_false_iff_ne.2 (by omega)
  have hl1 : (limbs ((Int.gcd (val xs) (val ys) : Nat) : Int)).length ≤ 17592186040000 := by
    have a := limbs_mono (Int.le_of_lt hg0) hgy
    have b := limbs_len_le hy
    omega
  have hvg := val_limbs (Int.le_of_lt hg0)
  have hwg := limbs_ws ((Int.gcd (val xs) (val ys) : Nat) : Int)
  generalize hgg : ((Int.gcd (val xs) (val ys) : Nat) : Int) = g at *
  have HG := Lib.hid hG
  have HV := Lib.hid hvg
  clear hG hvg hgg
  go_enter Tryz.func151, Tryz.ntmps151
  go_wp2_with (first | (go_at_call 179; refine HG.out.mono ?_; rintro e w1 ⟨G, rfl, hf1, hb1⟩))
  have hs1 := hb1.size
  have hD1 := qDivMod A G c (limbs g).length 0 w1.heap.size xs (limbs g) w1 hx ((hA.keep (Keep.of hb1 hu)).wide (Nat.zero_le _) (by omega)) hwg (hf1.words.wide (Nat.zero_le _) (Nat.le_refl _)) (Nat.le_refl _) (by rw [HV.out]; exact hg0) hxl hl1
  rw [HV.out] at hD1
  have HD1 := Lib.hid hD1
  clear hD1
  go_wp2_with (first | (go_at_call_of 193 (Value.slice A xs.length c); refine HD1.out.mono ?_; rintro e w2 ⟨A2, A3, rfl, hf2, hf3, hb2⟩))
  have hs2 := hb2.size
  have hb12 := hb1.trans (hb2.mono hs1)
  have hD2 := qDivMod B G d (limbs g).length 0 w2.heap.size ys (limbs g) w2 hy ((hB.keep (Keep.of hb12 hu)).wide (Nat.zero_le _) (by omega)) hwg ((hf1.words.keep (Keep.of hb2 (Nat.le_refl _))).wide (Nat.zero_le _) (by omega)) (Nat.le_refl _) (by rw [HV.out]; exact hg0) hyl hl1
  rw [HV.out] at hD2
  have HD2 := Lib.hid hD2
  clear hD2
  go_wp2_with (first | (go_at_call 193; refine HD2.out.mono ?_; rintro e w3 ⟨A4, A5, rfl, hf4, hf5, hb3⟩))
  go_ret2
  exact ⟨A2, A4, rfl, (hf2.wide hs1).keep (Keep.of hb3 (Nat.le_refl _)) (Nat.le_refl _), hf4.wide (by omega), hb12.trans (hb3.mono (by omega))⟩
end Go.Proofs.YtfpofmifmapmfaaGreatDoor
