/- Package nat: shifts. -/
import Derived.Test.YtfpofmifmapmfaaGreatDoorWLast
import Derived.WalkKit
import Derived.Laws.BitsAllLaws
import Derived.Deep.Draws
import Derived.Test.YtfpofmifmapmfaaGreatDoorProg
import Derived.WalkSpells
import Derived.WalkLawsBesides
import Derived.Deep.QuietTactic
import Derived.BigQuiet
import Derived.KernelRfl
import Derived.Lib.Hide
import Derived.Below
import Derived.Laws.CopyOwn
import Derived.Deep.RegionWith
import Derived.BigRegion
namespace Go.Proofs.YtfpofmifmapmfaaGreatDoor
open Go.RowKit Go.Proofs.YtfpofmifmapmfaaGreatDoorW.PrintLast
set_option linter.unusedVariables false
theorem pA (t : Array Value) (d : List Deferred) (n : Nat) (v : Value) : Act.put ⟨t, d⟩ (some n) v = ⟨t.setIfInBounds n v, d⟩ := rfl
theorem pB {α : Type} (l : List α) (i : Nat) (a : α) : l.toArray.setIfInBounds i a = (l.set i a).toArray := List.setIfInBounds_toArray ..
theorem pC {α : Type} (x : α) (xs : List α) (a : α) : (x :: xs).set 0 a = a :: xs := rfl
theorem pD {α : Type} (x : α) (xs : List α) (i : Nat) (a : α) : (x :: xs).set (i + 1) a = x :: xs.set i a := rfl
section
variable {P : Program} {ops : Array Oper} {Q : Exit → Act → World → Prop} {md : Region.Mode} {S : World → Prop} {ds : List Nat}
def sb (l : Array Bool) (i : Nat) : Array Bool := l.setIfInBounds i true
theorem pu (i n : Nat) (v : Value) (a' : Act) {oi : Oper} {fuel : Nat} {l : Array Bool} {a : Act} {w : World} (hi : ops[i]? = some oi) (hN : oi.dst = some n) (hc : anyB md ops l (sb l i) i = true)
    (hQ : ∀ c a w, Q (.panic c) (a.put oi.dst v) w → Q (.panic c) a w) (hw : Region.wanted oi (yielded ops a.tmps) = true) (hr : ∀ w', (execOp a.eval oi).run P w' = .ok (.value v) w') (ha : a.put (some n) v = a')
    (h : wpAnyLast P md ops Q S ds fuel (sb l i) a' w) : wpAnyLast P md ops Q S ds (fuel + 1) l a w := pure_ _ hi hN hc hQ (Or.inl ⟨hw, hr⟩) ha h
theorem of (i n : Nat) (a' : Act) {oi : Oper} {fuel : Nat} {l : Array Bool} {a : Act} {w : World} (hi : ops[i]? = some oi) (hN : oi.dst = some n) (hc : anyB md ops l (sb l i) i = true)
    (hQ : ∀ c a w, Q (.panic c) (a.put oi.dst undef) w → Q (.panic c) a w) (hw : Region.wanted oi (yielded ops a.tmps) = false) (ha : a.put (some n) undef = a')
    (h : wpAnyLast P md ops Q S ds fuel (sb l i) a' w) : wpAnyLast P md ops Q S ds (fuel + 1) l a w := pure_ _ hi hN hc hQ (Or.inr ⟨hw, rfl⟩) ha h
theorem ld (i n : Nat) (v : Value) (a' : Act) {oi : Oper} {fuel : Nat} {l : Array Bool} {a : Act} {w : World} (hi : ops[i]? = some oi) (hN : oi.dst = some n) (hc : takeB md ops ds l (sb l i) i = true)
    (hQ : ∀ c a w, Q (.panic c) (a.put oi.dst v) w → Q (.panic c) a w) (hw : Region.wanted oi (yielded ops a.tmps) = true) (hS : S w) (hr : ∀ w', S w' → (execOp a.eval oi).run P w' = .ok (.value v) w') (ha : a.put (some n) v = a')
    (h : wpAnyLast P md ops Q S ds fuel (sb l i) a' w) : wpAnyLast P md ops Q S ds (fuel + 1) l a w := take_ _ hi hN hc hQ (Or.inl ⟨hw, hr⟩) hS ha h
theorem ca (i n : Nat) {oi : Oper} {fuel : Nat} {l : Array Bool} {a : Act} {w : World} {f : FuncId} {fn : Func} {ags : Array Operand} {ts : Array TypeId} (hf : P.funcs[f]? = some fn) (hi : ops[i]? = some oi) (hN : oi.dst = some n) (hc : readyB md ops l (sb l i) i = true) (hd : i ∉ ds)
    (hname : (fn.name == "runtime.NumGoroutine") = false) (hb : fn.body.isSome = true) (args : Array Value) (hw : Region.wanted oi (yielded ops a.tmps) = true) (hop : oi.op = .call { callee := .value (.func f), args := ags, argTypes := ts }) (hargs : ags.map a.eval = args)
    (h : Calls P f args w fun e w' => ∃ v, e = .returned v ∧ S w' ∧ (S w' → wpAnyLast P md ops Q S ds fuel (sb l i) (a.put (some n) v) w')) : wpAnyLast P md ops Q S ds (fuel + 1) l a w :=
  one_ _ hi hN hc hd (fun K hK => goes_ hf hname hb args hw hN hop hargs (h.mono fun e w' ⟨v, he, hs, hk⟩ => ⟨v, he, hK.out _ _ hs hk⟩))
theorem pv_ (i n : Nat) {v : Value} {a' : Act} {oi : Oper} {fuel : Nat} {l : Array Bool} {a : Act} {w : World} (h : wpAnyLast P md ops Q S ds fuel (sb l i) a' w) (hi : ops[i]? = some oi := by rfl) (hN : oi.dst = some n := by rfl) (hc : anyB md ops l (sb l i) i = true := by kernel_rfl)
    (hQ : ∀ c a w, Q (.panic c) (a.put oi.dst v) w → Q (.panic c) a w := by exact fun _ _ _ h => h) (hw : Region.wanted oi (yielded ops a.tmps) = true := by rfl) (hr : ∀ w', (execOp a.eval oi).run P w' = .ok (.value v) w' := by intro _; go_simp; with_reducible rfl) (ha : a.put (some n) v = a' := by simp only [pA, pB, pC, pD, i64_w, i32_w]; rfl) :
    wpAnyLast P md ops Q S ds (fuel + 1) l a w := pu i n v a' hi hN hc hQ hw hr ha h
theorem nn {a' : Act} {fuel : Nat} {l : Array Bool} {a : Act} {w : World} (h : wpAnyLast P md ops Q S ds fuel l a' w) (ha : a = a' := by simp only [pA, pB, pC, pD, i64_w, i32_w]; rfl) : wpAnyLast P md ops Q S ds fuel l a w := norm_ ha h
theorem na {a' : Act} {fuel : Nat} {l : Array Bool} {a : Act} {w : World} (h : wpAnyLast P md ops Q S ds fuel l a' w) (ha : a = a' := by simp only [putAll, pA, pB, pC, pD]; rfl) : wpAnyLast P md ops Q S ds fuel l a w := norm_ ha h
theorem nj {a' : Act} {fuel : Nat} {l : Array Bool} {a : Act} {w : World} (h : wpAnyLast P md ops Q S ds fuel l a' w) (ha : a = a' := by simp only [putAll, pA, pB, pC, pD]; (try rfl)) : wpAnyLast P md ops Q S ds fuel l a w := norm_ ha h
theorem ld_ (i n : Nat) (v : Value) {a' : Act} {oi : Oper} {fuel : Nat} {l : Array Bool} {a : Act} {w : World} (hS : S w) (hr : ∀ w', S w' → (execOp a.eval oi).run P w' = .ok (.value v) w') (h : wpAnyLast P md ops Q S ds fuel (sb l i) a' w) (hi : ops[i]? = some oi := by rfl) (hN : oi.dst = some n := by rfl) (hc : takeB md ops ds l (sb l i) i = true := by kernel_rfl)
    (hQ : ∀ c a w, Q (.panic c) (a.put oi.dst v) w → Q (.panic c) a w := by exact fun _ _ _ h => h) (hw : Region.wanted oi (yielded ops a.tmps) = true := by rfl) (ha : a.put (some n) v = a' := by simp only [pA, pB, pC, pD, i64_w, i32_w]; rfl) :
    wpAnyLast P md ops Q S ds (fuel + 1) l a w := ld i n v a' hi hN hc hQ hw hS hr ha h
theorem ca_ (i n : Nat) {oi : Oper} {fuel : Nat} {l : Array Bool} {a : Act} {w : World} {f : FuncId} {fn : Func} {ags : Array Operand} {ts : Array TypeId} (hf : P.funcs[f]? = some fn) (args : Array Value)
    (h : Calls P f args w fun e w' => ∃ v, e = .returned v ∧ S w' ∧ (S w' → wpAnyLast P md ops Q S ds fuel (sb l i) (a.put (some n) v) w'))
    (hi : ops[i]? = some oi := by rfl) (hN : oi.dst = some n := by rfl) (hc : readyB md ops l (sb l i) i = true := by kernel_rfl) (hd : i ∉ ds := by decide) (hname : (fn.name == "runtime.NumGoroutine") = false := by kernel_rfl) (hb : fn.body.isSome = true := by rfl) (hw : Region.wanted oi (yielded ops a.tmps) = true := by rfl)
    (hop : oi.op = .call { callee := .value (.func f), args := ags, argTypes := ts } := by rfl) (hargs : ags.map a.eval = args := by first | rfl | (simp [Act.eval]; done) | (go_simp; rfl)) : wpAnyLast P md ops Q S ds (fuel + 1) l a w := ca i n hf hi hN hc hd hname hb args hw hop hargs h
theorem go_ {oi : Oper} {N : Option Tmp} {a : Act} {w : World} {K : Act → World → Prop} {f : FuncId} {fn : Func} {as' : Array Operand} {ts : Array TypeId} (hf : P.funcs[f]? = some fn) (args : Array Value)
    (h : Calls P f args w fun e w' => ∃ v, e = .returned v ∧ K (a.put N v) w') (hname : (fn.name == "runtime.NumGoroutine") = false := by kernel_rfl) (hb : fn.body.isSome = true := by rfl) (hw : Region.wanted oi (yielded ops a.tmps) = true := by rfl) (hN : oi.dst = N := by rfl)
    (hop : oi.op = .call { callee := .value (.func f), args := as', argTypes := ts } := by rfl) (hargs : as'.map a.eval = args := by first | rfl | (simp [Act.eval]; done) | (go_simp; rfl)) : if Region.wanted oi (yielded ops a.tmps) = true then Oper.wp P oi a w K Q else K (a.put N undef) w := goes_ hf hname hb args hw hN hop hargs h
theorem al_ {oi : Oper} {N : Option Tmp} {a : Act} {w : World} {K : Act → World → Prop} (o : Obj) (h : K (a.put N (.pointer (some ⟨w.heap.size, 0, none⟩))) (w.alloc o)) (hw : Region.wanted oi (yielded ops a.tmps) = true := by rfl) (hN : oi.dst = N := by rfl)
    (hrun : (execOp a.eval oi).run P w = .ok (.value (.pointer (some ⟨w.heap.size, 0, none⟩))) (w.alloc o) := by go_simp; (try rfl)) : if Region.wanted oi (yielded ops a.tmps) = true then Oper.wp P oi a w K Q else K (a.put N undef) w := value_ hw hN hrun h
abbrev K1 (P : Program) (md : Region.Mode) (ops : Array Oper) (Q : Exit → Act → World → Prop) (S : World → Prop) (ds : List Nat) (fuel : Nat) (l : Array Bool) (oi : Oper) (N : Option Tmp) (a : Act) (w : World) : Prop :=
  ∀ K : Act → World → Prop, Shut (∀ a' w', S w' → (S w' → wpAnyLast P md ops Q S ds fuel l a' w') → K a' w') → if Region.wanted oi (yielded ops a.tmps) = true then Oper.wp P oi a w K Q else K (a.put N undef) w
theorem o1 (i d : Nat) {oi : Oper} {fuel : Nat} {l : Array Bool} {a : Act} {w : World} (l' : Array Bool) (h : K1 P md ops Q S ds fuel l' oi (some d) a w) (hi : ops[i]? = some oi := by rfl) (hN : oi.dst = some d := by rfl) (hc : readyB md ops l l' i = true := by kernel_rfl) (hd : i ∉ ds := by decide) :
    wpAnyLast P md ops Q S ds (fuel + 1) l a w := one_ l' hi hN hc hd h
theorem o2 (i d j e : Nat) {oi oj : Oper} {fuel : Nat} {l : Array Bool} {a : Act} {w : World} (li lj : Array Bool) (h1 : K1 P md ops Q S ds fuel li oi (some d) a w) (h2 : K1 P md ops Q S ds fuel lj oj (some e) a w) (hi : ops[i]? = some oi := by rfl) (hj : ops[j]? = some oj := by rfl) (hNi : oi.dst = some d := by rfl) (hNj : oj.dst = some e := by rfl)
    (hc : (Region.ready md ops l == [i, j] && l.setIfInBounds i true == li && l.setIfInBounds j true == lj) = true := by kernel_rfl) (hdi : i ∉ ds := by decide) (hdj : j ∉ ds := by decide) : wpAnyLast P md ops Q S ds (fuel + 1) l a w := two_ li lj hi hj hNi hNj hc hdi hdj h1 h2
theorem o3 (i d j e k f : Nat) {oi oj ok : Oper} {fuel : Nat} {l : Array Bool} {a : Act} {w : World} (li lj lk : Array Bool) (h1 : K1 P md ops Q S ds fuel li oi (some d) a w) (h2 : K1 P md ops Q S ds fuel lj oj (some e) a w) (h3 : K1 P md ops Q S ds fuel lk ok (some f) a w) (hi : ops[i]? = some oi := by rfl) (hj : ops[j]? = some oj := by rfl) (hk : ops[k]? = some ok := by rfl) (hNi : oi.dst = some d := by rfl) (hNj : oj.dst = some e := by rfl) (hNk : ok.dst = some f := by rfl)
    (hc : (Region.ready md ops l == [i, j, k] && l.setIfInBounds i true == li && l.setIfInBounds j true == lj && l.setIfInBounds k true == lk) = true := by kernel_rfl) (hdi : i ∉ ds := by decide) (hdj : j ∉ ds := by decide) (hdk : k ∉ ds := by decide) : wpAnyLast P md ops Q S ds (fuel + 1) l a w := three_ li lj lk hi hj hk hNi hNj hNk hc hdi hdj hdk h1 h2 h3
def bt (n k : Nat) : Array Bool := ((List.range n).map fun i => k.testBit i).toArray
theorem nm (a' : Act) {fuel : Nat} {l : Array Bool} {a : Act} {w : World} (ha : a = a') (h : wpAnyLast P md ops Q S ds fuel l a' w) : wpAnyLast P md ops Q S ds fuel l a w := norm_ ha h
end
end Go.Proofs.YtfpofmifmapmfaaGreatDoor

namespace Go.Proofs.YtfpofmifmapmfaaGreatDoor
open Go.RowKit
set_option linter.unusedVariables false
set_option linter.unusedSimpArgs false
@[go_sem] theorem setCell_drewN (w : World) (n : Nat) (a : Addr) (v : Value) : (w.drewN n).setCell a v = (w.setCell a v).drewN n := rfl
@[go_sem] theorem alloc_drewN (w : World) (n : Nat) (o : Obj) : (w.drewN n).alloc o = (w.alloc o).drewN n := rfl
theorem ipow_cast (n : Nat) : (2:Int)^n = ((2^n : Nat) : Int) := by simp
theorem ipow_pos (n : Nat) : (0:Int) < (2:Int)^n := Int.pow_pos (by decide)
theorem ipow_le {m n : Nat} (h : m ≤ n) : (2:Int)^m ≤ (2:Int)^n := by
  rw [ipow_cast, ipow_cast]; exact Int.ofNat_le.2 (Nat.pow_le_pow_right (by decide) h)
theorem ipow_lt_of {m n : Nat} (h : (2:Int)^m < (2:Int)^n) : m < n := by
  by_cases hm : m < n
  · exact hm
  · have := ipow_le (show n ≤ m by omega); omega
theorem ipow_lt {m n : Nat} (h : m < n) : (2:Int)^m < (2:Int)^n := by
  have h1 := ipow_le (show m + 1 ≤ n by omega)
  have h2 := ipow_pos m
  rw [Int.pow_succ] at h1; omega
theorem bits_and_range (x : Int) (h0 : 0 ≤ x) (h1 : x ≤ 18446744073709551615) (i : Nat) (hi : i ≤ 64) : bits BinOp.and IntKind.u64 x ((2:Int)^i - 1) = x % (2:Int)^i :=
  bits_mask .u64 64 (by decide) (fun n hn0 hn1 => by rw [IntKind.wrap_u64]; omega) i hi x h0 (by omega)
theorem and_half (x : Int) (h0 : 0 ≤ x) (h1 : x ≤ 18446744073709551615) : bits BinOp.and IntKind.u64 x 4294967295 = x % 4294967296 := bits_and_range x h0 h1 32 (by decide)
theorem and_one (x : Int) (h0 : 0 ≤ x) (h1 : x ≤ 18446744073709551615) : bits BinOp.and IntKind.u64 x 1 = x % 2 := bits_and_range x h0 h1 1 (by decide)
theorem and_2047 (x : Int) (h0 : 0 ≤ x) (h1 : x ≤ 18446744073709551615) : bits BinOp.and IntKind.u64 x 2047 = x % 2048 := bits_and_range x h0 h1 11 (by decide)
theorem and_frac (x : Int) (h0 : 0 ≤ x) (h1 : x ≤ 18446744073709551615) : bits BinOp.and IntKind.u64 x 4503599627370495 = x % 4503599627370496 := bits_and_range x h0 h1 52 (by decide)
theorem or_join (i : Nat) (x y : Int) (hx : 0 ≤ x) (hx1 : x ≤ 18446744073709551615) (hd : x % (2:Int)^i = 0) (hy : 0 ≤ y) (hy1 : y < (2:Int)^i) (hi : i ≤ 64) : bits .or .u64 x y = x + y := by
  have hp : ((2:Int)^i) ≤ (2:Int)^64 := ipow_le hi
  rw [u64_or x y hx (by omega) hy (by omega), nat_join i]
  · omega
  · have : ((x.toNat % 2^i : Nat) : Int) = 0 := by rw [Int.natCast_emod, Int.toNat_of_nonneg hx]; simpa using hd
    omega
  · have h2 : ((2^i : Nat) : Int) = (2:Int)^i := by simp
    omega
theorem or_join' (i : Nat) (x y : Int) (hx : 0 ≤ x) (hx1 : x ≤ 18446744073709551615) (hd : x % (2:Int)^i = 0) (hy : 0 ≤ y) (hy1 : y < (2:Int)^i) (hi : i ≤ 64) : bits .or .u64 y x = x + y := by
  have hp : ((2:Int)^i) ≤ (2:Int)^64 := ipow_le hi
  rw [← or_join i x y hx hx1 hd hy hy1 hi, u64_or _ _ hx (by omega) hy (by omega), u64_or _ _ hy (by omega) hx (by omega), Nat.or_comm]
def blen (x : Int) : Int := if x ≤ 0 then 0 else (Nat.log2 x.toNat : Int) + 1
theorem blen_nonneg (x : Int) : 0 ≤ blen x := by unfold blen; split <;> omega
theorem blen_zero {x : Int} (h : x ≤ 0) : blen x = 0 := if_pos h
theorem blen_pos {x : Int} (h : 0 < x) : 1 ≤ blen x := by unfold blen; rw [if_neg (by omega)]; omega
theorem blen_one : blen 1 = 1 := by decide
theorem blen_lt (x : Int) : x < (2:Int)^(blen x).toNat := by
  unfold blen
  split
  · simp; omega
  · have h := @Nat.lt_log2_self x.toNat
    have e : ((Nat.log2 x.toNat : Int) + 1).toNat = Nat.log2 x.toNat + 1 := by omega
    rw [e]
    have : ((2 ^ (Nat.log2 x.toNat + 1) : Nat) : Int) = (2:Int)^(Nat.log2 x.toNat + 1) := by simp
    omega
theorem blen_le {x : Int} (h : 0 < x) : (2:Int)^(blen x - 1).toNat ≤ x := by
  unfold blen
  rw [if_neg (by omega)]
  have h1 := @Nat.log2_self_le x.toNat (by omega)
  have e : ((Nat.log2 x.toNat : Int) + 1 - 1).toNat = Nat.log2 x.toNat := by omega
  rw [e]
  have : ((2 ^ (Nat.log2 x.toNat) : Nat) : Int) = (2:Int)^(Nat.log2 x.toNat) := by simp
  omega
theorem blen_le_of_lt {x : Int} {n : Nat} (h : x < (2:Int)^n) : blen x ≤ n := by
  by_cases h0 : 0 < x
  · have h1 := blen_le h0
    have h2 : (2:Int)^(blen x - 1).toNat < (2:Int)^n := by omega
    have h3 : (blen x - 1).toNat < n := ipow_lt_of h2
    omega
  · rw [blen_zero (by omega)]; omega
theorem blen_gt_of_le {x : Int} {n : Nat} (h : (2:Int)^n ≤ x) : (n : Int) < blen x := by
  have h1 := blen_lt x
  have h2 : (2:Int)^n < (2:Int)^(blen x).toNat := by omega
  have h3 : n < (blen x).toNat := ipow_lt_of h2
  omega
theorem blen_unique {x : Int} {n : Nat} (h1 : (2:Int)^n ≤ x) (h2 : x < (2:Int)^(n+1)) : blen x = n + 1 := by
  have := blen_gt_of_le h1
  have := blen_le_of_lt h2
  omega
theorem blen_shr {x : Int} (k : Nat) (h : (2:Int)^k ≤ x) : blen x = k + blen (x / (2:Int)^k) := by
  have hk : (0:Int) < (2:Int)^k := Int.pow_pos (by decide)
  have hq : 0 < x / (2:Int)^k := Int.lt_of_lt_of_le Int.zero_lt_one ((Int.le_ediv_iff_mul_le hk).2 (by omega))
  have h1 := blen_le hq
  have h2 := blen_lt (x / (2:Int)^k)
  have hp := blen_pos hq
  generalize blen (x / (2:Int)^k) = m at *
  have e1 : (2:Int)^(k + (m-1).toNat) ≤ x := by
    rw [Int.pow_add, Int.mul_comm]; exact (Int.le_ediv_iff_mul_le hk).1 h1
  have e2 : x < (2:Int)^(k + m.toNat) := by
    rw [Int.pow_add, Int.mul_comm]; exact (Int.ediv_lt_iff_lt_mul hk).1 h2
  have e3 : k + m.toNat = (k + (m-1).toNat) + 1 := by omega
  rw [e3] at e2
  rw [blen_unique e1 e2]; omega
theorem blen_64 {x : Int} (h : x ≤ 18446744073709551615) : blen x ≤ 64 := blen_le_of_lt (n := 64) (by omega)
theorem blen_mono {x y : Int} (h : x ≤ y) : blen x ≤ blen y := by
  have h1 := blen_lt y
  have := blen_le_of_lt (x := x) (n := (blen y).toNat) (by omega)
  have := blen_nonneg y
  omega
theorem blen_mul_pow {x : Int} (k : Nat) (h : 0 < x) : blen (x * (2:Int)^k) = blen x + k := by
  have hk : (0:Int) < (2:Int)^k := Int.pow_pos (by decide)
  have h1 : (2:Int)^k ≤ x * (2:Int)^k := by
    have := Int.mul_le_mul_of_nonneg_right (show (1:Int) ≤ x by omega) (Int.le_of_lt hk)
    omega
  rw [blen_shr k h1, Int.mul_ediv_cancel _ (by omega)]; omega
theorem wrap_u64_in {x : Int} (h0 : 0 ≤ x) (h1 : x ≤ 18446744073709551615) : IntKind.u64.wrap x = x := IntWalk.u64_in x ⟨h0, h1⟩
theorem mul_le_32 {x y : Int} (hx : 0 ≤ x) (hx1 : x ≤ 4294967295) (hy : 0 ≤ y) (hy1 : y ≤ 4294967295) : 0 ≤ x * y ∧ x * y ≤ 18446744065119617025 := by
  refine ⟨Int.mul_nonneg hx hy, ?_⟩
  exact Int.le_trans (Int.mul_le_mul hx1 hy1 hy (by decide)) (by decide)
theorem pow_split {n : Nat} (h : n ≤ 64) : (2:Int)^n * (2:Int)^(64-n) = 18446744073709551616 := by
  rw [← Int.pow_add, show n + (64 - n) = 64 by omega]; rfl
theorem div_split {x : Int} {n : Nat} (h : n ≤ 64) : x / (2:Int)^(64-n) = x * (2:Int)^n / 18446744073709551616 := by
  rw [← pow_split h, Int.mul_comm x, Int.mul_ediv_mul_of_pos _ _ (ipow_pos n)]
theorem div_split_lt {x : Int} {n : Nat} (h : n ≤ 64) (h1 : x ≤ 18446744073709551615) : x * (2:Int)^n / 18446744073709551616 < (2:Int)^n := by
  refine (Int.ediv_lt_iff_lt_mul (by decide)).2 ?_
  rw [Int.mul_comm]
  exact Int.mul_lt_mul_of_pos_left (by omega) (ipow_pos n)
theorem mod_dvd_pow {x : Int} {n : Nat} (h : n ≤ 64) : (x * (2:Int)^n % 18446744073709551616) % (2:Int)^n = 0 := by
  rw [Int.emod_emod_of_dvd _ ⟨(2:Int)^(64-n), (pow_split h).symm⟩, Int.mul_emod_left]
theorem shl_join {hi lo : Int} {n : Nat} (hn : n ≤ 64) (hl : 0 ≤ lo) (hl' : lo ≤ 18446744073709551615) :
    bits .or .u64 (hi * (2:Int)^n % 18446744073709551616) (lo / (2:Int)^(64-n)) = hi * (2:Int)^n % 18446744073709551616 + lo * (2:Int)^n / 18446744073709551616 := by
  rw [or_join n _ _ (Int.emod_nonneg _ (by decide)) (by omega) (mod_dvd_pow hn) (Int.ediv_nonneg hl (Int.le_of_lt (ipow_pos _))) (by rw [div_split hn]; exact div_split_lt hn hl') hn, div_split hn]
theorem shr_join {hi lo : Int} {n : Nat} (hn : n ≤ 64) (hl : 0 ≤ lo) (hl' : lo ≤ 18446744073709551615) :
    bits .or .u64 (lo / (2:Int)^n) (hi * (2:Int)^(64-n) % 18446744073709551616) = lo / (2:Int)^n + hi * (2:Int)^(64-n) % 18446744073709551616 := by
  have e : lo / (2:Int)^n = lo * (2:Int)^(64-n) / 18446744073709551616 := by
    have := @div_split lo (64-n) (by omega)
    rwa [show 64 - (64 - n) = n by omega] at this
  rw [or_join' (64-n) _ _ (Int.emod_nonneg _ (by decide)) (by omega) (mod_dvd_pow (by omega)) (Int.ediv_nonneg hl (Int.le_of_lt (ipow_pos _))) (by rw [e]; exact div_split_lt (by omega) hl') (by omega), Int.add_comm]
def ctzF : Nat → Nat → Nat
  | 0, _ => 0
  | f + 1, x => if x % 2 = 1 then 0 else ctzF f (x / 2) + 1
def ctz (x : Int) : Int := ctzF 64 x.toNat
theorem ctzF_le : ∀ (f x : Nat), ctzF f x ≤ f
  | 0, _ => Nat.le_refl _
  | f + 1, x => by unfold ctzF; split; omega; have := ctzF_le f (x / 2); omega
theorem ctzF_odd : ∀ (f x : Nat), 0 < x → x < 2 ^ f → ctzF f x < f ∧ x % 2 ^ (ctzF f x) = 0 ∧ x / 2 ^ (ctzF f x) % 2 = 1
  | 0, x, h0, h1 => by simp at h1; omega
  | f + 1, x, h0, h1 => by
    unfold ctzF
    split
    · rename_i h; simp [h, Nat.mod_one]
    · rename_i h
      have hx : x = 2 * (x / 2) := by omega
      obtain ⟨a, b, c⟩ := ctzF_odd f (x / 2) (by omega) (by rw [Nat.pow_succ] at h1; omega)
      refine ⟨by omega, ?_, ?_⟩
      · rw [Nat.pow_succ, Nat.mul_comm, hx, Nat.mul_mod_mul_left, show 2 * (x / 2) / 2 = x / 2 by omega, b]
      · rw [Nat.pow_succ, Nat.mul_comm, ← Nat.div_div_eq_div_mul]; exact c
theorem ctz_range (x : Int) : 0 ≤ ctz x ∧ ctz x ≤ 64 := by have := ctzF_le 64 x.toNat; unfold ctz; omega
theorem ctz_lt {x : Int} (h0 : 0 < x) (h1 : x ≤ 18446744073709551615) : ctz x < 64 := by
  have := (ctzF_odd 64 x.toNat (by omega) (by omega)).1
  unfold ctz; omega
theorem ctz_dvd {x : Int} (h0 : 0 < x) (h1 : x ≤ 18446744073709551615) : x % (2:Int)^(ctz x).toNat = 0 := by
  have h := (ctzF_odd 64 x.toNat (by omega) (by omega)).2.1
  obtain ⟨n, rfl⟩ := Int.eq_ofNat_of_zero_le (Int.le_of_lt h0)
  unfold ctz
  rw [Int.toNat_natCast] at h ⊢
  rw [Int.toNat_natCast, ipow_cast]
  exact_mod_cast h
theorem ctz_odd {x : Int} (h0 : 0 < x) (h1 : x ≤ 18446744073709551615) : x / (2:Int)^(ctz x).toNat % 2 = 1 := by
  have h := (ctzF_odd 64 x.toNat (by omega) (by omega)).2.2
  obtain ⟨n, rfl⟩ := Int.eq_ofNat_of_zero_le (Int.le_of_lt h0)
  unfold ctz
  rw [Int.toNat_natCast] at h ⊢
  rw [Int.toNat_natCast, ipow_cast]
  exact_mod_cast h
theorem and_compl (f m : Nat) (h : m < 2 ^ f) : m &&& (2 ^ f - (m + 1)) = 0 := by
  apply Nat.eq_of_testBit_eq
  intro i
  rw [Nat.testBit_and, Nat.testBit_two_pow_sub_succ h]
  cases m.testBit i <;> simp
theorem and_neg : ∀ (f n : Nat), 0 < n → n < 2 ^ f → n &&& (2 ^ f - n) = 2 ^ (ctzF f n)
  | 0, n, h0, h1 => by simp at h1; omega
  | f + 1, n, h0, h1 => by
    rw [Nat.pow_succ] at h1
    have e2 : n &&& (2 ^ (f+1) - n) = 2 * ((n / 2) &&& ((2 ^ (f+1) - n) / 2)) + (n % 2) * ((2 ^ (f+1) - n) % 2) := by
      have a1 := Nat.div_add_mod (n &&& (2 ^ (f+1) - n)) 2
      rw [Nat.and_div_two] at a1
      have a2 : (n &&& (2 ^ (f+1) - n)) % 2 = (n % 2) * ((2 ^ (f+1) - n) % 2) := by
        have a3 := Nat.and_mod_two_pow (a := n) (b := 2 ^ (f+1) - n) (n := 1)
        rw [Nat.pow_one] at a3
        rw [a3]
        have b1 : n % 2 = 0 ∨ n % 2 = 1 := by omega
        have b2 : (2 ^ (f+1) - n) % 2 = 0 ∨ (2 ^ (f+1) - n) % 2 = 1 := by omega
        rcases b1 with b1 | b1 <;> rcases b2 with b2 | b2 <;> rw [b1, b2] <;> rfl
      omega
    rw [e2]
    unfold ctzF
    have hp : 2 ^ (f + 1) = 2 * 2 ^ f := by rw [Nat.pow_succ, Nat.mul_comm]
    split
    · rename_i h
      have c := and_compl f (n / 2) (by omega)
      have d : (2 ^ (f+1) - n) / 2 = 2 ^ f - (n / 2 + 1) := by omega
      have d2 : (2 ^ (f+1) - n) % 2 = 1 := by omega
      rw [d, c, h, d2]
    · rename_i h
      have c := and_neg f (n / 2) (by omega) (by omega)
      have d : (2 ^ (f+1) - n) / 2 = 2 ^ f - (n / 2) := by omega
      have d2 : n % 2 = 0 := by omega
      rw [d, c, d2, Nat.pow_succ]; omega
theorem low_bit {x : Int} (h0 : 0 < x) (h1 : x ≤ 18446744073709551615) : bits .and .u64 x (IntKind.u64.wrap (-x)) = (2:Int)^(ctz x).toNat := by
  rw [IntKind.wrap_u64, show (-x) % 18446744073709551616 = 18446744073709551616 - x by omega, u64_and _ _ (by omega) (by omega) (by omega) (by omega)]
  obtain ⟨n, rfl⟩ := Int.eq_ofNat_of_zero_le (Int.le_of_lt h0)
  have := and_neg 64 n (by omega) (by omega)
  unfold ctz
  rw [Int.toNat_natCast, Int.toNat_natCast, show ((18446744073709551616 : Int) - (n : Int)).toNat = 2 ^ 64 - n by omega, this, ipow_cast]
theorem blen_pow (k : Nat) : blen ((2:Int)^k) = k + 1 := blen_unique (Int.le_refl _) (ipow_lt (by omega))
theorem ctz_unique {x : Int} {k : Nat} (h0 : 0 < x) (h1 : x ≤ 18446744073709551615) (hd : x % (2:Int)^k = 0) (ho : x / (2:Int)^k % 2 = 1) : ctz x = k := by
  have a := ctz_dvd h0 h1
  have b := ctz_odd h0 h1
  have c := ctz_range x
  have key : ∀ {i j : Nat}, x % (2:Int)^j = 0 → x / (2:Int)^i % 2 = 1 → ¬ i < j := by
    intro i j hj hi hlt
    have e : (2:Int)^j = (2:Int)^i * 2 * (2:Int)^(j - (i+1)) := by rw [← Int.pow_succ, ← Int.pow_add, show i + 1 + (j - (i+1)) = j by omega]
    have hdv : ((2:Int)^i * 2) ∣ x := Int.dvd_trans ⟨_, e⟩ (Int.dvd_of_emod_eq_zero hj)
    obtain ⟨m, hm⟩ := hdv
    rw [hm, Int.mul_assoc, Int.mul_ediv_cancel_left _ (by have := ipow_pos i; omega)] at hi
    omega
  have k1 := key hd b
  have k2 := key a ho
  omega
def icmp (x y : Int) : Int := if x < y then -1 else if x = y then 0 else 1
theorem icmp_lt {x y : Int} (h : x < y) : icmp x y = -1 := if_pos h
theorem icmp_eq {x y : Int} (h : x = y) : icmp x y = 0 := by unfold icmp; rw [if_neg (by omega), if_pos h]
theorem icmp_gt {x y : Int} (h : y < x) : icmp x y = 1 := by unfold icmp; rw [if_neg (by omega), if_neg (by omega)]
def clamp128 (n : Int) : Int := if n ≤ 0 then 0 else if 128 ≤ n then 128 else n
theorem clamp128_in {n : Int} (h0 : 0 ≤ n) (h1 : n ≤ 128) : clamp128 n = n := by unfold clamp128; split <;> (try split) <;> omega
theorem belowN {B : Nat} {a w : World} (h : Below B a w) (n : Nat) : Below B a (w.drewN n) := ⟨h.os, h.tape, h.output, h.size, h.block⟩
theorem vint {k : IntKind} {a c : Int} (h : a = c) : Value.int k a = .int k c := by rw [h]
theorem R1 {k : IntKind} {a c : Int} (h : a = c) : Ending.returned (.int k a) = .returned (.int k c) := by rw [h]
theorem R2 {k l : IntKind} {a b c d : Int} (h : a = c) (h' : b = d) : Ending.returned (.tuple #[.int k a, .int l b]) = .returned (.tuple #[.int k c, .int l d]) := by rw [h, h']
theorem R3b {k l : IntKind} {a b c d : Int} {p q : Bool} (h : a = c) (h' : b = d) (h'' : p = q) : Ending.returned (.tuple #[.int k a, .int l b, .bool p]) = .returned (.tuple #[.int k c, .int l d, .bool q]) := by rw [h, h', h'']
theorem R1b {p q : Bool} (h : p = q) : Ending.returned (.bool p) = .returned (.bool q) := by rw [h]
theorem R3 {k l m : IntKind} {a b c d e f : Int} (h : a = d) (h' : b = e) (h'' : c = f) : Ending.returned (.tuple #[.int k a, .int l b, .int m c]) = .returned (.tuple #[.int k d, .int l e, .int m f]) := by rw [h, h', h'']
end Go.Proofs.YtfpofmifmapmfaaGreatDoor

namespace Go.Proofs.YtfpofmifmapmfaaGreatDoor
open Go.RowKit
set_option linter.unusedVariables false
set_option linter.unusedSimpArgs false
set_option maxHeartbeats 400000 in
theorem wAdd (a b c : Int) (w : World) (ha : 0 ≤ a) (hb : 0 ≤ b) (hc : 0 ≤ c) (ha' : a ≤ 18446744073709551615) (hb' : b ≤ 18446744073709551615) (hc' : c ≤ 1):
    Calls Tryz.prog 213 #[.int .u64 a, .int .u64 b, .int .u64 c] w fun e w' => e = .returned (.tuple #[.int .u64 ((a+b+c) % 18446744073709551616), .int .u64 ((a+b+c) / 18446744073709551616)]) ∧ w = w' := by
  have H := Lib.hid (and_one c hc (by omega))
  go_enter Tryz.func213, Tryz.ntmps213
  go_wp2
  all_goals
    go_ret2
    have E := H.out
    simp only [E, IntKind.wrap_u64] at *
    exact ⟨R2 (by omega) (by omega), by trivial⟩
set_option maxHeartbeats 400000 in
theorem wSub (a b c : Int) (w : World) (ha : 0 ≤ a) (hb : 0 ≤ b) (hc : 0 ≤ c) (ha' : a ≤ 18446744073709551615) (hb' : b ≤ 18446744073709551615) (hc' : c ≤ 1):
    Calls Tryz.prog 156 #[.int .u64 a, .int .u64 b, .int .u64 c] w fun e w' => e = .returned (.tuple #[.int .u64 ((a-b-c) % 18446744073709551616), .int .u64 (-((a-b-c) / 18446744073709551616))]) ∧ w = w' := by
  have H := Lib.hid (and_one c hc (by omega))
  go_enter Tryz.func156, Tryz.ntmps156
  go_wp2
  all_goals
    go_ret2
    have E := H.out
    simp only [E, IntKind.wrap_u64, beq_iff_eq, beq_eq_false_iff_ne, ne_eq] at *
    exact ⟨R2 (by omega) (by omega), by trivial⟩
def LenR (x : Int) (y n k : Value) : Prop := ∃ u m kk bd : Int, y = .int .u64 u ∧ n = .int .i64 m ∧ k = .int .i64 kk ∧ 0 ≤ u ∧ u < bd ∧ 0 ≤ m ∧ m ≤ 64 - 2 * kk ∧ m + blen u = blen x ∧
    ((kk = 32 ∧ bd = 18446744073709551616) ∨ (kk = 16 ∧ bd = 4294967296) ∨ (kk = 8 ∧ bd = 65536) ∨ (kk = 4 ∧ bd = 256) ∨ (kk = 2 ∧ bd = 16) ∨ (kk = 1 ∧ bd = 4) ∨ (kk = 0 ∧ bd = 2))
theorem len_step {u m B : Int} (k : Nat) (P : Int) (hP : P = (2:Int)^k) (h : (u / P != 0) = true) (h0 : 0 ≤ u) (he : m + blen u = B) : m + k + blen (u / P) = B := by
  subst hP
  have h1 : u / (2:Int)^k ≠ 0 := by simpa using h
  have h2 : (2:Int)^k ≤ u := by
    by_cases hh : (2:Int)^k ≤ u
    · exact hh
    · exact absurd (Int.ediv_eq_zero_of_lt h0 (by omega)) h1
  have := blen_shr k h2
  omega
theorem blen_01 {u : Int} (h0 : 0 ≤ u) (h1 : u < 2) : blen u = u := by
  have : u = 0 ∨ u = 1 := by omega
  rcases this with rfl | rfl <;> decide
set_option maxHeartbeats 1000000 in
theorem wLen (x : Int) (w : World) (h0 : 0 ≤ x) (h1 : x ≤ 18446744073709551615) :
    Calls Tryz.prog 186 #[.int .u64 x] w fun e w' => e = .returned (.int .i64 (blen x)) ∧ w = w' := by
  go_enter Tryz.func186, Tryz.ntmps186
  go_wp2
  go_loop [0, 3, 4] (fun y n k => LenR x y n k) (fun _ _ k => (intOf k).toNat)
  case atStart => exact ⟨x, 0, 32, 18446744073709551616, rfl, rfl, rfl, h0, by omega, by omega, by omega, by omega, by simp⟩
  case round =>
    obtain ⟨u, m, kk, bd, rfl, rfl, rfl, hu, hb, hm, hm', he, hk⟩ := hrel
    have HE := Lib.hid he
    clear he
    rcases hk with ⟨rfl, rfl⟩ | ⟨rfl, rfl⟩ | ⟨rfl, rfl⟩ | ⟨rfl, rfl⟩ | ⟨rfl, rfl⟩ | ⟨rfl, rfl⟩ | ⟨rfl, rfl⟩
    · go_wp2
      · have ht : (u / 4294967296 != 0) = true := by assumption
        have HS := Lib.hid (len_step 32 4294967296 (by decide) ht hu HE.out)
        go_round
        case rel => exact ⟨u / 4294967296, m + 32, 16, 4294967296, rfl, rfl, rfl, by omega, by omega, by omega, by omega, HS.out, by simp⟩
        case measure => simp [intOf]
      · have ht : (u / 4294967296 != 0) = false := by assumption
        have ht' : u / 4294967296 = 0 := by simpa using ht
        go_round
        case rel => exact ⟨u, m, 16, 4294967296, rfl, rfl, rfl, by omega, by omega, by omega, by omega, HE.out, by simp⟩
        case measure => simp [intOf]
    · go_wp2
      · have ht : (u / 65536 != 0) = true := by assumption
        have HS := Lib.hid (len_step 16 65536 (by decide) ht hu HE.out)
        go_round
        case rel => exact ⟨u / 65536, m + 16, 8, 65536, rfl, rfl, rfl, by omega, by omega, by omega, by omega, HS.out, by simp⟩
        case measure => simp [intOf]
      · have ht : (u / 65536 != 0) = false := by assumption
        have ht' : u / 65536 = 0 := by simpa using ht
        go_round
        case rel => exact ⟨u, m, 8, 65536, rfl, rfl, rfl, by omega, by omega, by omega, by omega, HE.out, by simp⟩
        case measure => simp [intOf]
    · go_wp2
      · have ht : (u / 256 != 0) = true := by assumption
        have HS := Lib.hid (len_step 8 256 (by decide) ht hu HE.out)
        go_round
        case rel => exact ⟨u / 256, m + 8, 4, 256, rfl, rfl, rfl, by omega, by omega, by omega, by omega, HS.out, by simp⟩
        case measure => simp [intOf]
      · have ht : (u / 256 != 0) = false := by assumption
        have ht' : u / 256 = 0 := by simpa using ht
        go_round
        case rel => exact ⟨u, m, 4, 256, rfl, rfl, rfl, by omega, by omega, by omega, by omega, HE.out, by simp⟩
        case measure => simp [intOf]
    · go_wp2
      · have ht : (u / 16 != 0) = true := by assumption
        have HS := Lib.hid (len_step 4 16 (by decide) ht hu HE.out)
        go_round
        case rel => exact ⟨u / 16, m + 4, 2, 16, rfl, rfl, rfl, by omega, by omega, by omega, by omega, HS.out, by simp⟩
        case measure => simp [intOf]
      · have ht : (u / 16 != 0) = false := by assumption
        have ht' : u / 16 = 0 := by simpa using ht
        go_round
        case rel => exact ⟨u, m, 2, 16, rfl, rfl, rfl, by omega, by omega, by omega, by omega, HE.out, by simp⟩
        case measure => simp [intOf]
    · go_wp2
      · have ht : (u / 4 != 0) = true := by assumption
        have HS := Lib.hid (len_step 2 4 (by decide) ht hu HE.out)
        go_round
        case rel => exact ⟨u / 4, m + 2, 1, 4, rfl, rfl, rfl, by omega, by omega, by omega, by omega, HS.out, by simp⟩
        case measure => simp [intOf]
      · have ht : (u / 4 != 0) = false := by assumption
        have ht' : u / 4 = 0 := by simpa using ht
        go_round
        case rel => exact ⟨u, m, 1, 4, rfl, rfl, rfl, by omega, by omega, by omega, by omega, HE.out, by simp⟩
        case measure => simp [intOf]
    · go_wp2
      · have ht : (u / 2 != 0) = true := by assumption
        have HS := Lib.hid (len_step 1 2 (by decide) ht hu HE.out)
        go_round
        case rel => exact ⟨u / 2, m + 1, 0, 2, rfl, rfl, rfl, by omega, by omega, by omega, by omega, HS.out, by simp⟩
        case measure => simp [intOf]
      · have ht : (u / 2 != 0) = false := by assumption
        have ht' : u / 2 = 0 := by simpa using ht
        go_round
        case rel => exact ⟨u, m, 0, 2, rfl, rfl, rfl, by omega, by omega, by omega, by omega, HE.out, by simp⟩
        case measure => simp [intOf]
    · go_wp2
      go_ret
      have e := HE.out
      rw [blen_01 hu hb] at e
      exact ⟨R1 (by omega), by trivial⟩
set_option maxHeartbeats 400000 in
theorem wCmp (a b c d : Int) (w : World) (hb : 0 ≤ b) (hd : 0 ≤ d) (hb' : b ≤ 18446744073709551615) (hd' : d ≤ 18446744073709551615) :
    Calls Tryz.prog 155 #[.int .u64 a, .int .u64 b, .int .u64 c, .int .u64 d] w fun e w' => e = .returned (.int .i64 (icmp (a * 18446744073709551616 + b) (c * 18446744073709551616 + d))) ∧ w = w' := by
  go_enter Tryz.func155, Tryz.ntmps155
  go_wp2
  all_goals
    go_ret
    simp only [beq_iff_eq, beq_eq_false_iff_ne, ne_eq] at *
    refine ⟨R1 ?_, by trivial⟩
    first
    | (exact (icmp_lt (by omega)).symm)
    | (exact (icmp_eq (by omega)).symm)
    | (exact (icmp_gt (by omega)).symm)
set_option maxHeartbeats 400000 in
theorem wWithin (n : Int) (w : World) :
    Calls Tryz.prog 248 #[.int .i64 n] w fun e w' => e = .returned (.int .i64 (clamp128 n)) ∧ w = w' := by
  go_enter Tryz.func248, Tryz.ntmps248
  go_wp2
  all_goals
    go_ret
    refine ⟨R1 ?_, by trivial⟩
    unfold clamp128
    split
    · omega
    · split <;> omega
set_option maxHeartbeats 400000 in
theorem wShl (hi lo n : Int) (w : World) (hl : 0 ≤ hi) (hl' : hi ≤ 18446744073709551615) (ll : 0 ≤ lo) (ll' : lo ≤ 18446744073709551615) (hn : 0 ≤ n) (hn' : n < 64) :
    Calls Tryz.prog 224 #[.int .u64 hi, .int .u64 lo, .int .i64 n] w fun e w' => e = .returned (.tuple #[.int .u64 (hi * 2^n.toNat % 18446744073709551616 + lo * 2^n.toNat / 18446744073709551616), .int .u64 (lo * 2^n.toNat % 18446744073709551616)]) ∧ ∃ q, w' = w.drewN q := by
  have HC := Lib.hid (clamp128_in hn (by omega))
  go_enter Tryz.func224, Tryz.ntmps224
  go_wp2_with (refine (wWithin n _).mono ?_; rintro e w' ⟨rfl, rfl⟩; rw [HC.out])
  go_quiet (fail)
  go_wp2
  go_ret2
  refine ⟨R2 ?_ ?_, _, rfl⟩
  · rw [IntKind.wrap_u64, show (64 - n).toNat = 64 - n.toNat by omega, shl_join (by omega) ll ll']
  · rw [IntKind.wrap_u64]
theorem wShl0 (lo n : Int) (w : World) (ll : 0 ≤ lo) (ll' : lo ≤ 18446744073709551615) (hn : 0 ≤ n) (hn' : n < 64) :
    Calls Tryz.prog 224 #[.int .u64 0, .int .u64 lo, .int .i64 n] w fun e w' => e = .returned (.tuple #[.int .u64 (lo * 2^n.toNat / 18446744073709551616), .int .u64 (lo * 2^n.toNat % 18446744073709551616)]) ∧ ∃ q, w' = w.drewN q :=
  (wShl 0 lo n w (by omega) (by omega) ll ll' hn hn').mono fun e w' ⟨h, q⟩ => ⟨by rw [h]; exact R2 (by simp) rfl, q⟩
set_option maxHeartbeats 800000 in
theorem wShr (hi lo n : Int) (w : World) (hl : 0 ≤ hi) (hl' : hi ≤ 18446744073709551615) (ll : 0 ≤ lo) (ll' : lo ≤ 18446744073709551615) (hn : 0 ≤ n) (hn' : n < 64) :
    Calls Tryz.prog 249 #[.int .u64 hi, .int .u64 lo, .int .i64 n] w fun e w' => e = .returned (.tuple #[.int .u64 (hi / 2^n.toNat), .int .u64 (lo / 2^n.toNat + hi * 2^(64-n.toNat) % 18446744073709551616), .bool (lo * 2^(64-n.toNat) % 18446744073709551616 != 0)]) ∧ ∃ q, w' = w.drewN q := by
  have HC := Lib.hid (clamp128_in hn (by omega))
  go_enter Tryz.func249, Tryz.ntmps249
  go_wp2_with (refine (wWithin n _).mono ?_; rintro e w' ⟨rfl, rfl⟩; rw [HC.out])
  go_quiet (fail)
  go_wp2
  go_ret3
  refine ⟨R3b rfl ?_ ?_, _, rfl⟩
  · rw [IntKind.wrap_u64, show (64 - n).toNat = 64 - n.toNat by omega, shr_join (by omega) ll ll']
  · rw [IntKind.wrap_u64, show (64 - n).toNat = 64 - n.toNat by omega]
set_option maxHeartbeats 800000 in
theorem wShr64 (lo : Int) (w : World) (ll : 0 ≤ lo) (ll' : lo ≤ 18446744073709551615) :
    Calls Tryz.prog 249 #[.int .u64 0, .int .u64 lo, .int .i64 64] w fun e w' => e = .returned (.tuple #[.int .u64 0, .int .u64 0, .bool (lo != 0)]) ∧ ∃ q, w' = w.drewN q := by
  have HC := Lib.hid (clamp128_in (show (0:Int) ≤ 64 by decide) (by decide))
  by_cases h0 : lo = 0
  · subst h0
    go_enter Tryz.func249, Tryz.ntmps249
    go_wp2_with (refine (wWithin 64 _).mono ?_; rintro e w' ⟨rfl, rfl⟩; rw [HC.out])
    go_quiet (fail)
    go_wp2
    go_ret3
    exact ⟨R3b rfl (by simp) rfl, _, rfl⟩
  · have hb : (lo != 0) = true := by simpa using h0
    have hb' : (lo == 0) = false := by simpa using h0
    go_enter Tryz.func249, Tryz.ntmps249
    go_wp2_with (refine (wWithin 64 _).mono ?_; rintro e w' ⟨rfl, rfl⟩; rw [HC.out])
    go_quiet (fail)
    go_wp2
    go_ret3
    exact ⟨R3b rfl (by simp) (by simp [hb]), _, rfl⟩
set_option maxHeartbeats 800000 in
theorem wZeros (x : Int) (w : World) (h0 : 0 ≤ x) (h1 : x ≤ 18446744073709551615) :
    Calls Tryz.prog 185 #[.int .u64 x] w fun e w' => e = .returned (.int .i64 (ctz x)) ∧ w = w' := by
  by_cases hx : x = 0
  · subst hx
    go_enter Tryz.func185, Tryz.ntmps185
    go_wp2
    go_ret
    exact ⟨R1 (by decide), by trivial⟩
  · have hb : (x == 0) = false := by simpa using hx
    have hl := low_bit (show 0 < x by omega) h1
    have H := Lib.hid hl
    clear hl
    go_enter Tryz.func185, Tryz.ntmps185
    go_wp2_with (fail)
    rw [H.out]
    have hr := ctz_range x
    have hlt := ctz_lt (show 0 < x by omega) h1
    have hp := ipow_pos (ctz x).toNat
    have hp2 := ipow_lt (show (ctz x).toNat < 64 by omega)
    refine (wLen _ _ (by omega) (by omega)).mono ?_
    rintro e w' ⟨rfl, rfl⟩
    rw [blen_pow, show ((ctz x).toNat : Int) + 1 = ctz x + 1 by omega]
    clear hp hp2
    go_wp2
    go_ret
    exact ⟨R1 (by omega), by trivial⟩
end Go.Proofs.YtfpofmifmapmfaaGreatDoor

namespace Go.Proofs.YtfpofmifmapmfaaGreatDoor
open Go.RowKit
set_option linter.unusedVariables false
set_option linter.unusedSimpArgs false
theorem mul_math {a b x0 x1 y0 y1 o0 o1 o2 c0 q1 q2 q3 c1 : Int} (hA : a = x1 * 4294967296 + x0) (hB : b = y1 * 4294967296 + y0)
    (E0 : x0 * y0 = c0 * 4294967296 + o0) (E1 : x0 * y1 + c0 = o2 * 4294967296 + o1) (E2 : x1 * y0 + o1 = c1 * 4294967296 + q1) (E3 : x1 * y1 + o2 + c1 = q3 * 4294967296 + q2) :
    a * b = (q3 * 4294967296 + q2) * 18446744073709551616 + (q1 * 4294967296 + o0) := by
  have e : a * b = x1 * y1 * 18446744073709551616 + (x1 * y0 + x0 * y1) * 4294967296 + x0 * y0 := by subst hA hB; grind
  rw [e]; omega
set_option maxHeartbeats 4000000 in
theorem wMul (a b : Int) (w : World) (ha : 0 ≤ a) (hb : 0 ≤ b) (ha' : a ≤ 18446744073709551615) (hb' : b ≤ 18446744073709551615) :
    Calls Tryz.prog 212 #[.int .u64 a, .int .u64 b] w fun e w' => e = .returned (.tuple #[.int .u64 ((a*b) / 18446744073709551616), .int .u64 ((a*b) % 18446744073709551616)]) ∧ Below w.heap.size w w' := by
  have e1 := and_half a ha ha'
  have e2 := and_half b hb hb'
  go_enter Tryz.func212, Tryz.ntmps212
  go_wp2
  clear e1 e2
  have hx0 : 0 ≤ a % 4294967296 ∧ a % 4294967296 ≤ 4294967295 := by omega
  have hx1 : 0 ≤ a / 4294967296 ∧ a / 4294967296 ≤ 4294967295 := by omega
  have hy0 : 0 ≤ b % 4294967296 ∧ b % 4294967296 ≤ 4294967295 := by omega
  have hy1 : 0 ≤ b / 4294967296 ∧ b / 4294967296 ≤ 4294967295 := by omega
  have hA := Lib.hid (show a = a / 4294967296 * 4294967296 + a % 4294967296 by omega)
  have hB := Lib.hid (show b = b / 4294967296 * 4294967296 + b % 4294967296 by omega)
  generalize a % 4294967296 = x0 at *
  generalize a / 4294967296 = x1 at *
  generalize b % 4294967296 = y0 at *
  generalize b / 4294967296 = y1 at *
  obtain ⟨hx0, hx0'⟩ := hx0
  obtain ⟨hx1, hx1'⟩ := hx1
  obtain ⟨hy0, hy0'⟩ := hy0
  obtain ⟨hy1, hy1'⟩ := hy1
  obtain ⟨p00, p00'⟩ := mul_le_32 hx0 hx0' hy0 hy0'
  obtain ⟨p01, p01'⟩ := mul_le_32 hx0 hx0' hy1 hy1'
  obtain ⟨p10, p10'⟩ := mul_le_32 hx1 hx1' hy0 hy0'
  obtain ⟨p11, p11'⟩ := mul_le_32 hx1 hx1' hy1 hy1'
  refine wp_loop_rounds 3 ?_
  rw [rounds_succ]
  go_wp2
  refine wp_loop_rounds 3 ?_
  rw [rounds_succ]
  go_wp2
  go_quiet (fail)
  go_wp2
  rw [and_half _ (by omega) (by omega)]
  have fo0 : 0 ≤ (x0 * y0) % 4294967296 ∧ (x0 * y0) % 4294967296 ≤ 4294967295 ∧ 0 ≤ (x0 * y0) / 4294967296 ∧ (x0 * y0) / 4294967296 ≤ 4294967295 := by omega
  have Eo0 := Lib.hid (show (x0 * y0) = (x0 * y0) / 4294967296 * 4294967296 + (x0 * y0) % 4294967296 by omega)
  generalize (x0 * y0) % 4294967296 = o0 at *
  generalize (x0 * y0) / 4294967296 = c0 at *
  obtain ⟨fo01, fo02, fo03, fo04⟩ := fo0
  rw [rounds_succ]
  go_wp2
  go_quiet (fail)
  go_wp2
  rw [and_half _ (by omega) (by omega)]
  have fo1 : 0 ≤ (x0 * y1 + c0) % 4294967296 ∧ (x0 * y1 + c0) % 4294967296 ≤ 4294967295 ∧ 0 ≤ (x0 * y1 + c0) / 4294967296 ∧ (x0 * y1 + c0) / 4294967296 ≤ 4294967295 := by omega
  have Eo1 := Lib.hid (show (x0 * y1 + c0) = (x0 * y1 + c0) / 4294967296 * 4294967296 + (x0 * y1 + c0) % 4294967296 by omega)
  generalize (x0 * y1 + c0) % 4294967296 = o1 at *
  generalize (x0 * y1 + c0) / 4294967296 = o2 at *
  obtain ⟨fo11, fo12, fo13, fo14⟩ := fo1
  rw [rounds_succ]
  go_wp2
  rw [rounds_succ]
  go_wp2
  refine wp_loop_rounds 3 ?_
  rw [rounds_succ]
  go_wp2
  go_quiet (fail)
  go_wp2
  rw [and_half _ (by omega) (by omega)]
  have fq1 : 0 ≤ (x1 * y0 + o1) % 4294967296 ∧ (x1 * y0 + o1) % 4294967296 ≤ 4294967295 ∧ 0 ≤ (x1 * y0 + o1) / 4294967296 ∧ (x1 * y0 + o1) / 4294967296 ≤ 4294967295 := by omega
  have Eq1 := Lib.hid (show (x1 * y0 + o1) = (x1 * y0 + o1) / 4294967296 * 4294967296 + (x1 * y0 + o1) % 4294967296 by omega)
  generalize (x1 * y0 + o1) % 4294967296 = q1 at *
  generalize (x1 * y0 + o1) / 4294967296 = c1 at *
  obtain ⟨fq11, fq12, fq13, fq14⟩ := fq1
  rw [rounds_succ]
  go_wp2
  go_quiet (fail)
  go_wp2
  rw [and_half _ (by omega) (by omega)]
  have fq2 : 0 ≤ (x1 * y1 + o2 + c1) % 4294967296 ∧ (x1 * y1 + o2 + c1) % 4294967296 ≤ 4294967295 ∧ 0 ≤ (x1 * y1 + o2 + c1) / 4294967296 ∧ (x1 * y1 + o2 + c1) / 4294967296 ≤ 4294967295 := by omega
  have Eq2 := Lib.hid (show (x1 * y1 + o2 + c1) = (x1 * y1 + o2 + c1) / 4294967296 * 4294967296 + (x1 * y1 + o2 + c1) % 4294967296 by omega)
  generalize (x1 * y1 + o2 + c1) % 4294967296 = q2 at *
  generalize (x1 * y1 + o2 + c1) / 4294967296 = q3 at *
  obtain ⟨fq21, fq22, fq23, fq24⟩ := fq2
  rw [rounds_succ]
  go_wp2
  rw [rounds_succ]
  go_wp2
  go_quiet (fail)
  go_wp2
  go_ret2
  have e := mul_math hA.out hB.out Eo0.out Eo1.out Eq1.out Eq2.out
  refine ⟨R2 ?_ ?_, ?_⟩
  · rw [or_join 32 _ _ (by omega) (by omega) (by omega) (by omega) (by omega) (by omega)]; omega
  · rw [or_join 32 _ _ (by omega) (by omega) (by omega) (by omega) (by omega) (by omega)]; omega
  · exact (by repeat (first | exact Below.refl _ _ | refine belowN ?_ _ | refine Below.drew ?_ | refine Below.alloc ?_ (by first | exact Nat.le_refl _ | (simp; done) | (simp; omega) | omega) _))
end Go.Proofs.YtfpofmifmapmfaaGreatDoor

namespace Go.Proofs.YtfpofmifmapmfaaGreatDoor
open Go.RowKit
set_option linter.unusedVariables false
set_option linter.unusedSimpArgs false
theorem mul_le_left {a b c : Int} (h : b ≤ c) (ha : 0 ≤ a) : a * b ≤ a * c := Int.mul_le_mul_of_nonneg_left h ha
structure DivIn (bh bl rest low : Int) : Prop where
  h1 : 2147483648 ≤ bh
  h2 : bh ≤ 4294967295
  l1 : 0 ≤ bl
  l2 : bl ≤ 4294967295
  r1 : 0 ≤ rest
  r2 : rest < bh * 4294967296 + bl
  w1 : 0 ≤ low
  w2 : low ≤ 4294967295
def dq (bh bl rest low : Int) : Int := (rest * 4294967296 + low) / (bh * 4294967296 + bl)
section
variable {bh bl rest low : Int} (H : DivIn bh bl rest low)
include H
theorem dq_nonneg : 0 ≤ dq bh bl rest low := by
  obtain ⟨h1, h2, l1, l2, r1, r2, w1, w2⟩ := H
  exact Int.ediv_nonneg (by omega) (by omega)
theorem dq_le : dq bh bl rest low ≤ 4294967295 := by
  obtain ⟨h1, h2, l1, l2, r1, r2, w1, w2⟩ := H
  have : dq bh bl rest low < 4294967296 := by
    refine (Int.ediv_lt_iff_lt_mul (by omega)).2 ?_
    omega
  omega
theorem dq_iff (d : Int) : d ≤ dq bh bl rest low ↔ d * bl ≤ (rest - d * bh) * 4294967296 + low := by
  obtain ⟨h1, h2, l1, l2, r1, r2, w1, w2⟩ := H
  unfold dq
  rw [Int.le_ediv_iff_mul_le (by omega)]
  have : d * (bh * 4294967296 + bl) = d * bh * 4294967296 + d * bl := by grind
  omega
theorem dq_first : dq bh bl rest low ≤ rest / bh := by
  have hd := (dq_iff H (dq bh bl rest low)).1 (Int.le_refl _)
  have h0 := dq_nonneg H
  obtain ⟨h1, h2, l1, l2, r1, r2, w1, w2⟩ := H
  refine (Int.le_ediv_iff_mul_le (by omega)).2 ?_
  have := Int.mul_nonneg h0 l1
  omega
theorem first_le : rest / bh ≤ 4294967297 := by
  obtain ⟨h1, h2, l1, l2, r1, r2, w1, w2⟩ := H
  have : rest / bh < 4294967298 := (Int.ediv_lt_iff_lt_mul (by omega)).2 (by omega)
  omega
structure DivAt (bh bl rest low : Int) (d l : Int) : Prop where
  ge : dq bh bl rest low ≤ d
  le : d ≤ 4294967297
  e : l = rest - d * bh
  l0 : 0 ≤ l
  l1 : l ≤ 4294967295
theorem div_start : DivAt bh bl rest low (rest / bh) (rest % bh) := by
  have a := dq_first H
  have b := first_le H
  obtain ⟨h1, h2, l1, l2, r1, r2, w1, w2⟩ := H
  have c := Int.emod_nonneg rest (show bh ≠ 0 by omega)
  have d := Int.emod_lt_of_pos rest (show 0 < bh by omega)
  have e := Int.emod_add_mul_ediv rest bh
  exact ⟨a, b, by rw [Int.mul_comm]; omega, c, by omega⟩
theorem div_next {d l : Int} (A : DivAt bh bl rest low d l) (t : 4294967295 < d ∨ l * 4294967296 + low < d * bl) (hl : l + bh ≤ 4294967295) : DivAt bh bl rest low (d - 1) (l + bh) := by
  obtain ⟨a, b, rfl, c, e⟩ := A
  have q := dq_le H
  have i := dq_iff H d
  obtain ⟨h1, h2, l1, l2, r1, r2, w1, w2⟩ := H
  refine ⟨?_, by omega, by grind, by omega, hl⟩
  rcases t with t | t
  · omega
  · have : ¬ d ≤ dq bh bl rest low := fun hh => by have := i.1 hh; omega
    omega
theorem div_leave {d l : Int} (A : DivAt bh bl rest low d l) (t : ¬ (4294967295 < d ∨ l * 4294967296 + low < d * bl)) : d = dq bh bl rest low := by
  obtain ⟨a, b, rfl, c, e⟩ := A
  have i := (dq_iff H d).2 (by omega)
  omega
theorem div_break {d l : Int} (A : DivAt bh bl rest low d l) (t : 4294967295 < d ∨ l * 4294967296 + low < d * bl) (hl : 4294967295 < l + bh) : d - 1 = dq bh bl rest low := by
  obtain ⟨a, b, rfl, c, e⟩ := A
  have q := dq_le H
  have i := dq_iff H d
  have i2 := (dq_iff H (d - 1)).2
  obtain ⟨h1, h2, l1, l2, r1, r2, w1, w2⟩ := H
  have g : dq bh bl rest low ≤ d - 1 := by
    rcases t with t | t
    · omega
    · have : ¬ d ≤ dq bh bl rest low := fun hh => by have := i.1 hh; omega
      omega
  have e1 : (d - 1) * bh = d * bh - bh := by grind
  have e2 : (d - 1) * bl = d * bl - bl := by grind
  have dle : d - 1 ≤ 4294967295 := by
    by_cases hd : d ≤ 4294967296
    · omega
    · have : d = 4294967297 := by omega
      subst this
      omega
  have m : (d - 1) * bl ≤ 4294967295 * bl := Int.mul_le_mul_of_nonneg_right dle l1
  have : d - 1 ≤ dq bh bl rest low := i2 (by omega)
  omega
theorem div_rest : 0 ≤ rest * 4294967296 + low - dq bh bl rest low * (bh * 4294967296 + bl) ∧ rest * 4294967296 + low - dq bh bl rest low * (bh * 4294967296 + bl) < bh * 4294967296 + bl := by
  obtain ⟨h1, h2, l1, l2, r1, r2, w1, w2⟩ := H
  have c := Int.emod_nonneg (rest * 4294967296 + low) (show bh * 4294967296 + bl ≠ 0 by omega)
  have d := Int.emod_lt_of_pos (rest * 4294967296 + low) (show 0 < bh * 4294967296 + bl by omega)
  have e := Int.emod_add_mul_ediv (rest * 4294967296 + low) (bh * 4294967296 + bl)
  unfold dq
  rw [Int.mul_comm (bh * 4294967296 + bl)] at e
  omega
end
def DivR (bh bl R0 w0 w1 : Int) (x q i : Value) : Prop := ∃ R Q : Int, x = .int .u64 R ∧ q = .int .u64 Q ∧ 0 ≤ R ∧ R < bh * 4294967296 + bl ∧ 0 ≤ Q ∧
  ((i = .int .i64 0 ∧ R = R0 ∧ Q = 0) ∨
   (i = .int .i64 1 ∧ R0 * 4294967296 + w0 = Q * (bh * 4294967296 + bl) + R ∧ Q ≤ 4294967295) ∨
   (i = .int .i64 2 ∧ (R0 * 4294967296 + w0) * 4294967296 + w1 = Q * (bh * 4294967296 + bl) + R ∧ Q ≤ 18446744073709551615))
def DivL (bh bl rest low : Int) (x y : Value) : Prop := ∃ d l : Int, x = .int .u64 d ∧ y = .int .u64 l ∧ DivAt bh bl rest low d l
theorem div_join {hi lo b : Int} {n : Nat} (h0 : 0 ≤ hi) (hb : hi < b) (h1 : b * (2:Int)^n ≤ 18446744073709551615) :
    (hi * 18446744073709551616 + lo) * (2:Int)^n = (hi * (2:Int)^n % 18446744073709551616 + lo * (2:Int)^n / 18446744073709551616) * 18446744073709551616 + lo * (2:Int)^n % 18446744073709551616 := by
  have e1 : (hi * 18446744073709551616 + lo) * (2:Int)^n = hi * (2:Int)^n * 18446744073709551616 + lo * (2:Int)^n := by grind
  have e2 := Int.mul_nonneg h0 (Int.le_of_lt (ipow_pos n))
  have e3 := Int.mul_le_mul_of_nonneg_right (Int.le_of_lt hb) (Int.le_of_lt (ipow_pos n))
  omega
theorem div_top {hi lo b : Int} {n : Nat} (h0 : 0 ≤ hi) (hb : hi < b) (l0 : 0 ≤ lo) (l1 : lo ≤ 18446744073709551615) (h1 : b * (2:Int)^n ≤ 18446744073709551615) :
    hi * (2:Int)^n % 18446744073709551616 + lo * (2:Int)^n / 18446744073709551616 < b * (2:Int)^n := by
  have e2 := Int.mul_nonneg h0 (Int.le_of_lt (ipow_pos n))
  have e3 : (hi + 1) * (2:Int)^n ≤ b * (2:Int)^n := Int.mul_le_mul_of_nonneg_right (by omega) (Int.le_of_lt (ipow_pos n))
  have e4 : (hi + 1) * (2:Int)^n = hi * (2:Int)^n + (2:Int)^n := by grind
  have e5 : lo * (2:Int)^n < 18446744073709551616 * (2:Int)^n := Int.mul_lt_mul_of_pos_right (by omega) (ipow_pos n)
  omega
theorem shl_block {b : Int} {n : Nat} (hn : n ≤ 64) (hn1 : n < 64) (h0 : 0 ≤ b) (h1 : blen b + n = 64) : b * (2:Int)^n ≤ 18446744073709551615 ∧ 9223372036854775808 ≤ b * (2:Int)^n := by
  have hb : 0 < b := by
    by_cases h : 0 < b
    · exact h
    · rw [blen_zero (by omega)] at h1
      have : n = 64 := by omega
      exact absurd hn1 (by omega)
  have e := blen_mul_pow n hb
  have a1 := blen_lt (b * (2:Int)^n)
  have hpos : 0 < b * (2:Int)^n := Int.mul_pos hb (ipow_pos n)
  have a2 := blen_le hpos
  rw [e, h1] at a1 a2
  exact ⟨by have : (64:Int).toNat = 64 := rfl; rw [this] at a1; omega, by have : ((64:Int)-1).toNat = 63 := rfl; rw [this] at a2; omega⟩
theorem div_vals {bh bl R w bb d Q : Int} (H : DivIn bh bl R w) (hbb : bh * 4294967296 + bl = bb) (hd : d = dq bh bl R w) (hQ : 0 ≤ Q) (hQ1 : Q ≤ 4294967295) :
    IntKind.u64.wrap (IntKind.u64.wrap (IntKind.u64.wrap (R * 4294967296) + w) - IntKind.u64.wrap (d * bb)) = R * 4294967296 + w - d * bb ∧
    bits BinOp.or IntKind.u64 (IntKind.u64.wrap (Q * 4294967296)) d = Q * 4294967296 + d ∧ 0 ≤ R * 4294967296 + w - d * bb ∧ R * 4294967296 + w - d * bb < bb ∧ 0 ≤ d ∧ d ≤ 4294967295 := by
  have a := div_rest H
  have b := dq_nonneg H
  have c := dq_le H
  obtain ⟨h1, h2, l1, l2, r1, r2, w1, w2⟩ := H
  rw [← hd] at a b c
  rw [hbb] at a
  refine ⟨?_, ?_, a.1, a.2, b, c⟩
  · simp only [IntKind.wrap_u64]; omega
  · rw [wrap_u64_in (by omega) (by omega), or_join 32 _ _ (by omega) (by omega) (by omega) (by omega) (by omega) (by omega)]
theorem divR_1 {bh bl R R0 w0 w1 bb d Q : Int} (H : DivIn bh bl R w0) (hbb : bh * 4294967296 + bl = bb) (hd : d = dq bh bl R w0) (hR : R = R0) (hQ : Q = 0) :
    DivR bh bl R0 w0 w1 (.int .u64 (IntKind.u64.wrap (IntKind.u64.wrap (IntKind.u64.wrap (R * 4294967296) + w0) - IntKind.u64.wrap (d * bb)))) (.int .u64 (bits BinOp.or IntKind.u64 (IntKind.u64.wrap (Q * 4294967296)) d)) (.int .i64 1) := by
  obtain ⟨a, b, c, e, f, g⟩ := div_vals (Q := Q) H hbb hd (by omega) (by omega)
  subst hR hQ
  exact ⟨_, _, vint a, vint b, c, by omega, by omega, Or.inr (Or.inl ⟨rfl, by rw [hbb, show (0:Int) * 4294967296 + d = d by omega]; omega, by omega⟩)⟩
theorem divR_2 {bh bl R R0 w0 w1 bb d Q : Int} (H : DivIn bh bl R w1) (hbb : bh * 4294967296 + bl = bb) (hd : d = dq bh bl R w1) (hR : R0 * 4294967296 + w0 = Q * (bh * 4294967296 + bl) + R) (hQ0 : 0 ≤ Q) (hQ : Q ≤ 4294967295) :
    DivR bh bl R0 w0 w1 (.int .u64 (IntKind.u64.wrap (IntKind.u64.wrap (IntKind.u64.wrap (R * 4294967296) + w1) - IntKind.u64.wrap (d * bb)))) (.int .u64 (bits BinOp.or IntKind.u64 (IntKind.u64.wrap (Q * 4294967296)) d)) (.int .i64 2) := by
  obtain ⟨a, b, c, e, f, g⟩ := div_vals (Q := Q) H hbb hd (by omega) (by omega)
  refine ⟨_, _, vint a, vint b, c, by omega, by omega, Or.inr (Or.inr ⟨rfl, ?_, by omega⟩)⟩
  rw [hbb] at hR ⊢
  rw [hR]; grind
theorem div_end {X P Q R b : Int} (hP : 0 < P) (e : X * P = Q * (b * P) + R) (r0 : 0 ≤ R) (r1 : R < b * P) : Q = X / b ∧ R / P = X % b := by
  have e2 : R = (X - Q * b) * P := by grind
  have h0 : 0 ≤ X - Q * b := by
    by_cases h : 0 ≤ X - Q * b
    · exact h
    · have := Int.mul_neg_of_neg_of_pos (show X - Q * b < 0 by omega) hP
      omega
  have h1 : X - Q * b < b := by
    rw [e2] at r1
    exact Int.lt_of_mul_lt_mul_right r1 (Int.le_of_lt hP)
  have hb : 0 < b := by omega
  have u := (Int.ediv_emod_unique (a := X) (b := b) (q := Q) (r := X - Q * b) hb).2 ⟨by grind, h0, h1⟩
  exact ⟨u.1.symm, by rw [u.2, e2, Int.mul_ediv_cancel _ (by omega)]⟩
set_option maxHeartbeats 4000000 in
theorem wDiv (hi lo b : Int) (w : World) (h0 : 0 ≤ hi) (hb : hi < b) (l0 : 0 ≤ lo) (l1 : lo ≤ 18446744073709551615) (hb' : b ≤ 18446744073709551615) :
    Calls Tryz.prog 255 #[.int .u64 hi, .int .u64 lo, .int .u64 b] w fun e w' => e = .returned (.tuple #[.int .u64 ((hi * 18446744073709551616 + lo) / b), .int .u64 ((hi * 18446744073709551616 + lo) % b), .int .i64 0]) ∧ Below w.heap.size w w' := by
  have hz : (b == 0) = false := by simp; omega
  have hr := blen_64 hb'
  have hr0 := blen_pos (show 0 < b by omega)
  go_enter Tryz.func255, Tryz.ntmps255
  go_wp2_with (refine (wLen b _ (by omega) hb').mono ?_; rintro e w' ⟨rfl, rfl⟩)
  have hs := shl_block (b := b) (n := (64 - blen b).toNat) (by omega) (by omega) (by omega) (by omega)
  rw [wrap_u64_in (x := b * 2^(64 - blen b).toNat) (by omega) (by omega)]
  have hs0 : 0 ≤ 64 - blen b := by omega
  have hs1 : 64 - blen b < 64 := by omega
  generalize 64 - blen b = s at *
  clear hz hr hr0
  have HB := Lib.hid (rfl : b * (2:Int)^s.toNat = b * (2:Int)^s.toNat)
  generalize hbb : b * (2:Int)^s.toNat = bb at hs HB ⊢
  have HBB := Lib.hid hbb
  clear hbb HB
  obtain ⟨hs2, hs3⟩ := hs
  go_quiet (fail)
  rw [IntKind.wrap_u64, show (64 - s).toNat = 64 - s.toNat by omega, shl_join (by omega) l0 l1]
  go_wp2
  have HL := Lib.hid (and_half (IntKind.u64.wrap (lo * 2^s.toNat)) (by rw [IntKind.wrap_u64]; omega) (by rw [IntKind.wrap_u64]; omega))
  go_region
  go_wp2
  rw [HL.out, IntKind.wrap_u64]
  have f1 := Lib.hid (show lo * 2^s.toNat % 18446744073709551616 = (lo * 2^s.toNat % 18446744073709551616 / 4294967296) * 4294967296 + lo * 2^s.toNat % 18446744073709551616 % 4294967296 by omega)
  have f2 : 0 ≤ lo * 2^s.toNat % 18446744073709551616 % 4294967296 := by omega
  have f3 : lo * 2^s.toNat % 18446744073709551616 % 4294967296 ≤ 4294967295 := by omega
  have f4 : 0 ≤ lo * 2^s.toNat % 18446744073709551616 / 4294967296 := by omega
  have f5 : lo * 2^s.toNat % 18446744073709551616 / 4294967296 ≤ 4294967295 := by omega
  have g1 := Lib.hid (show (hi * 18446744073709551616 + lo) * 2^s.toNat = (hi * 2^s.toNat % 18446744073709551616 + lo * 2^s.toNat / 18446744073709551616) * 18446744073709551616 + lo * 2^s.toNat % 18446744073709551616 from div_join h0 hb (by rw [HBB.out]; omega))
  have g2 : 0 ≤ hi * 2^s.toNat % 18446744073709551616 + lo * 2^s.toNat / 18446744073709551616 := by have := Int.mul_nonneg l0 (Int.le_of_lt (ipow_pos s.toNat)); omega
  have g3 : hi * 2^s.toNat % 18446744073709551616 + lo * 2^s.toNat / 18446744073709551616 < bb := by
    have e := div_top h0 hb l0 l1 (show b * 2^s.toNat ≤ 18446744073709551615 by rw [HBB.out]; omega)
    rwa [HBB.out] at e
  generalize lo * 2^s.toNat % 18446744073709551616 / 4294967296 = w0 at *
  generalize lo * 2^s.toNat % 18446744073709551616 % 4294967296 = w1 at *
  generalize hi * 2^s.toNat % 18446744073709551616 + lo * 2^s.toNat / 18446744073709551616 = R0 at *
  clear HL
  have hbh0 : 2147483648 ≤ bb / 4294967296 := by omega
  have hbh1 : bb / 4294967296 ≤ 4294967295 := by omega
  have hbl0 : 0 ≤ bb % 4294967296 := by omega
  have hbl1 : bb % 4294967296 ≤ 4294967295 := by omega
  have hbe := Lib.hid (show bb / 4294967296 * 4294967296 + bb % 4294967296 = bb by omega)
  have hba := and_half bb (by omega) (by omega)
  go_loop [10, 12, 44] (fun x q i => DivR (bb / 4294967296) (bb % 4294967296) R0 w0 w1 x q i) (fun _ _ i => (2 - intOf i).toNat)
  case atStart => exact ⟨_, _, rfl, rfl, g2, by rw [hbe.out]; exact g3, by omega, Or.inl ⟨rfl, rfl, rfl⟩⟩
  case round =>
    obtain ⟨R, Q, rfl, rfl, hR0, hR1, hQ0, hk⟩ := hrel
    rcases hk with ⟨rfl, k1, k2⟩ | ⟨rfl, k1, k2⟩ | ⟨rfl, k1, k2⟩
    · have K1 := Lib.hid k1
      have K2 := Lib.hid k2
      clear k1 k2
      have HD : DivIn (bb / 4294967296) (bb % 4294967296) R w0 := ⟨hbh0, hbh1, hbl0, hbl1, hR0, hR1, by assumption, by assumption⟩
      go_wp2
      have hd := div_start HD
      have hq0 := dq_nonneg HD
      have hq1 := dq_le HD
      go_loop [14, 15] (fun x y => DivL (bb / 4294967296) (bb % 4294967296) R w0 x y) (fun x _ => (intOf x).toNat)
      case atStart => exact ⟨_, _, rfl, rfl, hd⟩
      case round =>
        obtain ⟨d, l, rfl, rfl, hA⟩ := hrel
        have d1 := hA.le
        have d0 := Int.le_trans hq0 hA.ge
        have l0' := hA.l0
        have l1' := hA.l1
        by_cases t1 : 4294967295 < d
        · by_cases t2 : 4294967295 < l + bb / 4294967296
          · have HX := Lib.hid (div_break HD hA (Or.inl t1) t2)
            go_wp2
            exact ⟨divR_1 HD hbe.out HX.out K1.out K2.out, by simp [intOf]⟩
          · have HX := div_next HD hA (Or.inl t1) (by omega)
            go_wp2
            exact ⟨⟨_, _, rfl, rfl, HX⟩, by simp [intOf]; omega⟩
        · have p := mul_le_32 d0 (show d ≤ 4294967295 by omega) hbl0 hbl1
          obtain ⟨p0, p1⟩ := p
          have ho := or_join 32 (l * 4294967296) w0 (by omega) (by omega) (by omega) (by assumption) (by omega) (by omega)
          by_cases t2 : l * 4294967296 + w0 < d * (bb % 4294967296)
          · have hdpos : 1 ≤ d := by
              by_cases h : 1 ≤ d
              · exact h
              · have h : d = 0 := by omega
                rw [h, Int.zero_mul] at t2; omega
            by_cases t3 : 4294967295 < l + bb / 4294967296
            · have HX := Lib.hid (div_break HD hA (Or.inr t2) t3)
              go_wp2
              exact ⟨divR_1 HD hbe.out HX.out K1.out K2.out, by simp [intOf]⟩
            · have HX := div_next HD hA (Or.inr t2) (by omega)
              go_wp2
              exact ⟨⟨_, _, rfl, rfl, HX⟩, by simp [intOf]; omega⟩
          · have HX := Lib.hid (div_leave HD hA (by omega))
            go_wp2
            exact ⟨divR_1 HD hbe.out HX.out K1.out K2.out, by simp [intOf]⟩
    · have K1 := Lib.hid k1
      have K2 := Lib.hid k2
      clear k1 k2
      have HD : DivIn (bb / 4294967296) (bb % 4294967296) R w1 := ⟨hbh0, hbh1, hbl0, hbl1, hR0, hR1, by assumption, by assumption⟩
      go_wp2
      have hd := div_start HD
      have hq0 := dq_nonneg HD
      have hq1 := dq_le HD
      go_loop [14, 15] (fun x y => DivL (bb / 4294967296) (bb % 4294967296) R w1 x y) (fun x _ => (intOf x).toNat)
      case atStart => exact ⟨_, _, rfl, rfl, hd⟩
      case round =>
        obtain ⟨d, l, rfl, rfl, hA⟩ := hrel
        have d1 := hA.le
        have d0 := Int.le_trans hq0 hA.ge
        have l0' := hA.l0
        have l1' := hA.l1
        by_cases t1 : 4294967295 < d
        · by_cases t2 : 4294967295 < l + bb / 4294967296
          · have HX := Lib.hid (div_break HD hA (Or.inl t1) t2)
            go_wp2
            exact ⟨divR_2 HD hbe.out HX.out K1.out hQ0 K2.out, by simp [intOf]⟩
          · have HX := div_next HD hA (Or.inl t1) (by omega)
            go_wp2
            exact ⟨⟨_, _, rfl, rfl, HX⟩, by simp [intOf]; omega⟩
        · have p := mul_le_32 d0 (show d ≤ 4294967295 by omega) hbl0 hbl1
          obtain ⟨p0, p1⟩ := p
          have ho := or_join 32 (l * 4294967296) w1 (by omega) (by omega) (by omega) (by assumption) (by omega) (by omega)
          by_cases t2 : l * 4294967296 + w1 < d * (bb % 4294967296)
          · have hdpos : 1 ≤ d := by
              by_cases h : 1 ≤ d
              · exact h
              · have h : d = 0 := by omega
                rw [h, Int.zero_mul] at t2; omega
            by_cases t3 : 4294967295 < l + bb / 4294967296
            · have HX := Lib.hid (div_break HD hA (Or.inr t2) t3)
              go_wp2
              exact ⟨divR_2 HD hbe.out HX.out K1.out hQ0 K2.out, by simp [intOf]⟩
            · have HX := div_next HD hA (Or.inr t2) (by omega)
              go_wp2
              exact ⟨⟨_, _, rfl, rfl, HX⟩, by simp [intOf]; omega⟩
          · have HX := Lib.hid (div_leave HD hA (by omega))
            go_wp2
            exact ⟨divR_2 HD hbe.out HX.out K1.out hQ0 K2.out, by simp [intOf]⟩
    · have K1 := Lib.hid k1
      clear k1
      go_wp2
      go_quiet (fail)
      go_wp2
      go_ret3
      have e := div_end (X := hi * 18446744073709551616 + lo) (P := 2^s.toNat) (Q := Q) (R := R) (b := b) (ipow_pos _) (by
        have a1 := K1.out
        have a2 := g1.out
        have a3 := f1.out
        rw [hbe.out] at a1
        rw [HBB.out]
        omega) hR0 (by rw [HBB.out]; rw [hbe.out] at hR1; exact hR1)
      exact ⟨R3 e.1 e.2 rfl, (by repeat (first | exact Below.refl _ _ | refine belowN ?_ _ | refine Below.drew ?_ | refine Below.alloc ?_ (by first | exact Nat.le_refl _ | (simp; done) | (simp; omega) | omega) _))⟩
end Go.Proofs.YtfpofmifmapmfaaGreatDoor

namespace Go.Proofs.YtfpofmifmapmfaaGreatDoor
open Go.RowKit
set_option linter.unusedVariables false
set_option linter.unusedSimpArgs false
def W : Int := 18446744073709551616
theorem W_eq : W = 18446744073709551616 := rfl
theorem W_pos : 0 < W := by decide
theorem W_pow : W = (2:Int)^64 := rfl
def Ws (xs : List Int) : Prop := ∀ x ∈ xs, 0 ≤ x ∧ x ≤ 18446744073709551615
theorem Ws.nil : Ws [] := fun _ h => by simp at h
theorem Ws.cons {x : Int} {xs : List Int} (h0 : 0 ≤ x) (h1 : x ≤ 18446744073709551615) (h : Ws xs) : Ws (x :: xs) := fun y hy => by
  rcases List.mem_cons.1 hy with rfl | hy
  · exact ⟨h0, h1⟩
  · exact h y hy
theorem Ws.head {x : Int} {xs : List Int} (h : Ws (x :: xs)) : 0 ≤ x ∧ x ≤ 18446744073709551615 := h x (by simp)
theorem Ws.tail {x : Int} {xs : List Int} (h : Ws (x :: xs)) : Ws xs := fun y hy => h y (by simp [hy])
theorem Ws.getD {xs : List Int} (h : Ws xs) (i : Nat) : 0 ≤ xs.getD i 0 ∧ xs.getD i 0 ≤ 18446744073709551615 := by
  by_cases hi : i < xs.length
  · rw [List.getD_eq_getElem?_getD, List.getElem?_eq_getElem hi]; exact h _ (List.getElem_mem hi)
  · rw [List.getD_eq_getElem?_getD, List.getElem?_eq_none (by omega)]; simp
theorem Ws.append {xs ys : List Int} (h : Ws xs) (k : Ws ys) : Ws (xs ++ ys) := fun y hy => by
  rcases List.mem_append.1 hy with hy | hy
  · exact h y hy
  · exact k y hy
theorem Ws.take {xs : List Int} (h : Ws xs) (n : Nat) : Ws (xs.take n) := fun y hy => h y (List.mem_of_mem_take hy)
theorem Ws.drop {xs : List Int} (h : Ws xs) (n : Nat) : Ws (xs.drop n) := fun y hy => h y (List.mem_of_mem_drop hy)
theorem Ws.set {xs : List Int} (h : Ws xs) (n : Nat) {v : Int} (h0 : 0 ≤ v) (h1 : v ≤ 18446744073709551615) : Ws (xs.set n v) := fun y hy => by
  rcases List.mem_or_eq_of_mem_set hy with hy | rfl
  · exact h y hy
  · exact ⟨h0, h1⟩
theorem Ws.zeros (n : Nat) : Ws (List.replicate n 0) := fun y hy => by
  rw [List.mem_replicate] at hy; omega
def val : List Int → Int
  | [] => 0
  | x :: r => x + W * val r
theorem val_nil : val [] = 0 := rfl
theorem val_cons (x : Int) (r : List Int) : val (x :: r) = x + W * val r := rfl
theorem val_nonneg : ∀ {xs : List Int}, Ws xs → 0 ≤ val xs
  | [], _ => Int.le_refl _
  | x :: r, h => by
    have a := val_nonneg h.tail
    have b := h.head
    have c := Int.mul_nonneg (Int.le_of_lt W_pos) a
    rw [val_cons]; omega
theorem val_lt : ∀ {xs : List Int}, Ws xs → val xs < W ^ xs.length
  | [], _ => by simp [val_nil]
  | x :: r, h => by
    have a := val_lt h.tail
    have b := h.head
    rw [val_cons, List.length_cons, Int.pow_succ, Int.mul_comm (W ^ r.length)]
    have c : W * (val r + 1) ≤ W * W ^ r.length := Int.mul_le_mul_of_nonneg_left (by omega) (Int.le_of_lt W_pos)
    have d : W * (val r + 1) = W * val r + W := by grind
    have := W_eq
    omega
theorem val_append (xs ys : List Int) : val (xs ++ ys) = val xs + W ^ xs.length * val ys := by
  induction xs with
  | nil => simp [val_nil]
  | cons x r ih =>
    rw [List.cons_append, val_cons, ih, val_cons, List.length_cons, Int.pow_succ]
    grind
theorem val_zeros (n : Nat) : val (List.replicate n 0) = 0 := by
  induction n with
  | zero => rfl
  | succ n ih => rw [List.replicate_succ, val_cons, ih]; simp
theorem val_single (x : Int) : val [x] = x := by simp [val_cons, val_nil]
theorem Wpow_pos (n : Nat) : 0 < W ^ n := Int.pow_pos W_pos
theorem val_take_drop (xs : List Int) (n : Nat) (h : n ≤ xs.length) : val xs = val (xs.take n) + W ^ n * val (xs.drop n) := by
  have := val_append (xs.take n) (xs.drop n)
  rw [List.take_append_drop, List.length_take, Nat.min_eq_left h] at this
  exact this
theorem val_take_succ (xs : List Int) (n : Nat) (h : n < xs.length) : val (xs.take (n + 1)) = val (xs.take n) + W ^ n * xs.getD n 0 := by
  rw [List.take_succ_eq_append_getElem h, val_append, val_single, List.length_take, Nat.min_eq_left (by omega), List.getD_eq_getElem?_getD, List.getElem?_eq_getElem h]; rfl
theorem val_drop_succ (xs : List Int) (n : Nat) (h : n < xs.length) : val (xs.drop n) = xs.getD n 0 + W * val (xs.drop (n + 1)) := by
  rw [List.drop_eq_getElem_cons h, val_cons, List.getD_eq_getElem?_getD, List.getElem?_eq_getElem h]; rfl
theorem val_set (xs : List Int) (n : Nat) (v : Int) (h : n < xs.length) : val (xs.set n v) = val xs + W ^ n * (v - xs.getD n 0) := by
  induction xs generalizing n with
  | nil => simp at h
  | cons x r ih =>
    cases n with
    | zero => simp [val_cons]; omega
    | succ n =>
      rw [List.set_cons_succ, val_cons, ih n (by simpa using h), val_cons, Int.pow_succ, List.getD_cons_succ]
      grind
def limbsF : Nat → Int → List Int
  | 0, _ => []
  | f + 1, n => if n ≤ 0 then [] else (n % W) :: limbsF f (n / W)
def limbs (n : Int) : List Int := limbsF n.toNat n
theorem limbsF_eq : ∀ (f g : Nat) (n : Int), n ≤ f → n ≤ g → limbsF f n = limbsF g n
  | 0, 0, _, _, _ => rfl
  | 0, g + 1, n, h, _ => by simp only [limbsF]; rw [if_pos (by omega)]
  | f + 1, 0, n, _, h => by simp only [limbsF]; rw [if_pos (by omega)]
  | f + 1, g + 1, n, h1, h2 => by
    simp only [limbsF]
    split
    · rfl
    · rename_i hn
      have := W_eq
      have d : n / W ≤ n - 1 := by rw [this]; omega
      rw [limbsF_eq f g (n / W) (by omega) (by omega)]
theorem limbs_nonpos {n : Int} (h : n ≤ 0) : limbs n = [] := by
  unfold limbs
  cases n.toNat with
  | zero => rfl
  | succ k => simp only [limbsF]; rw [if_pos h]
theorem limbs_zero : limbs 0 = [] := limbs_nonpos (Int.le_refl _)
theorem limbs_pos {n : Int} (h : 0 < n) : limbs n = (n % W) :: limbs (n / W) := by
  unfold limbs
  obtain ⟨k, hk⟩ : ∃ k, n.toNat = k + 1 := ⟨n.toNat - 1, by omega⟩
  rw [hk]
  simp only [limbsF]
  rw [if_neg (by omega)]
  have := W_eq
  rw [limbsF_eq k (n / W).toNat (n / W) (by rw [this]; omega) (by omega)]
theorem limbs_ws (n : Int) : Ws (limbs n) := by
  suffices ∀ (k : Nat) (n : Int), n ≤ k → Ws (limbs n) from this n.toNat n (by omega)
  intro k
  induction k with
  | zero => intro n h; rw [limbs_nonpos (by omega)]; exact Ws.nil
  | succ k ih =>
    intro n h
    by_cases h0 : 0 < n
    · rw [limbs_pos h0]
      have := W_eq
      exact Ws.cons (by rw [this]; omega) (by rw [this]; omega) (ih _ (by rw [this]; omega))
    · rw [limbs_nonpos (by omega)]; exact Ws.nil
theorem val_limbs {n : Int} (h : 0 ≤ n) : val (limbs n) = n := by
  suffices ∀ (k : Nat) (n : Int), 0 ≤ n → n ≤ k → val (limbs n) = n from this n.toNat n h (by omega)
  intro k
  induction k with
  | zero => intro n h0 h; rw [limbs_nonpos (by omega)]; simp [val_nil]; omega
  | succ k ih =>
    intro n h0 h
    by_cases h1 : 0 < n
    · have := W_eq
      rw [limbs_pos h1, val_cons, ih _ (by rw [this]; omega) (by rw [this]; omega)]
      rw [this]; omega
    · rw [limbs_nonpos (by omega)]; simp [val_nil]; omega
theorem limbs_cons {x : Int} {n : Int} (h0 : 0 ≤ x) (h1 : x ≤ 18446744073709551615) (hn : 0 ≤ n) (hp : 0 < x + W * n) : limbs (x + W * n) = x :: limbs n := by
  have := W_eq
  rw [limbs_pos hp]
  congr 1
  · rw [this]; omega
  · congr 1; rw [this]; omega
theorem limbs_val : ∀ {xs : List Int}, Ws xs → limbs (val xs) = xs.take (limbs (val xs)).length ∧ ∀ i, (limbs (val xs)).length ≤ i → xs.getD i 0 = 0
  | [], _ => by simp [val_nil, limbs_zero]
  | x :: r, h => by
    obtain ⟨a, b⟩ := limbs_val h.tail
    have hx := h.head
    have hr := val_nonneg h.tail
    rw [val_cons]
    by_cases hp : 0 < x + W * val r
    · rw [limbs_cons hx.1 hx.2 hr hp]
      refine ⟨by rw [List.length_cons, List.take_succ_cons, ← a], fun i hi => ?_⟩
      cases i with
      | zero => simp at hi
      | succ i => rw [List.getD_cons_succ]; exact b i (by simpa using hi)
    · have hW := W_eq
      have e1 : x = 0 ∧ val r = 0 := by rw [hW] at hp; omega
      rw [e1.1, e1.2]
      have hl : limbs ((0:Int) + W * 0) = [] := by simp [limbs_zero]
      rw [hl]
      refine ⟨by simp, fun i hi => ?_⟩
      rw [e1.2, limbs_zero] at b
      cases i with
      | zero => rfl
      | succ i => rw [List.getD_cons_succ]; exact b i (by simp)
theorem limbs_len_le {xs : List Int} (h : Ws xs) : (limbs (val xs)).length ≤ xs.length := by
  have a := (limbs_val h).1
  have := congrArg List.length a
  rw [List.length_take] at this
  omega
theorem limbs_getD {xs : List Int} (h : Ws xs) {i : Nat} (hi : i < (limbs (val xs)).length) : (limbs (val xs)).getD i 0 = xs.getD i 0 := by
  have a := (limbs_val h).1
  rw [a, List.getD_eq_getElem?_getD, List.getD_eq_getElem?_getD, List.getElem?_take, if_pos hi]
theorem limbs_last {n : Int} (h : 0 < n) : (limbs n).getD ((limbs n).length - 1) 0 ≠ 0 := by
  suffices ∀ (k : Nat) (n : Int), 0 < n → n ≤ k → (limbs n).getD ((limbs n).length - 1) 0 ≠ 0 from this n.toNat n h (by omega)
  intro k
  induction k with
  | zero => intro n h0 h; omega
  | succ k ih =>
    intro n h0 h
    have hW := W_eq
    rw [limbs_pos h0]
    by_cases h1 : 0 < n / W
    · have := ih (n / W) h1 (by rw [hW]; omega)
      have hl : (limbs (n / W)) ≠ [] := by rw [limbs_pos h1]; simp
      obtain ⟨y, r, e⟩ := List.exists_cons_of_ne_nil hl
      rw [e] at this ⊢
      simpa using this
    · rw [limbs_nonpos (by omega)]
      have : n % W ≠ 0 := by rw [hW] at h1 ⊢; omega
      simpa using this
theorem limbs_len_zero {n : Int} (h0 : 0 ≤ n) : (limbs n).length = 0 ↔ n = 0 := by
  constructor
  · intro h
    by_cases hp : 0 < n
    · rw [limbs_pos hp] at h; simp at h
    · omega
  · rintro rfl; rw [limbs_zero]; rfl
theorem limbs_len_lt {n : Int} (h0 : 0 ≤ n) : n < W ^ (limbs n).length := by
  have := val_lt (limbs_ws n)
  rwa [val_limbs h0] at this
theorem limbs_len_ge {n : Int} (h : 0 < n) : W ^ ((limbs n).length - 1) ≤ n := by
  have hl : (limbs n).length ≠ 0 := fun e => by have := (limbs_len_zero (by omega)).1 e; omega
  have e := val_take_succ (limbs n) ((limbs n).length - 1) (by omega)
  rw [show (limbs n).length - 1 + 1 = (limbs n).length by omega, List.take_length, val_limbs (by omega)] at e
  have a := limbs_last h
  have b := (limbs_ws n).getD ((limbs n).length - 1)
  have c := val_nonneg ((limbs_ws n).take ((limbs n).length - 1))
  have d := Int.mul_le_mul_of_nonneg_left (show (1:Int) ≤ (limbs n).getD ((limbs n).length - 1) 0 by omega) (Int.le_of_lt (Wpow_pos ((limbs n).length - 1)))
  omega
theorem Wpow_eq (k : Nat) : W ^ k = (2:Int) ^ (64 * k) := by rw [W_pow, ← Int.pow_mul]
theorem limbs_len_le_of {n : Int} {k : Nat} (h : n < W ^ k) : (limbs n).length ≤ k := by
  by_cases h0 : 0 < n
  · have a := limbs_len_ge h0
    have b : W ^ ((limbs n).length - 1) < W ^ k := by omega
    rw [Wpow_eq, Wpow_eq] at b
    have := ipow_lt_of b
    omega
  · rw [limbs_nonpos (by omega)]; simp
theorem limbs_len_gt_of {n : Int} {k : Nat} (h : W ^ k ≤ n) : k < (limbs n).length := by
  have h0 : 0 ≤ n := by have := Wpow_pos k; omega
  have a := limbs_len_lt h0
  have b : W ^ k < W ^ (limbs n).length := by omega
  rw [Wpow_eq, Wpow_eq] at b
  have := ipow_lt_of b
  omega
theorem limbs_mono {m n : Int} (h0 : 0 ≤ m) (h : m ≤ n) : (limbs m).length ≤ (limbs n).length := limbs_len_le_of (by have := limbs_len_lt (show 0 ≤ n by omega); omega)
theorem limbs_inj {m n : Int} (hm : 0 ≤ m) (hn : 0 ≤ n) (h : limbs m = limbs n) : m = n := by rw [← val_limbs hm, h, val_limbs hn]
theorem blen_limbs {n : Int} (h : 0 < n) : blen n = 64 * ((limbs n).length - 1 : Nat) + blen ((limbs n).getD ((limbs n).length - 1) 0) := by
  have hl : (limbs n).length ≠ 0 := fun e => by have := (limbs_len_zero (by omega)).1 e; omega
  have e := val_take_succ (limbs n) ((limbs n).length - 1) (by omega)
  rw [show (limbs n).length - 1 + 1 = (limbs n).length by omega, List.take_length, val_limbs (by omega)] at e
  have a := limbs_last h
  have b := (limbs_ws n).getD ((limbs n).length - 1)
  have c := val_nonneg ((limbs_ws n).take ((limbs n).length - 1))
  have d := val_lt ((limbs_ws n).take ((limbs n).length - 1))
  rw [List.length_take, Nat.min_eq_left (by omega)] at d
  have g := limbs_len_ge h
  rw [Wpow_eq] at g d e
  rw [blen_shr _ g]
  have : n / (2:Int)^(64 * ((limbs n).length - 1)) = (limbs n).getD ((limbs n).length - 1) 0 := by
    rw [Int.ediv_emod_unique (ipow_pos _) |>.2 ⟨_, c, d⟩ |>.1]
    omega
  rw [this]; omega
theorem limbs_step_zero {xs : List Int} (hx : Ws xs) {k : Nat} (h : (limbs (val xs)).length ≤ k) (h0 : 0 < k) (hz : xs.getD (k - 1) 0 = 0) : (limbs (val xs)).length ≤ k - 1 := by
  by_cases e : (limbs (val xs)).length = k
  · exfalso
    have hp : 0 < val xs := by
      have := val_nonneg hx
      have := (limbs_len_zero this).2
      omega
    have a := limbs_last hp
    rw [limbs_getD hx (by omega), e] at a
    exact a hz
  · omega
theorem limbs_step_stop {xs : List Int} (hx : Ws xs) {k : Nat} (h : (limbs (val xs)).length ≤ k) (h0 : 0 < k) (hz : xs.getD (k - 1) 0 ≠ 0) : (limbs (val xs)).length = k := by
  by_cases e : (limbs (val xs)).length = k
  · exact e
  · exact absurd ((limbs_val hx).2 (k - 1) (by omega)) hz
theorem val_high {xs ys : List Int} (hx : Ws xs) (hy : Ws ys) (k : Nat) (hkx : k < xs.length) (hky : k < ys.length) (hd : val (xs.drop (k+1)) = val (ys.drop (k+1))) (hlt : xs.getD k 0 < ys.getD k 0) : val xs < val ys := by
  have a := val_take_drop xs k (by omega)
  have b := val_take_drop ys k (by omega)
  rw [val_drop_succ xs k hkx] at a
  rw [val_drop_succ ys k hky, ← hd] at b
  have c := val_lt (hx.take k)
  rw [List.length_take, Nat.min_eq_left (by omega)] at c
  have d := val_nonneg (hy.take k)
  have e := Int.mul_le_mul_of_nonneg_left (show xs.getD k 0 + 1 ≤ ys.getD k 0 by omega) (Int.le_of_lt (Wpow_pos k))
  have f : W ^ k * (xs.getD k 0 + 1) = W ^ k * xs.getD k 0 + W ^ k := by grind
  have g : W ^ k * (xs.getD k 0 + W * val (xs.drop (k + 1))) = W ^ k * xs.getD k 0 + W ^ k * (W * val (xs.drop (k + 1))) := by grind
  have h : W ^ k * (ys.getD k 0 + W * val (xs.drop (k + 1))) = W ^ k * ys.getD k 0 + W ^ k * (W * val (xs.drop (k + 1))) := by grind
  omega
theorem val_lt_of_len {xs ys : List Int} (hx : Ws xs) (hy : Ws ys) (h : (limbs (val xs)).length < (limbs (val ys)).length) : val xs < val ys := by
  by_cases hh : val xs < val ys
  · exact hh
  · have := limbs_mono (val_nonneg hy) (show val ys ≤ val xs by omega)
    omega
theorem val_take_limbs {xs : List Int} (h : Ws xs) : val (xs.take (limbs (val xs)).length) = val xs := by
  rw [← (limbs_val h).1, val_limbs (val_nonneg h)]
theorem val_drop_limbs {xs : List Int} (h : Ws xs) : val (xs.drop (limbs (val xs)).length) = 0 := by
  have a := val_take_drop xs (limbs (val xs)).length (limbs_len_le h)
  rw [val_take_limbs h] at a
  have b : W ^ (limbs (val xs)).length * val (xs.drop (limbs (val xs)).length) = 0 := by omega
  rcases Int.mul_eq_zero.1 b with e | e
  · have := Wpow_pos (limbs (val xs)).length; omega
  · exact e
theorem limbs_len_one {v : Int} (h0 : 0 < v) (h1 : v ≤ 18446744073709551615) : limbs v = [v] := by
  have hW := W_eq
  rw [limbs_pos h0, limbs_nonpos (by rw [hW]; omega), show v % W = v by rw [hW]; omega]
end Go.Proofs.YtfpofmifmapmfaaGreatDoor

namespace Go.Proofs.YtfpofmifmapmfaaGreatDoor
open Go.RowKit
set_option linter.unusedVariables false
set_option linter.unusedSimpArgs false
def wv (xs : List Int) : List Value := xs.map (Value.int .u64)
theorem wv_length (xs : List Int) : (wv xs).length = xs.length := by simp [wv]
theorem wv_get (xs : List Int) (i : Nat) (h : i < xs.length) : (wv xs)[i]? = some (.int .u64 (xs.getD i 0)) := by
  unfold wv; rw [List.getElem?_map, List.getD_eq_getElem?_getD, List.getElem?_eq_getElem h]; rfl
theorem wv_set (xs : List Int) (i : Nat) (v : Int) : wv (xs.set i v) = (wv xs).set i (.int .u64 v) := by unfold wv; rw [List.map_set]
theorem wv_append (xs ys : List Int) : wv (xs ++ ys) = wv xs ++ wv ys := by simp [wv]
def zw (n : Nat) : List Int := List.replicate n 0
theorem zw_length (n : Nat) : (zw n).length = n := by simp [zw]
theorem zw_ws (n : Nat) : Ws (zw n) := Ws.zeros n
theorem zw_val (n : Nat) : val (zw n) = 0 := val_zeros n
theorem zw_getD (n i : Nat) : (zw n).getD i 0 = 0 := by
  unfold zw
  rw [List.getD_eq_getElem?_getD, List.getElem?_replicate]
  split <;> rfl
def Keep (lo up : Nat) (w w' : World) : Prop := ∀ k, lo ≤ k → k < up → w'.heap[k]? = w.heap[k]?
theorem Keep.refl (lo up : Nat) (w : World) : Keep lo up w w := fun _ _ _ => rfl
theorem Keep.trans {lo up : Nat} {a b c : World} (h : Keep lo up a b) (k : Keep lo up b c) : Keep lo up a c := fun i h1 h2 => (k i h1 h2).trans (h i h1 h2)
theorem Keep.mono {lo up lo' up' : Nat} {a b : World} (h : Keep lo up a b) (h1 : lo ≤ lo') (h2 : up' ≤ up) : Keep lo' up' a b := fun i h3 h4 => h i (by omega) (by omega)
theorem Keep.below {lo up B : Nat} {a b c : World} (h : Keep lo up a b) (k : Below B b c) (hB : up ≤ B) : Keep lo up a c := fun i h1 h2 => (k.block i (by omega)).trans (h i h1 h2)
theorem Keep.drewN {lo up : Nat} {a b : World} (h : Keep lo up a b) (n : Nat) : Keep lo up a (b.drewN n) := h
theorem Keep.drew {lo up : Nat} {a b : World} (h : Keep lo up a b) : Keep lo up a b.drew := h
theorem Keep.alloc {lo up : Nat} {a b : World} (h : Keep lo up a b) (hB : up ≤ b.heap.size) (o : Obj) : Keep lo up a (b.alloc o) := fun i h1 h2 => (Below.heap_alloc b o i (by omega)).trans (h i h1 h2)
theorem Keep.setCell {lo up : Nat} {a b : World} (h : Keep lo up a b) {p : Addr} (hp : p.block < lo ∨ up ≤ p.block) (v : Value) : Keep lo up a (b.setCell p v) := fun i h1 h2 => (Below.heap_setCell b p v i (by omega)).trans (h i h1 h2)
theorem Keep.of {lo up B : Nat} {a b : World} (k : Below B a b) (hB : up ≤ B) : Keep lo up a b := (Keep.refl lo up a).below k hB
structure But (g : Nat) (w w' : World) : Prop where
  os : w'.os = w.os
  tape : w'.tape = w.tape
  output : w'.output = w.output
  size : w.heap.size ≤ w'.heap.size
  block : ∀ k, k < w.heap.size → k ≠ g → w'.heap[k]? = w.heap[k]?
theorem But.refl (g : Nat) (w : World) : But g w w := ⟨rfl, rfl, rfl, Nat.le_refl _, fun _ _ _ => rfl⟩
theorem But.trans {g : Nat} {a b c : World} (h : But g a b) (k : But g b c) : But g a c :=
  ⟨k.os.trans h.os, k.tape.trans h.tape, k.output.trans h.output, Nat.le_trans h.size k.size, fun i h1 h2 => (k.block i (Nat.lt_of_lt_of_le h1 h.size) h2).trans (h.block i h1 h2)⟩
theorem But.of {g : Nat} {a b : World} (h : Below a.heap.size a b) : But g a b := ⟨h.os, h.tape, h.output, h.size, fun i h1 _ => h.block i h1⟩
theorem But.setCell {g : Nat} {a b : World} (h : But g a b) (o : Nat) (v : Value) : But g a (b.setCell ⟨g, o, none⟩ v) :=
  ⟨h.os, h.tape, h.output, by simp [World.setCell]; exact h.size, fun i h1 h2 => (Below.heap_setCell b _ v i h2).trans (h.block i h1 h2)⟩
theorem But.drewN {g : Nat} {a b : World} (h : But g a b) (n : Nat) : But g a (b.drewN n) := ⟨h.os, h.tape, h.output, h.size, h.block⟩
theorem But.keep {g lo up : Nat} {a b : World} (h : But g a b) (hu : up ≤ a.heap.size) (hg : g < lo ∨ up ≤ g) : Keep lo up a b := fun i h1 h2 => h.block i (by omega) (by omega)
theorem But.below {g B : Nat} {a b : World} (h : But g a b) (hB : B ≤ a.heap.size) (hg : B ≤ g) : Below B a b := ⟨h.os, h.tape, h.output, h.size, fun i hi => h.block i (by omega) (by omega)⟩
theorem Below.but {B g : Nat} {a b c : World} (h : Below B a b) (k : But g b c) (hg : B ≤ g) (hB : B ≤ b.heap.size) : Below B a c := h.trans (k.below hB hg)
def WordsIn (lo up : Nat) (w : World) (A : Option Addr) (xs : List Int) : Prop :=
  xs = [] ∨ ∃ b o, A = some ⟨b, o, none⟩ ∧ lo ≤ b ∧ b < up ∧ ∀ i, i < xs.length → w.cell? ⟨b, o + i, none⟩ = some (.int .u64 (xs.getD i 0))
theorem WordsIn.nil {lo up : Nat} {w : World} {A : Option Addr} : WordsIn lo up w A [] := Or.inl rfl
theorem WordsIn.at {lo up : Nat} {w : World} {A : Option Addr} {xs : List Int} (h : WordsIn lo up w A xs) {i : Nat} (hj : i < xs.length) :
    ∃ b o, A = some ⟨b, o, none⟩ ∧ lo ≤ b ∧ b < up ∧ w.cell? ⟨b, o + i, none⟩ = some (.int .u64 (xs.getD i 0)) := by
  rcases h with rfl | ⟨b, o, e, h1, h2, h3⟩
  · simp at hj
  · exact ⟨b, o, e, h1, h2, h3 i hj⟩
theorem WordsIn.open {lo up : Nat} {w : World} {A : Option Addr} {xs : List Int} (h : WordsIn lo up w A xs) (hx : xs ≠ []) :
    ∃ b o, A = some ⟨b, o, none⟩ ∧ lo ≤ b ∧ b < up ∧ ∀ i, i < xs.length → w.cell? ⟨b, o + i, none⟩ = some (.int .u64 (xs.getD i 0)) := by
  rcases h with rfl | h
  · exact absurd rfl hx
  · exact h
theorem cell_of_heap {w w' : World} {b : Nat} (h : w'.heap[b]? = w.heap[b]?) (o : Nat) : w'.cell? ⟨b, o, none⟩ = w.cell? ⟨b, o, none⟩ := World.cell?_of_block (w := w) (a := ⟨b, o, none⟩) h
theorem WordsIn.keep {lo up : Nat} {w w' : World} {A : Option Addr} {xs : List Int} (h : WordsIn lo up w A xs) (k : Keep lo up w w') : WordsIn lo up w' A xs := by
  rcases h with rfl | ⟨b, o, e, h1, h2, h3⟩
  · exact Or.inl rfl
  · exact Or.inr ⟨b, o, e, h1, h2, fun i hj => (cell_of_heap (k b h1 h2) _).trans (h3 i hj)⟩
theorem WordsIn.wide {lo up lo' up' : Nat} {w : World} {A : Option Addr} {xs : List Int} (h : WordsIn lo up w A xs) (h1 : lo' ≤ lo) (h2 : up ≤ up') : WordsIn lo' up' w A xs := by
  rcases h with rfl | ⟨b, o, e, h3, h4, h5⟩
  · exact Or.inl rfl
  · exact Or.inr ⟨b, o, e, by omega, by omega, h5⟩
theorem WordsIn.take {lo up : Nat} {w : World} {A : Option Addr} {xs : List Int} (h : WordsIn lo up w A xs) (n : Nat) : WordsIn lo up w A (xs.take n) := by
  rcases h with rfl | ⟨b, o, e, h1, h2, h3⟩
  · simp [WordsIn]
  · refine Or.inr ⟨b, o, e, h1, h2, fun i hj => ?_⟩
    rw [List.length_take] at hj
    rw [h3 i (by omega), List.getD_eq_getElem?_getD, List.getD_eq_getElem?_getD, List.getElem?_take, if_pos (by omega)]
theorem WordsIn.limbs {lo up : Nat} {w : World} {A : Option Addr} {xs : List Int} (h : WordsIn lo up w A xs) (hx : Ws xs) : WordsIn lo up w A (limbs (val xs)) := by
  rw [(limbs_val hx).1]; exact h.take _
def FreshAt (lo : Nat) (w : World) (A : Option Addr) (c : Nat) (xs : List Int) : Prop :=
  (A = none ∧ xs = [] ∧ c = 0) ∨ ∃ g C, A = some ⟨g, 0, none⟩ ∧ lo ≤ g ∧ w.heap[g]? = some (.cells C 36 (0, 0)) ∧ xs.length ≤ c ∧ c ≤ C.size ∧ ∀ i, i < xs.length → C[i]? = some (.int .u64 (xs.getD i 0))
theorem heap_lt {w : World} {g : Nat} {o : Obj} (h : w.heap[g]? = some o) : g < w.heap.size := (Array.getElem?_eq_some_iff.1 h).1
theorem cell_of_cells {w : World} {g : Nat} {C : Array Value} {t : TypeId} {f : Nat × Nat} (h : w.heap[g]? = some (.cells C t f)) (o : Nat) : w.cell? ⟨g, o, none⟩ = C[o]? := by
  unfold World.cell?; rw [h]; rfl
theorem free_of_cells {w : World} {g : Nat} {C : Array Value} {t : TypeId} (h : w.heap[g]? = some (.cells C t (0, 0))) (o : Nat) : w.frozen? ⟨g, o, none⟩ = false := by
  unfold World.frozen?; rw [h]; simp
theorem FreshAt.words {lo : Nat} {w : World} {A : Option Addr} {c : Nat} {xs : List Int} (h : FreshAt lo w A c xs) : WordsIn lo w.heap.size w A xs := by
  rcases h with ⟨rfl, rfl, rfl⟩ | ⟨g, C, rfl, h1, h2, h3, h4, h5⟩
  · exact Or.inl rfl
  · exact Or.inr ⟨g, 0, rfl, h1, heap_lt h2, fun i hj => by rw [Nat.zero_add, cell_of_cells h2]; exact h5 i hj⟩
theorem FreshAt.keep {lo up : Nat} {w w' : World} {A : Option Addr} {c : Nat} {xs : List Int} (h : FreshAt lo w A c xs) (k : Keep lo up w w') (hh : w.heap.size ≤ up) : FreshAt lo w' A c xs := by
  rcases h with ⟨rfl, rfl, rfl⟩ | ⟨g, C, rfl, h1, h2, h3, h4, h5⟩
  · exact Or.inl ⟨rfl, rfl, rfl⟩
  · exact Or.inr ⟨g, C, rfl, h1, by rw [k g h1 (by have := heap_lt h2; omega)]; exact h2, h3, h4, h5⟩
theorem FreshAt.cap {lo : Nat} {w : World} {A : Option Addr} {c : Nat} {xs : List Int} (h : FreshAt lo w A c xs) : xs.length ≤ c := by
  rcases h with ⟨rfl, rfl, rfl⟩ | ⟨g, C, rfl, h1, h2, h3, h4, h5⟩
  · simp
  · exact h3
theorem FreshAt.limbs {lo : Nat} {w : World} {A : Option Addr} {c : Nat} {xs : List Int} (h : FreshAt lo w A c xs) (hx : Ws xs) : FreshAt lo w A (limbs (val xs)).length (limbs (val xs)) := by
  have hl := limbs_len_le hx
  rcases h with ⟨rfl, rfl, rfl⟩ | ⟨g, C, rfl, h1, h2, h3, h4, h5⟩
  · exact Or.inl ⟨rfl, by simp [val_nil, limbs_zero], by simp [val_nil, limbs_zero]⟩
  · exact Or.inr ⟨g, C, rfl, h1, h2, Nat.le_refl _, by omega, fun i hj => by rw [limbs_getD hx hj]; exact h5 i (by omega)⟩
theorem FreshAt.mk {lo : Nat} {w : World} {g : Nat} {C : Array Value} {c : Nat} {xs : List Int} (h1 : lo ≤ g) (h2 : w.heap[g]? = some (.cells C 36 (0, 0))) (h3 : xs.length ≤ c) (h4 : c ≤ C.size) (h5 : ∀ i, i < xs.length → C[i]? = some (.int .u64 (xs.getD i 0))) : FreshAt lo w (some ⟨g, 0, none⟩) c xs := Or.inr ⟨g, C, rfl, h1, h2, h3, h4, h5⟩
theorem FreshAt.row {lo : Nat} {w : World} {g : Nat} {xs : List Int} (h1 : lo ≤ g) (h2 : w.heap[g]? = some (.cells (wv xs).toArray 36 (0, 0))) : FreshAt lo w (some ⟨g, 0, none⟩) xs.length xs :=
  FreshAt.mk h1 h2 (Nat.le_refl _) (by simp [wv]) (fun i hj => by rw [List.getElem?_toArray]; exact wv_get xs i hj)
theorem FreshAt.wide {lo lo' : Nat} {w : World} {A : Option Addr} {c : Nat} {xs : List Int} (h : FreshAt lo w A c xs) (hl : lo' ≤ lo) : FreshAt lo' w A c xs := by
  rcases h with h | ⟨g, C, e, h1, h2⟩
  · exact Or.inl h
  · exact Or.inr ⟨g, C, e, by omega, h2⟩
end Go.Proofs.YtfpofmifmapmfaaGreatDoor

namespace Go.Proofs.YtfpofmifmapmfaaGreatDoor
open Go.RowKit
set_option linter.unusedVariables false
set_option linter.unusedSimpArgs false
theorem quiet_same {P : Program} {f : FuncId} {args : Array Value} {w : World} {n : Nat} {v : Value}
    (h : Calls P f args (w.drewN n) fun e w' => e = .returned v ∧ w.drewN n = w') : Calls P f args (w.drewN n) fun e w'' => e = .returned v ∧ ∃ m, w'' = w.drewN m :=
  h.mono fun _ _ ⟨he, hm⟩ => ⟨he, n, hm.symm⟩
theorem info_u64 : (Tryz.prog.info? 36).map (fun i => (i.zero, i.size, i.bytes)) = some (some (.int .u64 0), 1, 8) := by kernel_rfl
theorem made_words (n : Nat) : madeCells (Value.cells (.int .u64 0)) (n * 1) = (wv (zw n)).toArray := by
  apply Array.ext'
  rw [Nat.mul_one, madeCells]
  apply List.ext_getElem
  · simp [wv, zw]
  · intro i h1 h2
    simp [wv, zw, Value.cells, Nat.mod_one]
theorem run_make_words (n : Nat) (h : n ≤ 35184372088832) (w : World) : (Instr.makeSlice 24 (.int .i64 (n : Int)) (.int .i64 (n : Int))).run Tryz.prog w = .ok (.slice (some ⟨w.heap.size, 0, none⟩) n n) (w.alloc (.cells (wv (zw n)).toArray 36)) := by
  obtain ⟨i, hi, h1, h2, h3⟩ := info_parts info_u64
  rw [run_make w 24 36 i (.int .u64 0) Tryz.underlying24 hi h1 .i64 .i64 n n (by omega) (Int.le_refl _) (by rw [h3]; omega) (by omega), h2, Int.toNat_natCast, made_words]
theorem run_make_at (n : Nat) (L : Int) (hL : L = (n : Int)) (h : n ≤ 35184372088832) : ∀ w : World, (Instr.makeSlice 24 (.int .i64 L) (.int .i64 L)).run Tryz.prog w = .ok (.slice (some ⟨w.heap.size, 0, none⟩) n n) (w.alloc (.cells (wv (zw n)).toArray 36)) := by
  subst hL; exact run_make_words n h
theorem wpList_make_words {w : World} {ops : Array Oper} {rest : List Oper} {o : Oper} {a : Act} {Q : Exit → Act → World → Prop} (hgd : o.guard = none) (l c : Operand)
    (hop : o.op = Op.makeSlice 24 l c) (n : Nat) (L C : Int) (hl : a.eval l = .int .i64 L) (hc : a.eval c = .int .i64 C) (hL : L = n) (hC : C = n) (h : n ≤ 35184372088832)
    (hK : wpList Tryz.prog ops Q rest (a.put o.dst (.slice (some ⟨w.heap.size, 0, none⟩) n n)) (w.alloc (.cells (wv (zw n)).toArray 36))) : wpList Tryz.prog ops Q (o :: rest) a w := by
  refine wpList_plain hgd fun K hK' => ?_
  subst hL hC
  unfold Oper.wp
  simp [execOp, hop, hl, hc, run_make_words n h w, Result.andThen]
  exact hK' _ _ hK
theorem setRow_is (w : World) (g : Nat) (cs : Array Value) : w.setRow g cs = { w with heap := (w.setRow g cs).heap } := rfl
theorem setRow_size (w : World) (g : Nat) (cs : Array Value) : (w.setRow g cs).heap.size = w.heap.size := by simp [World.setRow]
theorem alloc_heap_at (w : World) (o : Obj) (k : Nat) : (w.alloc o).heap[k]? = if k = w.heap.size then some o else w.heap[k]? := by
  show (w.heap.push o)[k]? = _
  rw [Array.getElem?_push]
theorem setRow_same {w : World} {g : Nat} {cs : Array Value} {t : TypeId} {f : Nat × Nat} (h : w.heap[g]? = some (.cells cs t f)) : w.setRow g cs = w := by
  have : (w.setRow g cs).heap = w.heap := by
    apply Array.ext_getElem?
    intro i
    by_cases e : i = g
    · subst e; rw [setRow_heap w i _ cs t f h, h]
    · rw [setRow_other w g i cs e]
  rw [setRow_is, this]
@[go_sem] theorem setRow_alloc_at (w : World) (c cs : Array Value) (t : TypeId) (f : Nat × Nat) (n : Nat) (hn : n = w.heap.size) : (w.alloc (.cells c t f)).setRow n cs = w.alloc (.cells cs t f) := by
  subst hn
  have : ((w.alloc (.cells c t f)).setRow w.heap.size cs).heap = (w.alloc (.cells cs t f)).heap := by
    apply Array.ext_getElem?
    intro i
    by_cases e : i = w.heap.size
    · subst e
      rw [setRow_heap _ _ c cs t f (by rw [alloc_heap_at, if_pos rfl]), alloc_heap_at, if_pos rfl]
    · rw [setRow_other _ _ _ _ e, alloc_heap_at, alloc_heap_at, if_neg e, if_neg e]
  rw [setRow_is, this]; rfl
@[go_sem] theorem setRow_alloc_past (w : World) (o : Obj) (cs : Array Value) (n : Nat) (hn : n < w.heap.size) : (w.alloc o).setRow n cs = (w.setRow n cs).alloc o := by
  have : ((w.alloc o).setRow n cs).heap = ((w.setRow n cs).alloc o).heap := by
    apply Array.ext_getElem?
    intro i
    by_cases e : i = w.heap.size
    · subst e
      rw [setRow_other _ _ _ _ (by omega), alloc_heap_at, alloc_heap_at, if_pos rfl, setRow_size, if_pos rfl]
    · by_cases e2 : i = n
      · subst e2
        rw [alloc_heap_at, setRow_size, if_neg e]
        unfold World.setRow
        rw [Array.getElem?_modify, Array.getElem?_modify, if_pos rfl, if_pos rfl, alloc_heap_at, if_neg e]
      · rw [setRow_other _ _ _ _ e2, alloc_heap_at, alloc_heap_at, if_neg e, setRow_size, if_neg e, setRow_other _ _ _ _ e2]
  rw [setRow_is, this]; rfl
theorem own_set (w : World) (zs : List Int) (k : Nat) (v : Int) : (w.alloc (.cells (wv zs).toArray 36)).setCell ⟨w.heap.size, k, none⟩ (.int .u64 v) = w.alloc (.cells (wv (zs.set k v)).toArray 36) := by
  rw [World.setCell_alloc_new, wv_set]; simp
theorem own_cell (w : World) (zs : List Int) (k : Nat) (h : k < zs.length) : (w.alloc (.cells (wv zs).toArray 36)).cell? ⟨w.heap.size, k, none⟩ = some (.int .u64 (zs.getD k 0)) := by
  rw [cell_of_cells (C := (wv zs).toArray) (t := 36) (f := (0, 0)) (by rw [alloc_heap_at, if_pos rfl]), List.getElem?_toArray, wv_get zs k h]
theorem own_free (w : World) (zs : List Int) (k : Nat) : (w.alloc (.cells (wv zs).toArray 36)).frozen? ⟨w.heap.size, k, none⟩ = false :=
  free_of_cells (C := (wv zs).toArray) (t := 36) (by rw [alloc_heap_at, if_pos rfl]) k
theorem heap_set_row {w : World} {g : Nat} {zs : List Int} {f : Nat × Nat} (h : w.heap[g]? = some (.cells (wv zs).toArray 36 f)) (k : Nat) (v : Int) : (w.setCell ⟨g, k, none⟩ (.int .u64 v)).heap[g]? = some (.cells (wv (zs.set k v)).toArray 36 f) := by
  unfold World.setCell
  simp only [Array.getElem?_modify, if_pos, h, Option.map_some]
  rw [wv_set]; simp
theorem row_cell {w : World} {g : Nat} {zs : List Int} {f : Nat × Nat} (h : w.heap[g]? = some (.cells (wv zs).toArray 36 f)) {k : Nat} (hk : k < zs.length) : w.cell? ⟨g, k, none⟩ = some (.int .u64 (zs.getD k 0)) := by
  rw [cell_of_cells h, List.getElem?_toArray, wv_get zs k hk]
@[go_sem] theorem setRow_drewN (w : World) (m n : Nat) (cs : Array Value) : (w.drewN m).setRow n cs = (w.setRow n cs).drewN m := rfl
@[go_sem] theorem setRow_drew (w : World) (n : Nat) (cs : Array Value) : w.drew.setRow n cs = (w.setRow n cs).drew := rfl
theorem wpList_copy_words {w : World} {ops : Array Oper} {rest : List Oper} {o : Oper} {a : Act} {Q : Exit → Act → World → Prop} (hgd : o.guard = none) (d s : Operand)
    (ho : o.op = .call { callee := .builtin .copy, args := #[d, s], argTypes := #[24, 24] })
    (g off dLen dCap sCap : Nat) (A : Option Addr) (xs zs : List Int) (lo up : Nat)
    (hd : a.eval d = .slice (some ⟨g, off, none⟩) dLen dCap) (hs : a.eval s = .slice A xs.length sCap)
    (hg : w.heap[g]? = some (.cells (wv zs).toArray 36 (0, 0))) (hA : WordsIn lo up w A xs) (k : Nat) (hk1 : k ≤ xs.length) (hk2 : k ≤ dLen) (hk3 : k = xs.length ∨ k = dLen) (hfit : off + k ≤ zs.length)
    (h : wpList Tryz.prog ops Q rest (a.put o.dst (goInt k)) (w.setRow g (wv (zs.take off ++ xs.take k ++ zs.drop (off + k))).toArray)) : wpList Tryz.prog ops Q (o :: rest) a w := by
  have hsz : (Tryz.prog.info? 36).map (·.size) = some 1 := by kernel_rfl
  have hk : k = Nat.min xs.length dLen := by rcases hk3 with e | e <;> (show k = min xs.length dLen) <;> omega
  by_cases h0 : k = 0
  · subst h0
    refine wpList_copy_nothing hgd d s _ _ ho 36 Tryz.underlying24 hsz _ _ _ _ _ _ hd hs hk.symm ?_
    rw [List.take_zero, List.append_nil, Nat.add_zero, List.take_append_drop, setRow_same hg] at h
    exact h
  · have hlen := hk1
    obtain ⟨b, o', rfl, _, _, hc⟩ := hA.open (by intro e; rw [e] at hlen; simp at hlen; omega)
    have hl : (wv (xs.take k)).length = k := by rw [wv_length, List.length_take]; omega
    refine wpList_copy_own hgd d s _ _ ho 36 Tryz.underlying24 hsz g off dLen dCap ⟨b, o', none⟩ xs.length sCap hd hs (wv zs).toArray 36 hg (wv (xs.take k)) (by rw [hl]; exact hk) ?_ (by simp [hl, wv_length]; exact hfit) ?_ ?_
    · intro j v hj
      have hj' : j < k := by rw [← hl]; exact (List.getElem?_eq_some_iff.1 hj).1
      rw [wv_get _ _ (by rw [List.length_take]; omega), Option.some.injEq] at hj
      have e : Addr.add ⟨b, o', none⟩ j = ⟨b, o' + j, none⟩ := by
        unfold Addr.add; split
        · rename_i e; simp [e]
        · rfl
      rw [e, hc j (by omega), ← hj, List.getD_eq_getElem?_getD, List.getD_eq_getElem?_getD, List.getElem?_take, if_pos hj']
    · intro v hv
      unfold wv at hv
      rw [List.mem_map] at hv
      obtain ⟨x, _, rfl⟩ := hv
      rfl
    · rw [hl]
      have e : (wv (zs.take off ++ xs.take k ++ zs.drop (off + k))).toArray = ((wv zs).toArray.toList.take off ++ (wv (xs.take k) ++ (wv zs).toArray.toList.drop (off + k))).toArray := by
        simp only [wv_append, wv, List.map_take, List.map_drop, List.append_assoc, List.map_append]
      rw [← e]; exact h
end Go.Proofs.YtfpofmifmapmfaaGreatDoor

namespace Go.Proofs.YtfpofmifmapmfaaGreatDoor
open Go.RowKit
set_option linter.unusedVariables false
set_option linter.unusedSimpArgs false
set_option maxHeartbeats 400000 in
theorem nSize (A : Option Addr) (c lo up : Nat) (xs : List Int) (w : World) (hx : Ws xs) (hA : WordsIn lo up w A xs) (hl : xs.length ≤ 9223372036854775807) :
    Calls Tryz.prog 154 #[.slice A xs.length c] w fun e w' => e = .returned (.int .i64 (limbs (val xs)).length) ∧ w = w' := by
  go_enter Tryz.func154, Tryz.ntmps154
  go_wp2
  go_loop [3] (fun n => ∃ k : Nat, n = .int .i64 k ∧ k ≤ xs.length ∧ (limbs (val xs)).length ≤ k) (fun n => (intOf n).toNat)
  case atStart => exact ⟨xs.length, rfl, Nat.le_refl _, limbs_len_le hx⟩
  case round =>
    obtain ⟨k, rfl, hk, hL⟩ := hrel
    by_cases h0 : 0 < k
    · obtain ⟨b, o, rfl, hb1, hb2, hc⟩ := hA.at (i := k - 1) (by omega)
      have hv := hx.getD (k - 1)
      have S0 := Lib.hid (limbs_step_zero hx hL h0)
      have S1 := Lib.hid (limbs_step_stop hx hL h0)
      generalize xs.getD (k - 1) 0 = v at *
      by_cases hz : v = 0
      · have hz' : (v == 0) = true := by simpa using hz
        have HZ := Lib.hid hz
        clear hz
        go_wp2
        exact ⟨⟨k - 1, vint (by omega), by omega, S0.out HZ.out⟩, by simp [intOf]; omega⟩
      · have hz' : (v == 0) = false := by simpa using hz
        have HZ := Lib.hid hz
        clear hz
        go_wp2
        go_ret
        exact ⟨R1 (by rw [S1.out HZ.out]), by trivial⟩
    · obtain rfl : k = 0 := by omega
      go_wp2
      go_ret
      exact ⟨R1 (by omega), by trivial⟩
set_option maxHeartbeats 400000 in
theorem nNorm (A : Option Addr) (c lo up : Nat) (xs : List Int) (w : World) (hx : Ws xs) (hA : WordsIn lo up w A xs) (hu : up ≤ w.heap.size) (hl : xs.length ≤ 35184372088832) :
    Calls Tryz.prog 147 #[.slice A xs.length c] w fun e w' => e = .returned (.slice (some ⟨w.heap.size, 0, none⟩) (limbs (val xs)).length (limbs (val xs)).length) ∧ w' = w.alloc (.cells (wv (limbs (val xs))).toArray 36 (0, 0)) := by
  have hL := limbs_len_le hx
  go_enter Tryz.func147, Tryz.ntmps147
  go_wp2_with (first | (go_at_call 154; refine (nSize A c lo up xs _ hx hA (by omega)).mono ?_; rintro e w' ⟨rfl, rfl⟩) | (with_reducible refine wpList_make_words rfl (.tmp 5) (.tmp 5) rfl _ _ _ rfl rfl rfl rfl (by omega) ?_) | (with_reducible refine wpList_copy_words rfl (.tmp 7) (.tmp 8) rfl (w.heap.size) (0) ((limbs (val xs)).length) ((limbs (val xs)).length) (c) (A) (xs) (zw (limbs (val xs)).length) (lo) (up) ?cpa ?cpb ?cpc ?cpd ((limbs (val xs)).length) ?cpe ?cpf ?cpg ?cph ?_; (case cpa => (first | (go_simp; done) | (go_simp; rfl))); (case cpb => (first | (go_simp; done) | (go_simp; rfl))); (case cpc => (rw [alloc_heap_at, if_pos rfl])); (case cpd => exact (hA.keep ((Keep.refl _ _ _).alloc hu _))); (case cpe => omega); (case cpf => omega); (case cpg => omega); (case cph => (simp [zw, wv, limbs_len_le]; first | done | omega))))
  go_ret
  refine ⟨rfl, ?_⟩
  rw [← (limbs_val hx).1]; simp [zw]
set_option maxHeartbeats 400000 in
theorem nBound (A : Option Addr) (c lo up : Nat) (xs : List Int) (w : World) (hx : Ws xs) (hA : WordsIn lo up w A xs) (hl : xs.length ≤ c) (hc : c ≤ 35184372088832) (hs : (limbs (val xs)).length ≤ 4096) :
    Calls Tryz.prog 152 #[.slice A xs.length c] w fun e w' => e = .returned (.tuple #[.slice A (limbs (val xs)).length (limbs (val xs)).length, .int .i64 0]) ∧ w = w' := by
  have hL := limbs_len_le hx
  go_enter Tryz.func152, Tryz.ntmps152
  go_wp2_with (first | (go_at_call 154; refine (nSize A c lo up xs _ hx hA (by omega)).mono ?_; rintro e w' ⟨rfl, rfl⟩))
  go_ret2
  exact ⟨rfl, by trivial⟩
set_option maxHeartbeats 400000 in
theorem nFrom (v : Int) (w : World) (h0 : 0 ≤ v) (h1 : v ≤ 18446744073709551615) :
    Calls Tryz.prog 88 #[.int .u64 v] w fun e w' => e = .returned (.slice (some ⟨w.heap.size + 1, 0, none⟩) (limbs v).length (limbs v).length) ∧ w' = (w.alloc (.cells (wv [v]).toArray 36)).alloc (.cells (wv (limbs v)).toArray 36 (0, 0)) := by
  have HV := Lib.hid (val_single v)
  go_enter Tryz.func88, Tryz.ntmps88
  go_wp2_with (fail)
  refine (nNorm (some ⟨w.heap.size, 0, none⟩) 1 w.heap.size (w.heap.size + 1) [v] _ (Ws.cons h0 h1 Ws.nil) (Or.inr ⟨w.heap.size, 0, rfl, Nat.le_refl _, by omega, fun i hj => ?_⟩) (by simp) (by simp)).mono ?_
  · have : i = 0 := by simpa using hj
    subst this
    simp [World.cell?_alloc_new]
  rintro e w' ⟨rfl, rfl⟩
  rw [HV.out]
  go_wp2
  go_ret
  refine ⟨by simp, ?_⟩
  simp [wv]
set_option maxHeartbeats 400000 in
theorem nWord (A : Option Addr) (c lo up : Nat) (xs : List Int) (w : World) (hx : Ws xs) (hA : WordsIn lo up w A xs) (hl : xs.length ≤ 9223372036854775807) (hv : val xs ≤ 18446744073709551615) :
    Calls Tryz.prog 178 #[.slice A xs.length c] w fun e w' => e = .returned (.tuple #[.int .u64 (val xs), .bool true]) ∧ w = w' := by
  have hL := limbs_len_le hx
  have hv0 := val_nonneg hx
  by_cases h0 : val xs = 0
  · have hz := (limbs_len_zero hv0).2 h0
    have H0 := Lib.hid h0
    clear h0
    have HZ := Lib.hid hz
    clear hz
    go_enter Tryz.func178, Tryz.ntmps178
    go_wp2_with (first | (go_at_call 154; refine (nSize A c lo up xs _ hx hA (by omega)).mono ?_; rintro e w' ⟨rfl, rfl⟩; rw [HZ.out]))
    go_ret2
    exact ⟨by rw [H0.out]; rfl, by trivial⟩
  · have hone := limbs_len_one (v := val xs) (by omega) hv
    have hz : (limbs (val xs)).length = 1 := by rw [hone]; rfl
    have hg := limbs_getD hx (i := 0) (by omega)
    rw [hone] at hg
    have HZ := Lib.hid hz
    have HG := Lib.hid (show xs.getD 0 0 = val xs from hg.symm)
    rw [hz] at hL
    obtain ⟨b, o, rfl, hb1, hb2, hc⟩ := hA.at (i := 0) (by omega)
    clear hg hone hz h0
    rw [HG.out, Nat.add_zero] at hc
    go_enter Tryz.func178, Tryz.ntmps178
    go_wp2_with (first | (go_at_call 154; refine (nSize _ c lo up xs _ hx hA (by omega)).mono ?_; rintro e w' ⟨rfl, rfl⟩; rw [HZ.out]))
    go_ret2
    exact ⟨rfl, by trivial⟩
set_option maxHeartbeats 800000 in
theorem nCmp (A B : Option Addr) (c d lo up lo2 up2 : Nat) (xs ys : List Int) (w : World) (hx : Ws xs) (hA : WordsIn lo up w A xs) (hy : Ws ys) (hB : WordsIn lo2 up2 w B ys) (hl : xs.length ≤ 9223372036854775807) (hl2 : ys.length ≤ 9223372036854775807) :
    Calls Tryz.prog 96 #[.slice A xs.length c, .slice B ys.length d] w fun e w' => e = .returned (.int .i64 (icmp (val xs) (val ys))) ∧ ∃ q, w' = w.drewN q := by
  have hL := limbs_len_le hx
  have hL2 := limbs_len_le hy
  by_cases hne : (limbs (val xs)).length = (limbs (val ys)).length
  · have hb : (((limbs (val xs)).length : Int) != ((limbs (val ys)).length : Int)) = false := by simp [hne]
    have HNE := Lib.hid hne
    clear hne
    go_enter Tryz.func96, Tryz.ntmps96
    go_wp2_with (fail)
    refine (nSize A c lo up xs _ hx hA (by omega)).mono ?_; rintro e w' ⟨rfl, rfl⟩
    go_wp2_with (fail)
    refine (nSize B d lo2 up2 ys _ hy hB (by omega)).mono ?_; rintro e w' ⟨rfl, rfl⟩
    go_wp2
    have hLL : (limbs (val xs)).length ≤ ys.length := by rw [HNE.out]; exact hL2
    go_loopw [7] (fun i wr => ∃ k q : Nat, i = .int .i64 ((k : Int) - 1) ∧ wr = w.drewN q ∧ k ≤ (limbs (val xs)).length ∧ val (xs.drop k) = val (ys.drop k)) (fun i _ => (intOf i + 1).toNat)
    case atStart => exact ⟨_, 0, rfl, rfl, Nat.le_refl _, by rw [val_drop_limbs hx, HNE.out, val_drop_limbs hy]⟩
    case round =>
      obtain ⟨k, q, rfl, hq, hk, he⟩ := hrel
      have HE := Lib.hid he
      replace hA : WordsIn lo up wr A xs := hA.keep (by rw [hq]; exact Keep.refl _ _ _)
      replace hB : WordsIn lo2 up2 wr B ys := hB.keep (by rw [hq]; exact Keep.refl _ _ _)
      have HQ := Lib.hid hq
      clear he hq
      rcases k with _ | j
      · go_wp2
        go_ret
        exact ⟨R1 (by rw [icmp_eq]; simpa using HE.out), q, HQ.out⟩
      · rw [show (((j + 1 : Nat) : Int) - 1) = (j : Int) by omega]
        obtain ⟨b, o, rfl, hb1, hb2, hc⟩ := hA.at (i := j) (by omega)
        obtain ⟨b', o', rfl, hb1', hb2', hc'⟩ := hB.at (i := j) (by omega)
        have hv := hx.getD j
        have hu := hy.getD j
        have hvx := Lib.hid (val_drop_succ xs j (by omega))
        have hvy := Lib.hid (val_drop_succ ys j (by omega))
        have hhi := Lib.hid (val_high hx hy j (by omega) (by omega) HE.out)
        have hhi' := Lib.hid (val_high hy hx j (by omega) (by omega) HE.out.symm)
        generalize xs.getD j 0 = v at *
        generalize ys.getD j 0 = u at *
        have hj1 : j < xs.length := by omega
        have hj2 : j < ys.length := by omega
        have three : v < u ∨ v = u ∨ u < v := by omega
        rcases three with h | h | h
        · have HC := Lib.hid (icmp_lt (x := 0 * 18446744073709551616 + v) (y := 0 * 18446744073709551616 + u) (by omega))
          have HH := Lib.hid h
          clear h
          go_wp2_with (fail)
          go_quiet ((go_at_call 155; exact quiet_same (wCmp 0 v 0 u _ (by omega) (by omega) (by omega) (by omega))))
          rw [HC.out]
          go_wp2
          go_ret
          exact ⟨R1 (icmp_lt (hhi.out HH.out)).symm, q + nq, by rw [HQ.out, World.drewN_drewN]⟩
        · have HC := Lib.hid (icmp_eq (x := 0 * 18446744073709551616 + v) (y := 0 * 18446744073709551616 + u) (by omega))
          have HH := Lib.hid h
          clear h
          go_wp2_with (fail)
          go_quiet ((go_at_call 155; exact quiet_same (wCmp 0 v 0 u _ (by omega) (by omega) (by omega) (by omega))))
          rw [HC.out]
          go_wp2
          exact ⟨⟨j, q + nq, rfl, by rw [HQ.out, World.drewN_drewN], by omega, by rw [hvx.out, hvy.out, HE.out, HH.out]⟩, by simp [intOf]⟩
        · have HC := Lib.hid (icmp_gt (x := 0 * 18446744073709551616 + v) (y := 0 * 18446744073709551616 + u) (by omega))
          have HH := Lib.hid h
          clear h
          go_wp2_with (fail)
          go_quiet ((go_at_call 155; exact quiet_same (wCmp 0 v 0 u _ (by omega) (by omega) (by omega) (by omega))))
          rw [HC.out]
          go_wp2
          go_ret
          exact ⟨R1 (icmp_gt (hhi'.out HH.out)).symm, q + nq, by rw [HQ.out, World.drewN_drewN]⟩
  · have hb : (((limbs (val xs)).length : Int) != ((limbs (val ys)).length : Int)) = true := by simp; omega
    have HNE := Lib.hid hne
    by_cases hlt : (limbs (val xs)).length < (limbs (val ys)).length
    · have HR := Lib.hid (icmp_lt (val_lt_of_len hx hy hlt))
      clear hne
      go_enter Tryz.func96, Tryz.ntmps96
      go_wp2_with (fail)
      refine (nSize A c lo up xs _ hx hA (by omega)).mono ?_; rintro e w' ⟨rfl, rfl⟩
      go_wp2_with (fail)
      refine (nSize B d lo2 up2 ys _ hy hB (by omega)).mono ?_; rintro e w' ⟨rfl, rfl⟩
      go_wp2
      go_ret
      exact ⟨R1 HR.out.symm, 0, rfl⟩
    · have hgt : (limbs (val ys)).length < (limbs (val xs)).length := by omega
      have HR := Lib.hid (icmp_gt (val_lt_of_len hy hx hgt))
      clear hne
      go_enter Tryz.func96, Tryz.ntmps96
      go_wp2_with (fail)
      refine (nSize A c lo up xs _ hx hA (by omega)).mono ?_; rintro e w' ⟨rfl, rfl⟩
      go_wp2_with (fail)
      refine (nSize B d lo2 up2 ys _ hy hB (by omega)).mono ?_; rintro e w' ⟨rfl, rfl⟩
      go_wp2
      go_ret
      exact ⟨R1 HR.out.symm, 0, rfl⟩
set_option maxHeartbeats 400000 in
theorem nBits (A : Option Addr) (c lo up : Nat) (xs : List Int) (w : World) (hx : Ws xs) (hA : WordsIn lo up w A xs) (hl : xs.length ≤ 35184372088832) :
    Calls Tryz.prog 191 #[.slice A xs.length c] w fun e w' => e = .returned (.int .i64 (blen (val xs))) ∧ w = w' := by
  have hL := limbs_len_le hx
  have hv0 := val_nonneg hx
  by_cases h0 : val xs = 0
  · have hz := (limbs_len_zero hv0).2 h0
    have HR := Lib.hid (blen_zero (x := val xs) (by omega))
    have HZ := Lib.hid hz
    clear hz h0
    go_enter Tryz.func191, Tryz.ntmps191
    go_wp2_with (first | (go_at_call 154; refine (nSize A c lo up xs _ hx hA (by omega)).mono ?_; rintro e w' ⟨rfl, rfl⟩; rw [HZ.out]))
    go_ret
    exact ⟨R1 HR.out.symm, by trivial⟩
  · obtain ⟨j, hj⟩ : ∃ j, (limbs (val xs)).length = j + 1 := ⟨(limbs (val xs)).length - 1, by have := (limbs_len_zero hv0).1; omega⟩
    have HR := blen_limbs (n := val xs) (by omega)
    rw [limbs_getD hx (by omega), hj, Nat.add_sub_cancel] at HR
    obtain ⟨b, o, rfl, hb1, hb2, hc⟩ := hA.at (i := j) (by omega)
    have hv := hx.getD j
    have hr := blen_64 hv.2
    have hr0 := blen_nonneg (xs.getD j 0)
    have HR := Lib.hid HR
    clear h0
    rw [hj] at hL
    have HZ := Lib.hid hj
    clear hj
    generalize xs.getD j 0 = v at *
    have eb : (((j + 1 : Nat) : Int) == 0) = false := by simp; omega
    have ej : (((j + 1 : Nat) : Int) - 1) = (j : Int) := by omega
    go_enter Tryz.func191, Tryz.ntmps191
    go_wp2_with (first | (go_at_call 154; refine (nSize _ c lo up xs _ hx hA (by omega)).mono ?_; rintro e w' ⟨rfl, rfl⟩; rw [HZ.out]) | (go_at_call 186; refine (wLen v _ (by omega) (by omega)).mono ?_; rintro e w' ⟨rfl, rfl⟩))
    go_ret
    exact ⟨R1 (by rw [HR.out]), by trivial⟩
end Go.Proofs.YtfpofmifmapmfaaGreatDoor

namespace Go.Proofs.YtfpofmifmapmfaaGreatDoor
open Go.RowKit
set_option linter.unusedVariables false
set_option linter.unusedSimpArgs false
structure AddAt (xs ys : List Int) (k : Nat) (c0 : Int) (zs : List Int) : Prop where
  ws : Ws zs
  len : zs.length = xs.length + 1
  p0 : 0 ≤ c0
  p1 : c0 ≤ 1
  e : val zs + W ^ k * c0 = val xs + val ys
theorem AddAt.start {xs ys : List Int} (h : Ws xs) : AddAt xs (ys.take 0) 0 0 (xs ++ (zw (xs.length + 1)).drop xs.length) := by
  refine ⟨h.append ((zw_ws _).drop _), by simp [zw], by omega, by omega, ?_⟩
  rw [val_append]
  have : val ((zw (xs.length + 1)).drop xs.length) = 0 := by unfold zw; rw [List.drop_replicate]; exact val_zeros _
  rw [this]; simp [val_nil]
theorem AddAt.next {xs ys ys' : List Int} {k : Nat} {c0 : Int} {zs : List Int} (h : AddAt xs ys k c0 zs) {y : Int} (hy : val ys' = val ys + W ^ k * y) (h0 : 0 ≤ y) (h1 : y ≤ 18446744073709551615) (hk : k < xs.length + 1) :
    AddAt xs ys' (k + 1) ((zs.getD k 0 + y + c0) / 18446744073709551616) (zs.set k ((zs.getD k 0 + y + c0) % 18446744073709551616)) := by
  have hz := h.ws.getD k
  have a := h.p0
  have b := h.p1
  refine ⟨h.ws.set k (by omega) (by omega), by rw [List.length_set]; exact h.len, by omega, by omega, ?_⟩
  rw [val_set _ _ _ (by rw [h.len]; exact hk), hy, Int.pow_succ]
  have e := h.e
  have hW := W_eq
  have d : (zs.getD k 0 + y + c0) = (zs.getD k 0 + y + c0) % 18446744073709551616 + W * ((zs.getD k 0 + y + c0) / 18446744073709551616) := by rw [hW]; omega
  generalize (zs.getD k 0 + y + c0) % 18446744073709551616 = s at *
  generalize (zs.getD k 0 + y + c0) / 18446744073709551616 = c' at *
  have f : W ^ k * (zs.getD k 0 + y + c0) = W ^ k * (s + W * c') := by rw [d]
  grind
theorem AddAt.done {xs ys : List Int} {k : Nat} {c0 : Int} {zs : List Int} (h : AddAt xs ys k c0 zs) (hx : Ws xs) (hy : Ws ys) (hl : ys.length ≤ xs.length) (hk : xs.length + 1 ≤ k) : c0 = 0 := by
  have a := val_lt hx
  have b := val_lt hy
  have c := val_nonneg h.ws
  have e := h.e
  have d : W ^ ys.length ≤ W ^ xs.length := by rw [Wpow_eq, Wpow_eq]; exact ipow_le (by omega)
  have f : W ^ (xs.length + 1) ≤ W ^ k := by rw [Wpow_eq, Wpow_eq]; exact ipow_le (by omega)
  rw [Int.pow_succ] at f
  have g := Wpow_pos xs.length
  have hW := W_eq
  have c0' := h.p0
  have c1' := h.p1
  by_cases hc : c0 = 0
  · exact hc
  · have : c0 = 1 := by omega
    subst this
    have f2 : W ^ xs.length * 2 ≤ W ^ xs.length * W := Int.mul_le_mul_of_nonneg_left (by rw [hW]; omega) (by omega)
    generalize W ^ xs.length * W = RW at *
    generalize W ^ k = P at *
    generalize W ^ xs.length = R at *
    generalize W ^ ys.length = R' at *
    omega
set_option maxRecDepth 100000 in
set_option maxHeartbeats 1600000 in
theorem nSum (A B : Option Addr) (c d lo up : Nat) (xs ys : List Int) (w : World) (hx : Ws xs) (hA : WordsIn lo up w A xs) (hy : Ws ys) (hB : WordsIn lo up w B ys) (hu : up ≤ w.heap.size) (hl : xs.length ≤ 17592186044416) (hl2 : ys.length ≤ 17592186044416) :
    Calls Tryz.prog 153 #[.slice A xs.length c, .slice B ys.length d] w fun e w' => ∃ zs n, e = .returned (.slice (some ⟨w.heap.size, 0, none⟩) n n) ∧ w' = w.alloc (.cells (wv zs).toArray 36 (0, 0)) ∧ zs.length = n ∧ Ws zs ∧ val zs = val xs + val ys ∧ n ≤ 17592186044417 := by
  by_cases hsw : xs.length < ys.length
  · have hmk := run_make_at (ys.length + 1) ((ys.length : Int) + 1) (by omega) (by omega)
    go_enter Tryz.func153, Tryz.ntmps153
    go_wp2_with (first | (with_reducible refine wpList_copy_words rfl (.tmp 21) (.tmp 22) rfl (w.heap.size) (0) (ys.length + 1) (ys.length + 1) (d) (B) (ys) (zw (ys.length + 1)) (lo) (up) ?cpa ?cpb ?cpc ?cpd (ys.length) ?cpe ?cpf ?cpg ?cph ?_; (case cpa => (first | (go_simp; done) | (go_simp; rfl))); (case cpb => (first | (go_simp; done) | (go_simp; rfl))); (case cpc => (rw [alloc_heap_at, if_pos rfl])); (case cpd => exact (hB.keep ((Keep.refl _ _ _).alloc hu _))); (case cpe => omega); (case cpf => omega); (case cpg => omega); (case cph => (simp [zw, wv, limbs_len_le]; first | done | omega))))
    go_loopw [6, 26] (fun c i wr => ∃ (k : Nat) (c0 : Int) (zs : List Int), i = .int .i64 k ∧ c = .int .u64 c0 ∧ wr = w.alloc (.cells (wv zs).toArray 36) ∧ k ≤ xs.length ∧ AddAt ys (xs.take k) k c0 zs) (fun _ i _ => xs.length - (intOf i).toNat)
    case atStart => exact ⟨0, 0, _, rfl, rfl, rfl, Nat.zero_le _, AddAt.start hy⟩
    case round =>
      obtain ⟨k, c0, zs, rfl, rfl, hw, hk, hI⟩ := hrel
      have hc0 := hI.p0
      have hc1 := hI.p1
      have hlen := hI.len
      have hzl := Lib.hid hlen
      clear hlen
      by_cases hlt : k < xs.length
      · obtain ⟨b, o, rfl, hb1, hb2, hcy⟩ := (hA.keep (show Keep lo up w wr by rw [hw]; exact (Keep.refl _ _ _).alloc hu _)).at (i := k) hlt
        have hcz := own_cell w zs k (by rw [hzl.out]; omega)
        have hfz := own_free w zs k
        rw [← hw] at hcz hfz
        have HW := Lib.hid hw
        clear hw
        have hyk := hx.getD k
        have hzk := hI.ws.getD k
        have HN := Lib.hid (hI.next (y := xs.getD k 0) (ys' := xs.take (k + 1)) (val_take_succ xs k hlt) hyk.1 hyk.2 (by omega))
        have hkz : k < ys.length + 1 := by omega
        generalize xs.getD k 0 = y at *
        generalize hz : zs.getD k 0 = z at *
        clear hz
        go_wp2_with (go_at_call 213; refine (wAdd _ _ _ _ (by omega) (by omega) (by omega) (by omega) (by omega) (by omega)).mono ?_; rintro e w' ⟨rfl, rfl⟩)
        exact ⟨⟨k + 1, _, _, vint (by omega), rfl, by rw [HW.out, own_set], by omega, HN.out⟩, by simp [intOf]; omega⟩
      · obtain rfl : k = xs.length := by omega
        clear hlt
        have HW := Lib.hid hw
        clear hw
        have HT := Lib.hid (List.take_length (l := xs))
        rw [HT.out] at hI
        have hle : xs.length ≤ ys.length := by omega
        go_wp2
        go_loopw [6, 9] (fun c i wr => ∃ (k : Nat) (c0 : Int) (zs : List Int), i = .int .i64 k ∧ c = .int .u64 c0 ∧ wr = w.alloc (.cells (wv zs).toArray 36) ∧ k ≤ ys.length + 1 ∧ AddAt ys xs k c0 zs) (fun _ i _ => ys.length + 1 - (intOf i).toNat)
        case atStart => exact ⟨_, _, _, rfl, rfl, HW.out, by omega, hI⟩
        case round =>
          clear hI hc0 hc1 hzl HW
          obtain ⟨k, c0, zs, rfl, rfl, hw, hk, hI⟩ := hrel
          have hc0 := hI.p0
          have hc1 := hI.p1
          have hlen := hI.len
          have hzl := Lib.hid hlen
          clear hlen
          by_cases hlt : 0 < c0
          · have hkz : k < ys.length + 1 := by
              by_cases hh : k < ys.length + 1
              · exact hh
              · have := hI.done hy hx hle (by omega)
                omega
            have hcz := own_cell w zs k (by rw [hzl.out]; omega)
            have hfz := own_free w zs k
            rw [← hw] at hcz hfz
            have HW := Lib.hid hw
            clear hw
            have hzk := hI.ws.getD k
            have HN := Lib.hid (hI.next (y := 0) (ys' := xs) (by simp) (by omega) (by omega) (by omega))
            generalize hz : zs.getD k 0 = z at *
            clear hz
            go_wp2_with (go_at_call 213; refine (wAdd _ _ _ _ (by omega) (by omega) (by omega) (by omega) (by omega) (by omega)).mono ?_; rintro e w' ⟨rfl, rfl⟩)
            have HN2 := HN.out
            rw [Int.add_zero] at HN2
            exact ⟨⟨k + 1, _, _, vint (by omega), rfl, by rw [HW.out, own_set], by omega, HN2⟩, by simp [intOf]; omega⟩
          · have HW := Lib.hid hw
            clear hw
            have h0 : c0 = 0 := by omega
            have HE := Lib.hid hI.e
            have H0 := Lib.hid h0
            clear h0
            go_wp2
            go_ret
            refine ⟨zs, _, rfl, HW.out, hzl.out, hI.ws, ?_, by omega⟩
            have e := HE.out
            rw [H0.out] at e
            omega
  · have hmk := run_make_at (xs.length + 1) ((xs.length : Int) + 1) (by omega) (by omega)
    go_enter Tryz.func153, Tryz.ntmps153
    go_wp2_with (first | (with_reducible refine wpList_copy_words rfl (.tmp 21) (.tmp 22) rfl (w.heap.size) (0) (xs.length + 1) (xs.length + 1) (c) (A) (xs) (zw (xs.length + 1)) (lo) (up) ?cpa ?cpb ?cpc ?cpd (xs.length) ?cpe ?cpf ?cpg ?cph ?_; (case cpa => (first | (go_simp; done) | (go_simp; rfl))); (case cpb => (first | (go_simp; done) | (go_simp; rfl))); (case cpc => (rw [alloc_heap_at, if_pos rfl])); (case cpd => exact (hA.keep ((Keep.refl _ _ _).alloc hu _))); (case cpe => omega); (case cpf => omega); (case cpg => omega); (case cph => (simp [zw, wv, limbs_len_le]; first | done | omega))))
    go_loopw [6, 26] (fun c i wr => ∃ (k : Nat) (c0 : Int) (zs : List Int), i = .int .i64 k ∧ c = .int .u64 c0 ∧ wr = w.alloc (.cells (wv zs).toArray 36) ∧ k ≤ ys.length ∧ AddAt xs (ys.take k) k c0 zs) (fun _ i _ => ys.length - (intOf i).toNat)
    case atStart => exact ⟨0, 0, _, rfl, rfl, rfl, Nat.zero_le _, AddAt.start hx⟩
    case round =>
      obtain ⟨k, c0, zs, rfl, rfl, hw, hk, hI⟩ := hrel
      have hc0 := hI.p0
      have hc1 := hI.p1
      have hlen := hI.len
      have hzl := Lib.hid hlen
      clear hlen
      by_cases hlt : k < ys.length
      · obtain ⟨b, o, rfl, hb1, hb2, hcy⟩ := (hB.keep (show Keep lo up w wr by rw [hw]; exact (Keep.refl _ _ _).alloc hu _)).at (i := k) hlt
        have hcz := own_cell w zs k (by rw [hzl.out]; omega)
        have hfz := own_free w zs k
        rw [← hw] at hcz hfz
        have HW := Lib.hid hw
        clear hw
        have hyk := hy.getD k
        have hzk := hI.ws.getD k
        have HN := Lib.hid (hI.next (y := ys.getD k 0) (ys' := ys.take (k + 1)) (val_take_succ ys k hlt) hyk.1 hyk.2 (by omega))
        have hkz : k < xs.length + 1 := by omega
        generalize ys.getD k 0 = y at *
        generalize hz : zs.getD k 0 = z at *
        clear hz
        go_wp2_with (go_at_call 213; refine (wAdd _ _ _ _ (by omega) (by omega) (by omega) (by omega) (by omega) (by omega)).mono ?_; rintro e w' ⟨rfl, rfl⟩)
        exact ⟨⟨k + 1, _, _, vint (by omega), rfl, by rw [HW.out, own_set], by omega, HN.out⟩, by simp [intOf]; omega⟩
      · obtain rfl : k = ys.length := by omega
        clear hlt
        have HW := Lib.hid hw
        clear hw
        have HT := Lib.hid (List.take_length (l := ys))
        rw [HT.out] at hI
        have hle : ys.length ≤ xs.length := by omega
        go_wp2
        go_loopw [6, 9] (fun c i wr => ∃ (k : Nat) (c0 : Int) (zs : List Int), i = .int .i64 k ∧ c = .int .u64 c0 ∧ wr = w.alloc (.cells (wv zs).toArray 36) ∧ k ≤ xs.length + 1 ∧ AddAt xs ys k c0 zs) (fun _ i _ => xs.length + 1 - (intOf i).toNat)
        case atStart => exact ⟨_, _, _, rfl, rfl, HW.out, by omega, hI⟩
        case round =>
          clear hI hc0 hc1 hzl HW
          obtain ⟨k, c0, zs, rfl, rfl, hw, hk, hI⟩ := hrel
          have hc0 := hI.p0
          have hc1 := hI.p1
          have hlen := hI.len
          have hzl := Lib.hid hlen
          clear hlen
          by_cases hlt : 0 < c0
          · have hkz : k < xs.length + 1 := by
              by_cases hh : k < xs.length + 1
              · exact hh
              · have := hI.done hx hy hle (by omega)
                omega
            have hcz := own_cell w zs k (by rw [hzl.out]; omega)
            have hfz := own_free w zs k
            rw [← hw] at hcz hfz
            have HW := Lib.hid hw
            clear hw
            have hzk := hI.ws.getD k
            have HN := Lib.hid (hI.next (y := 0) (ys' := ys) (by simp) (by omega) (by omega) (by omega))
            generalize hz : zs.getD k 0 = z at *
            clear hz
            go_wp2_with (go_at_call 213; refine (wAdd _ _ _ _ (by omega) (by omega) (by omega) (by omega) (by omega) (by omega)).mono ?_; rintro e w' ⟨rfl, rfl⟩)
            have HN2 := HN.out
            rw [Int.add_zero] at HN2
            exact ⟨⟨k + 1, _, _, vint (by omega), rfl, by rw [HW.out, own_set], by omega, HN2⟩, by simp [intOf]; omega⟩
          · have HW := Lib.hid hw
            clear hw
            have h0 : c0 = 0 := by omega
            have HE := Lib.hid hI.e
            have H0 := Lib.hid h0
            clear h0
            go_wp2
            go_ret
            refine ⟨zs, _, rfl, HW.out, hzl.out, hI.ws, ?_, by omega⟩
            have e := HE.out
            rw [H0.out] at e
            omega
set_option maxRecDepth 100000 in
set_option maxHeartbeats 800000 in
theorem nAdd (A B : Option Addr) (c d lo up : Nat) (xs ys : List Int) (w : World) (hx : Ws xs) (hA : WordsIn lo up w A xs) (hy : Ws ys) (hB : WordsIn lo up w B ys) (hu : up ≤ w.heap.size) (hl : xs.length ≤ 17592186044416) (hl2 : ys.length ≤ 17592186044416) (hs : (limbs (val xs + val ys)).length ≤ 4096) :
    Calls Tryz.prog 95 #[.slice A xs.length c, .slice B ys.length d] w fun e w' => ∃ A1, e = .returned (.tuple #[.slice A1 (limbs (val xs + val ys)).length (limbs (val xs + val ys)).length, .int .i64 0]) ∧ FreshAt w.heap.size w' A1 (limbs (val xs + val ys)).length (limbs (val xs + val ys)) ∧ Below w.heap.size w w' := by
  go_enter Tryz.func95, Tryz.ntmps95
  go_wp2_with (fail)
  refine (nSum A B c d lo up xs ys _ hx hA hy hB hu hl hl2).mono ?_
  rintro e w' ⟨zs, n, rfl, rfl, hn, hz, hv, hn2⟩
  subst hn
  have HV := Lib.hid hv
  clear hv
  have hW : WordsIn w.heap.size (w.heap.size + 1) (w.alloc (.cells (wv zs).toArray 36 (0, 0))) (some ⟨w.heap.size, 0, none⟩) zs := (FreshAt.row (Nat.le_refl _) (by rw [alloc_heap_at, if_pos rfl])).words.wide (Nat.le_refl _) (by simp)
  have hF : FreshAt w.heap.size (w.alloc (.cells (wv zs).toArray 36 (0, 0))) (some ⟨w.heap.size, 0, none⟩) (limbs (val zs)).length (limbs (val zs)) := (FreshAt.row (Nat.le_refl _) (by rw [alloc_heap_at, if_pos rfl])).limbs hz
  go_wp2_with (fail)
  refine (nBound _ _ _ _ zs _ hz hW (Nat.le_refl _) (by omega) (by rw [HV.out]; exact hs)).mono ?_
  rintro e w' ⟨rfl, rfl⟩
  rw [HV.out] at hF ⊢
  go_wp2
  go_ret2
  exact ⟨_, rfl, hF, (by repeat (first | exact Below.refl _ _ | refine belowN ?_ _ | refine Below.drew ?_ | refine Below.alloc ?_ (by first | exact Nat.le_refl _ | (simp; done) | (simp; omega) | omega) _))⟩
theorem val_take_succ' (ys : List Int) (k : Nat) : val (ys.take (k + 1)) = val (ys.take k) + W ^ k * ys.getD k 0 := by
  by_cases h : k < ys.length
  · exact val_take_succ ys k h
  · rw [List.take_of_length_le (by omega), List.take_of_length_le (by omega), List.getD_eq_getElem?_getD, List.getElem?_eq_none (by omega)]; simp
structure SubAt (X : Int) (ys : List Int) (L k : Nat) (b0 : Int) (zs : List Int) : Prop where
  ws : Ws zs
  len : zs.length = L
  p0 : 0 ≤ b0
  p1 : b0 ≤ 1
  e : val zs - W ^ k * b0 = X - val (ys.take k)
theorem SubAt.next {X : Int} {ys : List Int} {L k : Nat} {b0 : Int} {zs : List Int} (h : SubAt X ys L k b0 zs) (h0 : 0 ≤ ys.getD k 0) (h1 : ys.getD k 0 ≤ 18446744073709551615) (hk : k < L) :
    SubAt X ys L (k + 1) (-((zs.getD k 0 - ys.getD k 0 - b0) / 18446744073709551616)) (zs.set k ((zs.getD k 0 - ys.getD k 0 - b0) % 18446744073709551616)) := by
  have hz := h.ws.getD k
  have a := h.p0
  have b := h.p1
  refine ⟨h.ws.set k (by omega) (by omega), by rw [List.length_set]; exact h.len, by omega, by omega, ?_⟩
  rw [val_set _ _ _ (by rw [h.len]; exact hk), val_take_succ', Int.pow_succ]
  have e := h.e
  have hW := W_eq
  generalize ys.getD k 0 = y at *
  have d : (zs.getD k 0 - y - b0) = (zs.getD k 0 - y - b0) % 18446744073709551616 + W * ((zs.getD k 0 - y - b0) / 18446744073709551616) := by rw [hW]; omega
  generalize (zs.getD k 0 - y - b0) % 18446744073709551616 = s at *
  generalize (zs.getD k 0 - y - b0) / 18446744073709551616 = c' at *
  have f : W ^ k * (zs.getD k 0 - y - b0) = W ^ k * (s + W * c') := by rw [d]
  grind
theorem SubAt.done {X : Int} {ys : List Int} {L : Nat} {b0 : Int} {zs : List Int} (h : SubAt X ys L L b0 zs) (hy : Ws ys) (hX : val ys ≤ X) (hL : X < W ^ L) : val zs = X - val ys := by
  have a := val_lt h.ws
  rw [h.len] at a
  have e := h.e
  have c0' := h.p0
  have c1' := h.p1
  have t : val (ys.take L) = val ys := by
    by_cases hl : L ≤ ys.length
    · have v := val_take_drop ys L hl
      have n1 := val_nonneg (hy.take L)
      have n2 := val_nonneg (hy.drop L)
      have : val (ys.drop L) = 0 := by
        by_cases z : val (ys.drop L) = 0
        · exact z
        · have m := Int.mul_le_mul_of_nonneg_left (show 1 ≤ val (ys.drop L) by omega) (Int.le_of_lt (Wpow_pos L))
          omega
      rw [this] at v; omega
    · rw [List.take_of_length_le (by omega)]
  rw [t] at e
  by_cases hb : b0 = 0
  · subst hb; omega
  · have : b0 = 1 := by omega
    subst this; omega
set_option maxRecDepth 100000 in
set_option maxHeartbeats 1600000 in
theorem nSub (A B : Option Addr) (c d lo up : Nat) (xs ys : List Int) (w : World) (hx : Ws xs) (hA : WordsIn lo up w A xs) (hy : Ws ys) (hB : WordsIn lo up w B ys) (hu : up ≤ w.heap.size) (hl : xs.length ≤ 17592186044416) (hl2 : ys.length ≤ 17592186044416) (hle : val ys ≤ val xs) (hs : (limbs (val xs)).length ≤ 4096) :
    Calls Tryz.prog 97 #[.slice A xs.length c, .slice B ys.length d] w fun e w' => ∃ A1, e = .returned (.tuple #[.slice A1 (limbs (val xs - val ys)).length (limbs (val xs - val ys)).length, .int .i64 0]) ∧ FreshAt w.heap.size w' A1 (limbs (val xs - val ys)).length (limbs (val xs - val ys)) ∧ Below w.heap.size w w' := by
  have hc0 : icmp (val xs) (val ys) = 0 ∨ icmp (val xs) (val ys) = 1 := by
    by_cases e : val xs = val ys
    · exact Or.inl (icmp_eq e)
    · exact Or.inr (icmp_gt (by omega))
  have hc : 0 ≤ icmp (val xs) (val ys) := by omega
  clear hc0
  have hX := limbs_len_lt (val_nonneg hx)
  have hm := limbs_mono (val_nonneg hy) hle
  go_enter Tryz.func97, Tryz.ntmps97
  go_wp2_with (fail)
  refine (nCmp A B c d lo up lo up xs ys _ hx hA hy hB (by omega) (by omega)).mono ?_
  rintro e w' ⟨rfl, q, rfl⟩
  go_wp2_with (fail)
  refine (nNorm A c lo up xs (w.drewN q) hx (hA.keep ((Keep.refl lo up w).drewN q)) hu (by omega)).mono ?_
  rintro e w' ⟨rfl, rfl⟩
  rw [World.heap_drewN, alloc_drewN]
  go_wp2_with (fail)
  go_loopw [7, 18] (fun b i wr => ∃ (k : Nat) (b0 : Int) (zs : List Int), i = .int .i64 k ∧ b = .int .u64 b0 ∧ wr = (w.alloc (.cells (wv zs).toArray 36)).drewN q ∧ k ≤ (limbs (val xs)).length ∧ SubAt (val xs) ys (limbs (val xs)).length k b0 zs) (fun _ i _ => (limbs (val xs)).length - (intOf i).toNat)
  case atStart => exact ⟨0, 0, limbs (val xs), rfl, rfl, rfl, Nat.zero_le _, ⟨limbs_ws _, rfl, by omega, by omega, by simp [val_limbs (val_nonneg hx), val_nil]⟩⟩
  case round =>
    obtain ⟨k, b0, zs, rfl, rfl, hw, hk, hI⟩ := hrel
    have hb0 := hI.p0
    have hb1 := hI.p1
    have hlen := hI.len
    have hzl := Lib.hid hlen
    clear hlen
    by_cases hlt : k < (limbs (val xs)).length
    · have hcz : wr.cell? ⟨w.heap.size, k, none⟩ = some (.int .u64 (zs.getD k 0)) := by rw [hw]; exact own_cell w zs k (by rw [hzl.out]; omega)
      have hfz : wr.frozen? ⟨w.heap.size, k, none⟩ = false := by rw [hw]; exact own_free w zs k
      have hyk := hy.getD k
      have hzk := hI.ws.getD k
      have HN := Lib.hid (hI.next hyk.1 hyk.2 hlt)
      have hBw : WordsIn lo up wr B ys := hB.keep (by rw [hw]; exact (Keep.refl _ _ _).alloc hu _)
      have HW := Lib.hid hw
      clear hw
      by_cases hky : k < ys.length
      · obtain ⟨b, o, rfl, hb1, hb2, hcy⟩ := hBw.at (i := k) hky
        generalize ys.getD k 0 = y at *
        generalize hz : zs.getD k 0 = z at *
        clear hz
        go_wp2_with (go_at_call 156; refine (wSub _ _ _ _ (by omega) (by omega) (by omega) (by omega) (by omega) (by omega)).mono ?_; rintro e w' ⟨rfl, rfl⟩)
        exact ⟨⟨k + 1, _, _, vint (by omega), rfl, by rw [HW.out, setCell_drewN, own_set], by omega, HN.out⟩, by simp [intOf]; omega⟩
      · have hy0 : ys.getD k 0 = 0 := by rw [List.getD_eq_getElem?_getD, List.getElem?_eq_none (by omega)]; rfl
        rw [hy0] at HN hyk
        clear hy0
        generalize hz : zs.getD k 0 = z at *
        clear hz
        go_wp2_with (go_at_call 156; refine (wSub _ _ _ _ (by omega) (by omega) (by omega) (by omega) (by omega) (by omega)).mono ?_; rintro e w' ⟨rfl, rfl⟩)
        have HN2 := HN.out
        rw [Int.sub_zero] at HN2
        exact ⟨⟨k + 1, _, _, vint (by omega), rfl, by rw [HW.out, setCell_drewN, own_set], by omega, HN2⟩, by simp [intOf]; omega⟩
    · obtain rfl : k = (limbs (val xs)).length := by omega
      clear hlt
      have HV := Lib.hid (hI.done hy hle hX)
      have hz := hI.ws
      have HW := Lib.hid hw
      have hWz : WordsIn w.heap.size (w.heap.size + 1) wr (some ⟨w.heap.size, 0, none⟩) zs := by
        rw [hw]; exact (FreshAt.row (Nat.le_refl _) (show ((w.alloc (.cells (wv zs).toArray 36)).drewN q).heap[w.heap.size]? = _ by rw [World.heap_drewN, alloc_heap_at, if_pos rfl])).words.wide (Nat.le_refl _) (by simp)
      have hF : FreshAt w.heap.size wr (some ⟨w.heap.size, 0, none⟩) (limbs (val zs)).length (limbs (val zs)) := by
        rw [hw]; exact (FreshAt.row (Nat.le_refl _) (show ((w.alloc (.cells (wv zs).toArray 36)).drewN q).heap[w.heap.size]? = _ by rw [World.heap_drewN, alloc_heap_at, if_pos rfl])).limbs hz
      have hzb : (limbs (val zs)).length ≤ (limbs (val xs)).length := by rw [← hzl.out]; exact limbs_len_le hz
      clear hw
      rw [← hzl.out]
      go_wp2_with (fail)
      refine (nBound _ _ _ _ zs _ hz hWz (Nat.le_refl _) (by rw [hzl.out]; omega) (by omega)).mono ?_
      rintro e w' ⟨rfl, rfl⟩
      rw [HV.out] at hF ⊢
      go_wp2
      go_ret2
      exact ⟨_, rfl, hF, by rw [HW.out]; exact (by repeat (first | exact Below.refl _ _ | refine belowN ?_ _ | refine Below.drew ?_ | refine Below.alloc ?_ (by first | exact Nat.le_refl _ | (simp; done) | (simp; omega) | omega) _))⟩
end Go.Proofs.YtfpofmifmapmfaaGreatDoor

namespace Go.Proofs.YtfpofmifmapmfaaGreatDoor
open Go.RowKit
set_option linter.unusedVariables false
set_option linter.unusedSimpArgs false
theorem blen_mul_le {x y : Int} {n : Nat} (hx : 0 < x) (hy : 0 < y) (h : x * y < (2:Int)^n) : blen x + blen y ≤ n + 1 := by
  have a := blen_le hx
  have b := blen_le hy
  have c := blen_pos hx
  have d := blen_pos hy
  have e : (2:Int)^(blen x - 1).toNat * (2:Int)^(blen y - 1).toNat ≤ x * y := Int.mul_le_mul a b (Int.le_of_lt (ipow_pos _)) (by omega)
  rw [← Int.pow_add] at e
  have := ipow_lt_of (show (2:Int)^((blen x - 1).toNat + (blen y - 1).toNat) < (2:Int)^n by omega)
  omega
structure MulAt (xs ys : List Int) (L i : Nat) (zs : List Int) : Prop where
  ws : Ws zs
  len : zs.length = L
  z : ∀ m, i + ys.length ≤ m → zs.getD m 0 = 0
  e : val zs = val (xs.take i) * val ys
structure MulIn (xs ys : List Int) (L i j : Nat) (c : Int) (zs : List Int) : Prop where
  ws : Ws zs
  len : zs.length = L
  z : ∀ m, i + ys.length ≤ m → zs.getD m 0 = 0
  p0 : 0 ≤ c
  p1 : c ≤ 18446744073709551615
  e : val zs + W ^ (i + j) * c = val (xs.take i) * val ys + W ^ i * (xs.getD i 0 * val (ys.take j))
theorem getD_zw (n i : Nat) : (zw n).getD i 0 = 0 := zw_getD n i
theorem MulAt.start (xs ys : List Int) (L : Nat) : MulAt xs ys L 0 (zw L) := ⟨zw_ws L, zw_length L, fun m _ => zw_getD L m, by rw [zw_val]; simp [val_nil]⟩
theorem MulAt.into {xs ys : List Int} {L i : Nat} {zs : List Int} (h : MulAt xs ys L i zs) : MulIn xs ys L i 0 0 zs := ⟨h.ws, h.len, h.z, by omega, by omega, by rw [h.e]; simp [val_nil]⟩
theorem getD_set_ne {zs : List Int} {k m : Nat} {v : Int} (h : m ≠ k) : (zs.set k v).getD m 0 = zs.getD m 0 := by
  rw [List.getD_eq_getElem?_getD, List.getD_eq_getElem?_getD, List.getElem?_set_ne (by omega)]
theorem mul_step {p z c : Int} (hp0 : 0 ≤ p) (hp1 : p ≤ 340282366920938463426481119284349108225) (hz0 : 0 ≤ z) (hz1 : z ≤ 18446744073709551615) (hc0 : 0 ≤ c) (hc1 : c ≤ 18446744073709551615) :
    0 ≤ p / 18446744073709551616 + (p % 18446744073709551616 + z) / 18446744073709551616 + ((p % 18446744073709551616 + z) % 18446744073709551616 + c) / 18446744073709551616 ∧
    p / 18446744073709551616 + (p % 18446744073709551616 + z) / 18446744073709551616 + ((p % 18446744073709551616 + z) % 18446744073709551616 + c) / 18446744073709551616 ≤ 18446744073709551615 ∧
    p + z + c = ((p % 18446744073709551616 + z) % 18446744073709551616 + c) % 18446744073709551616 + 18446744073709551616 * (p / 18446744073709551616 + (p % 18446744073709551616 + z) / 18446744073709551616 + ((p % 18446744073709551616 + z) % 18446744073709551616 + c) / 18446744073709551616) := by omega
theorem MulIn.next {xs ys : List Int} {L i j : Nat} {c : Int} {zs : List Int} (h : MulIn xs ys L i j c zs) (hj : j < ys.length) (hi : i + ys.length ≤ L) {s c' : Int}
    (hs0 : 0 ≤ s) (hs1 : s ≤ 18446744073709551615) (hc0 : 0 ≤ c') (hc1 : c' ≤ 18446744073709551615) (he : xs.getD i 0 * ys.getD j 0 + zs.getD (i + j) 0 + c = s + 18446744073709551616 * c') : MulIn xs ys L i (j + 1) c' (zs.set (i + j) s) := by
  refine ⟨h.ws.set _ hs0 hs1, by rw [List.length_set]; exact h.len, fun m hm => by rw [getD_set_ne (by omega)]; exact h.z m hm, hc0, hc1, ?_⟩
  rw [val_set _ _ _ (by rw [h.len]; omega), val_take_succ', show i + (j + 1) = (i + j) + 1 by omega, Int.pow_succ]
  have e := h.e
  rw [← W_eq] at he
  have f : W ^ (i + j) = W ^ i * W ^ j := Int.pow_add W i j
  generalize xs.getD i 0 = a at *
  generalize ys.getD j 0 = b at *
  generalize zs.getD (i + j) 0 = z at *
  generalize val (ys.take j) = t at *
  generalize val (xs.take i) * val ys = u at *
  have g : W ^ (i + j) * (a * b + z + c) = W ^ (i + j) * (s + W * c') := by rw [he]
  rw [f] at *
  generalize W ^ i = P at *
  generalize W ^ j = R at *
  grind
theorem MulIn.leave {xs ys : List Int} {L i : Nat} {c : Int} {zs : List Int} (h : MulIn xs ys L i ys.length c zs) (hi : i + ys.length < L) : MulAt xs ys L (i + 1) (zs.set (i + ys.length) c) := by
  refine ⟨h.ws.set _ h.p0 h.p1, by rw [List.length_set]; exact h.len, fun m hm => by rw [getD_set_ne (by omega)]; exact h.z m (by omega), ?_⟩
  rw [val_set _ _ _ (by rw [h.len]; omega), h.z _ (Nat.le_refl _), val_take_succ']
  have e := h.e
  rw [List.take_length] at e
  grind
def MulRel (us vs : List Int) (w1 : World) (i : Value) (wr : World) : Prop := ∃ (k : Nat) (zs : List Int), i = .int .i64 k ∧ k ≤ us.length ∧ MulAt us vs (us.length + vs.length) k zs ∧ wr.heap[w1.heap.size]? = some (.cells (wv zs).toArray 36 (0, 0)) ∧ Below w1.heap.size w1 wr
def MulRelIn (us vs : List Int) (w1 : World) (k : Nat) (c i : Value) (wr : World) : Prop := ∃ (j : Nat) (c0 : Int) (zs : List Int), i = .int .i64 j ∧ c = .int .u64 c0 ∧ j ≤ vs.length ∧ MulIn us vs (us.length + vs.length) k j c0 zs ∧ wr.heap[w1.heap.size]? = some (.cells (wv zs).toArray 36 (0, 0)) ∧ Below w1.heap.size w1 wr
set_option maxRecDepth 100000 in
set_option maxHeartbeats 1600000 in
theorem nMul (A B : Option Addr) (c d lo up : Nat) (xs ys : List Int) (w : World) (hx : Ws xs) (hA : WordsIn lo up w A xs) (hy : Ws ys) (hB : WordsIn lo up w B ys) (hu : up ≤ w.heap.size) (hxc : xs.length ≤ c) (hyd : ys.length ≤ d) (hl : c ≤ 17592186044416) (hl2 : d ≤ 17592186044416) (hs : (limbs (val xs * val ys)).length ≤ 4096) :
    Calls Tryz.prog 150 #[.slice A xs.length c, .slice B ys.length d] w fun e w' => ∃ A1, e = .returned (.tuple #[.slice A1 (limbs (val xs * val ys)).length (limbs (val xs * val ys)).length, .int .i64 0]) ∧ FreshAt w.heap.size w' A1 (limbs (val xs * val ys)).length (limbs (val xs * val ys)) ∧ Below w.heap.size w w' := by
  have hx0 := val_nonneg hx
  have hy0 := val_nonneg hy
  have hLx := limbs_len_le hx
  have hLy := limbs_len_le hy
  by_cases hz : val xs = 0 ∨ val ys = 0
  · have HN := Lib.hid (show val xs * val ys = 0 by rcases hz with e | e <;> rw [e] <;> simp)
    have hb : ((((limbs (val xs)).length : Nat) : Int) == 0) = true ∨ ((((limbs (val xs)).length : Nat) : Int) == 0) = false ∧ ((((limbs (val ys)).length : Nat) : Int) == 0) = true := by
      have a := limbs_len_zero hx0
      have b := limbs_len_zero hy0
      by_cases h : (limbs (val xs)).length = 0
      · exact Or.inl (beq_iff_eq.2 (by omega))
      · exact Or.inr ⟨beq_eq_false_iff_ne.2 (by omega), beq_iff_eq.2 (by omega)⟩
    clear hz
    rw [HN.out]
    rcases hb with h1 | ⟨h1, h2⟩
    all_goals
      go_enter Tryz.func150, Tryz.ntmps150
      go_wp2_with (fail)
      go_quiet ((first | (with_reducible exact quiet_same (nSize A c lo up xs _ hx (hA.keep ((Keep.refl _ _ _).drewN _)) (by omega))) | (with_reducible exact quiet_same (nSize B d lo up ys _ hy (hB.keep ((Keep.refl _ _ _).drewN _)) (by omega)))))
      go_wp2
      go_ret2
      exact ⟨none, by simp [limbs_zero], Or.inl ⟨rfl, limbs_zero, by simp [limbs_zero]⟩, (by repeat (first | exact Below.refl _ _ | refine belowN ?_ _ | refine Below.drew ?_ | refine Below.alloc ?_ (by first | exact Nat.le_refl _ | (simp; done) | (simp; omega) | omega) _))⟩
  · have hxp : 0 < val xs := by omega
    have hyp : 0 < val ys := by omega
    have hbits := blen_mul_le (n := 262144) hxp hyp (by
      have := limbs_len_lt (Int.mul_nonneg hx0 hy0)
      have h2 : W ^ (limbs (val xs * val ys)).length ≤ (2:Int) ^ 262144 := by rw [Wpow_eq]; exact ipow_le (by omega)
      omega)
    have hbx := blen_pos hxp
    have hby := blen_pos hyp
    have hLx0 : 0 < (limbs (val xs)).length := by have := (limbs_len_zero hx0).1; omega
    have hLy0 : 0 < (limbs (val ys)).length := by have := (limbs_len_zero hy0).1; omega
    have hx' := limbs_ws (val xs)
    have hy' := limbs_ws (val ys)
    have hA' := hA.limbs hx
    have hB' := hB.limbs hy
    have HX := Lib.hid (val_limbs hx0)
    have HY := Lib.hid (val_limbs hy0)
    clear hz
    go_enter Tryz.func150, Tryz.ntmps150
    go_wp2_with (fail)
    go_quiet ((first | (with_reducible exact quiet_same (nSize A c lo up xs _ hx (hA.keep ((Keep.refl _ _ _).drewN _)) (by omega))) | (with_reducible exact quiet_same (nSize B d lo up ys _ hy (hB.keep ((Keep.refl _ _ _).drewN _)) (by omega)))))
    have hb1 : ((((limbs (val xs)).length : Nat) : Int) == 0) = false := beq_eq_false_iff_ne.2 (by omega)
    have hb2 : ((((limbs (val ys)).length : Nat) : Int) == 0) = false := beq_eq_false_iff_ne.2 (by omega)
    have hB0 := Lib.hid (show Below w.heap.size w (w.drewN nq) from (by repeat (first | exact Below.refl _ _ | refine belowN ?_ _ | refine Below.drew ?_ | refine Below.alloc ?_ (by first | exact Nat.le_refl _ | (simp; done) | (simp; omega) | omega) _)))
    have hsz : (w.drewN nq).heap.size = w.heap.size := rfl
    have HS := Lib.hid hsz
    replace hA' : WordsIn lo up (w.drewN nq) A (limbs (val xs)) := hA'.keep ((Keep.refl _ _ _).drewN _)
    replace hB' : WordsIn lo up (w.drewN nq) B (limbs (val ys)) := hB'.keep ((Keep.refl _ _ _).drewN _)
    replace hu : up ≤ (w.drewN nq).heap.size := hu
    clear hA hB hsz
    generalize (limbs (val xs)) = us at *
    generalize (limbs (val ys)) = vs at *
    generalize w.drewN nq = w1 at *
    have hmk := run_make_at (us.length + vs.length) ((us.length : Int) + (vs.length : Int)) (by omega) (by omega)
    go_wp2_with (fail)
    refine (nBits A c lo up us _ hx' hA' (by omega)).mono ?_
    rintro e w' ⟨rfl, rfl⟩
    rw [HX.out]
    go_wp2_with (fail)
    refine (nBits B d lo up vs _ hy' hB' (by omega)).mono ?_
    rintro e w' ⟨rfl, rfl⟩
    rw [HY.out]
    go_wp2_with (fail)
    have hus : us.length ≤ 17592186044416 := by omega
    have hvs : vs.length ≤ 17592186044416 := by omega
    clear hmk hLx hLy hbits hbx hby
    go_loopw [46] (fun i wr => MulRel us vs w1 i wr) (fun i _ => us.length - (intOf i).toNat)
    case atStart => exact ⟨0, _, rfl, Nat.zero_le _, MulAt.start us vs _, by rw [alloc_heap_at, if_pos rfl], (by repeat (first | exact Below.refl _ _ | refine belowN ?_ _ | refine Below.drew ?_ | refine Below.alloc ?_ (by first | exact Nat.le_refl _ | (simp; done) | (simp; omega) | omega) _))⟩
    case round =>
      obtain ⟨k, zs, rfl, hk, hI, hg, hbw⟩ := hrel
      have HG := Lib.hid hg
      clear hg
      have hgl := heap_lt HG.out
      have hAr : WordsIn lo up wr A us := hA'.keep (Keep.of hbw hu)
      by_cases hlt : k < us.length
      · obtain ⟨b, o, rfl, hb1', hb2', hca⟩ := hAr.at (i := k) hlt
        have hak := hx'.getD k
        generalize hav : us.getD k 0 = a at hca hak
        have HAV := Lib.hid hav
        clear hav
        go_wp2_with (fail)
        go_loopw [9, 53] (fun c i wr => MulRelIn us vs w1 k c i wr) (fun _ i _ => vs.length - (intOf i).toNat)
        case atStart => exact ⟨0, 0, zs, rfl, rfl, Nat.zero_le _, hI.into, HG.out, hbw⟩
        case round =>
          clear hI HG hgl hAr hca hbw
          obtain ⟨j, c0, zs, rfl, rfl, hj, hI, hg, hbw⟩ := hrel
          have HG := Lib.hid hg
          clear hg
          have hgl := heap_lt HG.out
          have hc0 := hI.p0
          have hc1 := hI.p1
          by_cases hlj : j < vs.length
          · have hBr : WordsIn lo up wr B vs := hB'.keep (Keep.of hbw hu)
            obtain ⟨b', o', rfl, hb3, hb4, hcb⟩ := hBr.at (i := j) hlj
            have hbj := hy'.getD j
            generalize hbv : vs.getD j 0 = b0 at hcb hbj
            have HBV' := Lib.hid hbv
            clear hbv
            have hzj := hI.ws.getD (k + j)
            have hkj : k + j < zs.length := by rw [hI.len]; omega
            have hp0 : 0 ≤ a * b0 := Int.mul_nonneg hak.1 hbj.1
            have hp1 : a * b0 ≤ 340282366920938463426481119284349108225 := Int.le_trans (Int.mul_le_mul hak.2 hbj.2 hbj.1 (by omega)) (by decide)
            go_wp2_with (fail)
            refine (wMul a b0 _ hak.1 hbj.1 hak.2 hbj.2).mono ?_
            rintro e w2 ⟨rfl, hbb⟩
            have hg2 : w2.heap[w1.heap.size]? = some (.cells (wv zs).toArray 36 (0, 0)) := by rw [hbb.block _ hgl]; exact HG.out
            have hcz := row_cell hg2 hkj
            have hfz := free_of_cells hg2 (k + j)
            have HG2 := Lib.hid hg2
            clear hg2
            have HST := Lib.hid (mul_step hp0 hp1 hzj.1 hzj.2 hc0 hc1)
            have hlen := Lib.hid hI.len
            generalize hz : zs.getD (k + j) 0 = z at hcz hzj HST
            have HZ := Lib.hid hz
            clear hz
            generalize hpp : a * b0 = p at *
            have HP := Lib.hid hpp
            clear hpp
            go_wp2_with (go_at_call 213; refine (wAdd _ _ _ _ (by omega) (by omega) (by omega) (by omega) (by omega) (by omega)).mono ?_; rintro e w' ⟨rfl, rfl⟩)
            obtain ⟨s0, s1, s2⟩ := HST.out
            refine ⟨⟨j + 1, _, _, vint (by omega), rfl, by omega, ?_, heap_set_row HG2.out _ _, (hbw.trans (hbb.mono hbw.size)).setCell (Nat.le_refl _) _⟩, by simp [intOf]; omega⟩
            refine hI.next hlj (by omega) (by omega) (by omega) (by omega) (by omega) ?_
            rw [HAV.out, HBV'.out, HZ.out, HP.out]
            omega
          · obtain rfl : j = vs.length := by omega
            have hkl : k + vs.length < zs.length := by rw [hI.len]; omega
            have hcz := row_cell HG.out hkl
            have hfz := free_of_cells HG.out (k + vs.length)
            have HN := Lib.hid (hI.leave (by omega))
            go_wp2
            exact ⟨⟨k + 1, _, vint (by omega), by omega, HN.out, heap_set_row HG.out _ _, hbw.setCell (Nat.le_refl _) _⟩, by simp [intOf]; omega⟩
      · obtain rfl : k = us.length := by omega
        have HV := Lib.hid (show val zs = val xs * val ys by rw [hI.e, List.take_length, HX.out, HY.out])
        have hz := hI.ws
        have hlen := hI.len
        have hWz : WordsIn w1.heap.size (w1.heap.size + 1) wr (some ⟨w1.heap.size, 0, none⟩) zs := Or.inr ⟨_, 0, rfl, Nat.le_refl _, by omega, fun i hj => by rw [Nat.zero_add]; exact row_cell HG.out hj⟩
        have hF : FreshAt w1.heap.size wr (some ⟨w1.heap.size, 0, none⟩) (limbs (val zs)).length (limbs (val zs)) := (FreshAt.row (Nat.le_refl _) HG.out).limbs hz
        have HL := Lib.hid hlen
        rw [← hlen]
        clear hlen
        go_wp2_with (fail)
        refine (nBound _ _ _ _ zs _ hz hWz (Nat.le_refl _) (by rw [HL.out]; omega) (by rw [HV.out]; exact hs)).mono ?_
        rintro e w' ⟨rfl, rfl⟩
        rw [HV.out] at hF ⊢
        go_wp2
        go_ret2
        refine ⟨_, rfl, hF.wide (Nat.le_of_eq HS.out.symm), hB0.out.trans (hbw.mono (by rw [HS.out]; exact Nat.le_refl _))⟩
end Go.Proofs.YtfpofmifmapmfaaGreatDoor

namespace Go.Proofs.YtfpofmifmapmfaaGreatDoor
open Go.RowKit Go.Proofs.YtfpofmifmapmfaaGreatDoorW.PrintLast
set_option linter.unusedVariables false
set_option linter.unusedSimpArgs false
structure ShlAt (o : List Int) (k i : Nat) (zs : List Int) : Prop where
  ws : Ws zs
  len : zs.length = o.length
  lowE : ∀ m, m ≤ i → zs.getD m 0 = o.getD m 0
  e : val (zs.drop (i + 1)) = val (o.drop (i + 1)) * 2 ^ k + o.getD i 0 * 2 ^ k / 18446744073709551616
theorem getD_set_eq {zs : List Int} {k : Nat} {v : Int} (h : k < zs.length) : (zs.set k v).getD k 0 = v := by
  rw [List.getD_eq_getElem?_getD, List.getElem?_set_self h]; rfl
theorem drop_set_lt {zs : List Int} {k m : Nat} {v : Int} (h : k < m) : (zs.set k v).drop m = zs.drop m := by
  rw [List.drop_set, if_pos h]
theorem ShlAt.start {o : List Int} {k : Nat} (ho : Ws o) (hl : 0 < o.length) (ht : o.getD (o.length - 1) 0 = 0) : ShlAt o k (o.length - 1) o := by
  refine ⟨ho, rfl, fun _ _ => rfl, ?_⟩
  rw [show o.length - 1 + 1 = o.length by omega, List.drop_length, ht]; simp [val_nil]
theorem shl_word {x y : Int} {k : Nat} (hk : k ≤ 64) (hx : 0 ≤ x) (hy : 0 ≤ y) (hy1 : y ≤ 18446744073709551615) :
    0 ≤ x * 2 ^ k % 18446744073709551616 + y * 2 ^ k / 18446744073709551616 ∧ x * 2 ^ k % 18446744073709551616 + y * 2 ^ k / 18446744073709551616 ≤ 18446744073709551615 := by
  have a := div_split_lt hk hy1
  have b := @mod_dvd_pow x k hk
  have p := ipow_pos k
  have c := Int.mul_nonneg hy (Int.le_of_lt p)
  have s := pow_split hk
  -- x * 2^k % 2^64 is a multiple of 2^k below 2^64
  obtain ⟨m, hm⟩ := Int.dvd_of_emod_eq_zero b
  have d : x * 2 ^ k % 18446744073709551616 < 18446744073709551616 := Int.emod_lt_of_pos _ (by decide)
  have d0 : 0 ≤ x * 2 ^ k % 18446744073709551616 := Int.emod_nonneg _ (by decide)
  have e : m < 2 ^ (64 - k) := by
    rw [hm, ← s] at d
    exact Int.lt_of_mul_lt_mul_left d (Int.le_of_lt p)
  have f : (2:Int) ^ k * (m + 1) ≤ (2:Int) ^ k * 2 ^ (64 - k) := Int.mul_le_mul_of_nonneg_left (by omega) (Int.le_of_lt p)
  rw [s] at f
  have g : (2:Int) ^ k * (m + 1) = (2:Int) ^ k * m + 2 ^ k := by grind
  omega
theorem ShlAt.next {o : List Int} {k i : Nat} {zs : List Int} (h : ShlAt o k i zs) (ho : Ws o) (hk : k ≤ 64) (hi : 0 < i) (hil : i < o.length) :
    ShlAt o k (i - 1) (zs.set i (o.getD i 0 * 2 ^ k % 18446744073709551616 + o.getD (i - 1) 0 * 2 ^ k / 18446744073709551616)) := by
  have hb := shl_word hk (ho.getD i).1 (ho.getD (i - 1)).1 (ho.getD (i - 1)).2
  refine ⟨h.ws.set _ hb.1 hb.2, by rw [List.length_set]; exact h.len, fun m hm => by rw [getD_set_ne (by omega)]; exact h.lowE m (by omega), ?_⟩
  rw [show i - 1 + 1 = i by omega, val_drop_succ _ i (by rw [List.length_set, h.len]; exact hil), drop_set_lt (by omega), getD_set_eq (by rw [h.len]; exact hil), h.e, val_drop_succ o i hil]
  have hW := W_eq
  have d : o.getD i 0 * 2 ^ k = o.getD i 0 * 2 ^ k % 18446744073709551616 + W * (o.getD i 0 * 2 ^ k / 18446744073709551616) := by rw [hW]; omega
  generalize o.getD i 0 * 2 ^ k % 18446744073709551616 = s at *
  generalize o.getD i 0 * 2 ^ k / 18446744073709551616 = t at *
  generalize o.getD (i - 1) 0 * 2 ^ k / 18446744073709551616 = u at *
  grind
theorem ShlAt.done {o : List Int} {k i : Nat} {zs : List Int} (h : ShlAt o k i zs) (ho : Ws o) (hil : i < o.length) (hz : val (o.take i) = 0) (hz2 : ∀ m, m < i → o.getD m 0 = 0) : val (zs.set i (o.getD i 0 * 2 ^ k % 18446744073709551616)) = val o * 2 ^ k := by
  have hl : i < (zs.set i (o.getD i 0 * 2 ^ k % 18446744073709551616)).length := by rw [List.length_set, h.len]; exact hil
  have t0 : val ((zs.set i (o.getD i 0 * 2 ^ k % 18446744073709551616)).take i) = 0 := by
    have e : (zs.set i (o.getD i 0 * 2 ^ k % 18446744073709551616)).take i = o.take i := by
      rw [List.take_set_of_le (Nat.le_refl _)]
      apply List.ext_getElem?
      intro m
      rw [List.getElem?_take, List.getElem?_take]
      split
      · rename_i hm
        have := h.lowE m (by omega)
        rw [List.getD_eq_getElem?_getD, List.getD_eq_getElem?_getD, List.getElem?_eq_getElem (by rw [h.len]; omega), List.getElem?_eq_getElem (by omega)] at this
        rw [List.getElem?_eq_getElem (by rw [h.len]; omega), List.getElem?_eq_getElem (by omega)]
        simpa using this
      · rfl
    rw [e, hz]
  rw [val_take_drop _ i (by omega), t0, val_drop_succ _ i hl, drop_set_lt (by omega), getD_set_eq (by rw [h.len]; exact hil), h.e, val_take_drop o i (by omega), hz, val_drop_succ o i hil]
  have hW := W_eq
  have d : o.getD i 0 * 2 ^ k = o.getD i 0 * 2 ^ k % 18446744073709551616 + W * (o.getD i 0 * 2 ^ k / 18446744073709551616) := by rw [hW]; omega
  generalize o.getD i 0 * 2 ^ k % 18446744073709551616 = s at *
  generalize o.getD i 0 * 2 ^ k / 18446744073709551616 = t at *
  grind
def shO (m : Nat) (xs : List Int) : List Int := zw m ++ (xs ++ [0])
theorem shO_len (m : Nat) (xs : List Int) : (shO m xs).length = m + xs.length + 1 := by simp [shO, zw]; omega
theorem shO_ws {m : Nat} {xs : List Int} (h : Ws xs) : Ws (shO m xs) := (zw_ws m).append (h.append (Ws.cons (by omega) (by omega) Ws.nil))
theorem shO_val (m : Nat) (xs : List Int) : val (shO m xs) = W ^ m * val xs := by
  unfold shO
  rw [val_append, val_append, zw_val, zw_length, val_single]; simp
theorem shO_last (m : Nat) (xs : List Int) : (shO m xs).getD ((shO m xs).length - 1) 0 = 0 := by
  rw [shO_len]
  unfold shO
  rw [List.getD_eq_getElem?_getD, List.getElem?_append_right (by simp [zw]), List.getElem?_append_right (by simp [zw])]
  simp [zw]
theorem shO_low (m : Nat) (xs : List Int) {i : Nat} (h : i < m) : (shO m xs).getD i 0 = 0 := by
  unfold shO
  rw [List.getD_eq_getElem?_getD, List.getElem?_append_left (by simp [zw]; omega), ← List.getD_eq_getElem?_getD, zw_getD]
theorem shO_take (m : Nat) (xs : List Int) : val ((shO m xs).take m) = 0 := by
  unfold shO
  rw [List.take_append_of_le_length (by simp [zw]), List.take_of_length_le (by simp [zw]), zw_val]
theorem shO_is (m : Nat) (xs : List Int) : (zw (m + xs.length + 1)).take m ++ xs.take xs.length ++ (zw (m + xs.length + 1)).drop (m + xs.length) = shO m xs := by
  unfold shO zw
  rw [List.take_length, List.take_replicate, List.drop_replicate, Nat.min_eq_left (by omega), show m + xs.length + 1 - (m + xs.length) = 1 by omega, List.append_assoc]; rfl
set_option maxRecDepth 100000 in
set_option maxHeartbeats 1600000 in
theorem nShl (A : Option Addr) (c lo up : Nat) (xs : List Int) (n : Nat) (w : World) (hx : Ws xs) (hA : WordsIn lo up w A xs) (hu : up ≤ w.heap.size) (hxc : xs.length ≤ c) (hl : c ≤ 17592186044416) (hs : (limbs (val xs * 2 ^ n)).length ≤ 4096) :
    Calls Tryz.prog 182 #[.slice A xs.length c, .int .i64 n] w fun e w' => ∃ A1, e = .returned (.tuple #[.slice A1 (limbs (val xs * 2 ^ n)).length (limbs (val xs * 2 ^ n)).length, .int .i64 0]) ∧ FreshAt w.heap.size w' A1 (limbs (val xs * 2 ^ n)).length (limbs (val xs * 2 ^ n)) ∧ Below w.heap.size w w' := by
  have hx0 := val_nonneg hx
  have hLx := limbs_len_le hx
  by_cases hz : val xs = 0
  · have hz2 := (limbs_len_zero hx0).2 hz
    have HN := Lib.hid (show val xs * 2 ^ n = 0 by rw [hz]; simp)
    have HZ := Lib.hid hz2
    clear hz hz2
    rw [HN.out]
    go_enter Tryz.func182, Tryz.ntmps182
    go_wp2_with (go_at_call 154; refine (nSize A c lo up xs _ hx hA (by omega)).mono ?_; rintro e w' ⟨rfl, rfl⟩; rw [HZ.out])
    go_ret2
    exact ⟨none, by simp [limbs_zero], Or.inl ⟨rfl, limbs_zero, by simp [limbs_zero]⟩, (by repeat (first | exact Below.refl _ _ | refine belowN ?_ _ | refine Below.drew ?_ | refine Below.alloc ?_ (by first | exact Nat.le_refl _ | (simp; done) | (simp; omega) | omega) _))⟩
  · have hxp : 0 < val xs := by omega
    have hbits : blen (val xs) + n ≤ 262144 := by
      have h1 := limbs_len_lt (n := val xs * 2 ^ n) (Int.mul_nonneg hx0 (Int.le_of_lt (ipow_pos n)))
      have h2 : W ^ (limbs (val xs * 2 ^ n)).length ≤ (2:Int) ^ 262144 := by rw [Wpow_eq]; exact ipow_le (by omega)
      have h3 := blen_le_of_lt (x := val xs * 2 ^ n) (n := 262144) (by omega)
      rw [blen_mul_pow n hxp] at h3
      exact h3
    have hbx := blen_pos hxp
    have hLx0 : 0 < (limbs (val xs)).length := by have := (limbs_len_zero hx0).1; omega
    have hx' := limbs_ws (val xs)
    have hA' := hA.limbs hx
    have HX := Lib.hid (val_limbs hx0)
    have hb1 : ((((limbs (val xs)).length : Nat) : Int) == 0) = false := beq_eq_false_iff_ne.2 (by omega)
    clear hz
    have em : (n : Int) / 64 = ((n / 64 : Nat) : Int) := by omega
    have ek : (n : Int) % 64 = ((n % 64 : Nat) : Int) := by omega
    have HMK := Lib.hid (show n = 64 * (n / 64) + n % 64 by omega)
    have hk : n % 64 < 64 := by omega
    have hm : n / 64 ≤ 4096 := by omega
    have hn : n ≤ 262144 := by omega
    generalize n / 64 = m at *
    generalize n % 64 = k at *
    go_enter Tryz.func182, Tryz.ntmps182
    go_wp2_with (fail)
    refine (nSize A c lo up xs _ hx hA (by omega)).mono ?_
    rintro e w' ⟨rfl, rfl⟩
    generalize (limbs (val xs)) = us at *
    have hmk := run_make_at (m + us.length + 1) ((m : Int) + (us.length : Int) + 1) (by omega) (by omega)
    go_wp2_with (fail)
    refine (nBits A c lo up us _ hx' hA' (by omega)).mono ?_
    rintro e w' ⟨rfl, rfl⟩
    rw [HX.out]
    have HSO := shO_is m us
    rw [List.take_length] at HSO
    have hoW := shO_ws (m := m) hx'
    have hoL := shO_len m us
    have HOL := Lib.hid hoL
    have HOV := Lib.hid (shO_val m us)
    have hPow : W ^ m * val us * 2 ^ k = val xs * 2 ^ n := by
      rw [HX.out, HMK.out, Wpow_eq, Int.pow_add]; grind
    have HP := Lib.hid hPow
    clear hPow hoL
    by_cases hk0 : k = 0
    · have hk00 : k ≤ 0 := by omega
      have HK0 := Lib.hid hk0
      clear hk0
      go_wp2_with ((with_reducible refine wpList_copy_words rfl (.tmp 36) (.tmp 37) rfl (w.heap.size) (m) (m + us.length + 1 - m) (m + us.length + 1 - m) (c) (A) (us) (zw (m + us.length + 1)) (lo) (up) ?cpa ?cpb ?cpc ?cpd (us.length) ?cpe ?cpf ?cpg ?cph ?_; (case cpa => (first | (go_simp; done) | (go_simp; rfl))); (case cpb => (first | (go_simp; done) | (go_simp; rfl))); (case cpc => (rw [alloc_heap_at, if_pos rfl])); (case cpd => exact (hA'.keep ((Keep.refl _ _ _).alloc hu _))); (case cpe => omega); (case cpf => omega); (case cpg => omega); (case cph => (simp [zw, wv, limbs_len_le]; first | done | omega))))
      have HV := Lib.hid (show val (shO m us) = val xs * 2 ^ n by rw [HOV.out, ← HP.out, HK0.out]; simp)
      have hF : FreshAt w.heap.size (w.alloc (.cells (wv (shO m us)).toArray 36)) (some ⟨w.heap.size, 0, none⟩) (limbs (val (shO m us))).length (limbs (val (shO m us))) := (FreshAt.row (Nat.le_refl _) (by rw [alloc_heap_at, if_pos rfl])).limbs hoW
      have hWz := (FreshAt.row (lo := w.heap.size) (w := w.alloc (.cells (wv (shO m us)).toArray 36)) (g := w.heap.size) (xs := shO m us) (Nat.le_refl _) (by rw [alloc_heap_at, if_pos rfl])).words
      clear HSO
      rw [← HOL.out]
      refine (nBound _ _ _ _ (shO m us) _ hoW hWz (Nat.le_refl _) (by rw [HOL.out]; omega) (by rw [HV.out]; exact hs)).mono ?_
      rintro e w' ⟨rfl, rfl⟩
      rw [HV.out] at hF ⊢
      go_wp2
      go_ret2
      exact ⟨_, rfl, hF, (by repeat (first | exact Below.refl _ _ | refine belowN ?_ _ | refine Below.drew ?_ | refine Below.alloc ?_ (by first | exact Nat.le_refl _ | (simp; done) | (simp; omega) | omega) _))⟩
    · have hk1 : 0 < k := by omega
      clear hk0
      go_wp2_with ((with_reducible refine wpList_copy_words rfl (.tmp 36) (.tmp 37) rfl (w.heap.size) (m) (m + us.length + 1 - m) (m + us.length + 1 - m) (c) (A) (us) (zw (m + us.length + 1)) (lo) (up) ?cpa ?cpb ?cpc ?cpd (us.length) ?cpe ?cpf ?cpg ?cph ?_; (case cpa => (first | (go_simp; done) | (go_simp; rfl))); (case cpb => (first | (go_simp; done) | (go_simp; rfl))); (case cpc => (rw [alloc_heap_at, if_pos rfl])); (case cpd => exact (hA'.keep ((Keep.refl _ _ _).alloc hu _))); (case cpe => omega); (case cpf => omega); (case cpg => omega); (case cph => (simp [zw, wv, limbs_len_le]; first | done | omega))))
      rw [ek]
      clear HSO
      go_loopw [8] (fun i wr => ∃ (j q : Nat) (zs : List Int), i = .int .i64 j ∧ wr = (w.alloc (.cells (wv zs).toArray 36)).drewN q ∧ m ≤ j ∧ j ≤ m + us.length ∧ ShlAt (shO m us) k j zs) (fun i _ => (intOf i).toNat)
      case atStart =>
        have hst := ShlAt.start (k := k) hoW (by rw [HOL.out]; omega) (shO_last m us)
        rw [HOL.out, Nat.add_sub_cancel] at hst
        exact ⟨m + us.length, 0, _, vint (by omega), rfl, by omega, Nat.le_refl _, hst⟩
      case round =>
        obtain ⟨j, q, zs, rfl, hw, hj, hj2, hI⟩ := hrel
        have hlen := hI.len
        rw [HOL.out] at hlen
        have HL := Lib.hid hlen
        have hj3 : j < zs.length := by omega
        have hcz : wr.cell? ⟨w.heap.size, j, none⟩ = some (.int .u64 (zs.getD j 0)) := by rw [hw]; exact own_cell w zs j hj3
        have hfz : wr.frozen? ⟨w.heap.size, j, none⟩ = false := by rw [hw]; exact own_free w zs j
        have HW := Lib.hid hw
        have HE1 := Lib.hid (hI.lowE j (Nat.le_refl _))
        have hz1 := hI.ws.getD j
        clear hlen
        by_cases hlt : m < j
        · obtain ⟨i, rfl⟩ : ∃ i, j = i + 1 := ⟨j - 1, by omega⟩
          have hcz2 : wr.cell? ⟨w.heap.size, i, none⟩ = some (.int .u64 (zs.getD i 0)) := by rw [hw]; exact own_cell w zs i (by omega)
          have HE2 := Lib.hid (hI.lowE i (by omega))
          have hz2 := hI.ws.getD i
          have HN := Lib.hid (hI.next hoW (by omega) (by omega) (by rw [HOL.out]; omega))
          clear hw
          generalize hzz : zs.getD (i + 1) 0 = z1 at hcz hz1 HE1
          generalize hzz2 : zs.getD i 0 = z2 at hcz2 hz2 HE2
          clear hzz hzz2
          have e1 : (((i + 1 : Nat) : Int) - 1) = (i : Int) := by omega
          have e2 : ((i + 1 : Nat) : Int) = (i : Int) + 1 := by omega
          have e3 : ((k : Int)).toNat = k := by omega
          have F1 := Lib.hid (show (i : Int) < (m : Int) + (us.length : Int) by omega)
          have F2 := Lib.hid (show (i : Int) < (m : Int) + (us.length : Int) + 1 by omega)
          have F3 := Lib.hid (show wrap64 (i : Int) = (i : Int) by unfold wrap64; omega)
          rw [e2]
          go_wp2_with (fail)
          have f1 := F1.out
          have f2 := F2.out
          have f3 := F3.out
          have f4 : 0 ≤ (i : Int) := Int.natCast_nonneg i
          have f5 : 0 ≤ (i : Int) + 1 := Int.add_nonneg f4 (by decide)
          refine start_ (n := 18) (S := fun w' => w'.cell? ⟨w.heap.size, i + 1, none⟩ = some (.int .u64 z1) ∧ w'.cell? ⟨w.heap.size, i, none⟩ = some (.int .u64 z2)) (ds := [17]) (bt 18 0) (by kernel_rfl) rfl rfl (⟨hcz, hcz2⟩) (fun hHeld => ?_)
          refine pv_ 0 53 ?_
          refine pv_ 1 54 ?_
          refine pv_ 2 55 ?_
          refine pv_ 3 56 ?_
          refine pv_ 4 57 ?_
          refine ld_ 5 58 ?_ hHeld ?_ ?_; rotate_left
          · rintro w' ⟨s1, s2⟩
            go_simp; with_reducible rfl
          refine pv_ 6 59 ?_
          refine pv_ 7 60 ?_
          refine pv_ 8 61 ?_
          refine pv_ 9 62 ?_
          refine ld_ 10 63 ?_ hHeld ?_ ?_; rotate_left
          · rintro w' ⟨s1, s2⟩
            go_simp; with_reducible rfl
          refine pv_ 11 64 ?_
          refine ca_ 12 65 Tryz.func224 #[.int .u64 z1, .int .u64 z2, .int .i64 k] ?_
          with_reducible refine (wShl z1 z2 k _ hz1.1 hz1.2 hz2.1 hz2.2 (by omega) (by omega)).mono ?_
          rintro e w' ⟨rfl, q2, rfl⟩
          refine ⟨_, rfl, (by exact hHeld), fun hHeld => ?_⟩
          refine nn ?_
          refine pv_ 13 52 ?_
          refine pv_ 14 66 ?_
          refine pv_ 15 67 ?_
          refine pv_ 16 68 ?_
          refine last_ (i := 17) (N := none) (bt 18 262143) rfl rfl (by kernel_rfl) (by decide) (fun K hK => ?_)
          refine skip_ (w1 := ?_) (by rfl) rfl ?_ ?_
          rotate_left
          · go_simp
            rfl
          refine hK.out _ _ ?_
          clear hK K
          refine done_ (by kernel_rfl) ?_
          clear f3
          go_wp2
          refine ⟨⟨i, q + (1 + q2), _, rfl, by rw [HW.out, setCell_drewN, own_set, World.drewN_drewN], by omega, by omega, ?_⟩, by simp [intOf]⟩
          have HN2 := HN.out
          rw [Nat.add_sub_cancel, ← HE1.out, ← HE2.out] at HN2
          exact HN2
        · obtain rfl : m = j := by omega
          have hm1 : (m : Int) < ((m + us.length + 1 : Nat) : Int) := by omega
          have HD := Lib.hid (hI.done hoW (by rw [HOL.out]; omega) (shO_take m us) (fun i hi => shO_low m us hi))
          rw [HE1.out] at hz1
          clear hw hlt
          generalize hzz : zs.getD m 0 = z1 at hcz hz1 HE1
          clear hzz
          have e3 : ((k : Int)).toNat = k := by omega
          have hmo := Int.emod_nonneg (z1 * 2 ^ k) (show (18446744073709551616 : Int) ≠ 0 by decide)
          have hmo2 := Int.emod_lt_of_pos (z1 * 2 ^ k) (show (0 : Int) < 18446744073709551616 by decide)
          have hzs := hI.ws.set m hmo (show z1 * 2 ^ k % 18446744073709551616 ≤ 18446744073709551615 by omega)
          go_wp2_with (fail)
          rw [HW.out, setCell_drewN, own_set, IntKind.wrap_u64]
          have hln : (zs.set m (z1 * 2 ^ k % 18446744073709551616)).length = m + us.length + 1 := by rw [List.length_set, HL.out]
          have HV : val (zs.set m (z1 * 2 ^ k % 18446744073709551616)) = val xs * 2 ^ n := by
            rw [HE1.out, HD.out, HOV.out, HP.out]
          generalize zs.set m (z1 * 2 ^ k % 18446744073709551616) = vs at *
          have hg : ((w.alloc (.cells (wv vs).toArray 36)).drewN q).heap[w.heap.size]? = some (.cells (wv vs).toArray 36 (0, 0)) := by rw [World.heap_drewN, alloc_heap_at, if_pos rfl]
          have hF := (FreshAt.row (Nat.le_refl w.heap.size) hg).limbs hzs
          have hWz := (FreshAt.row (Nat.le_refl w.heap.size) hg).words
          rw [← hln]
          refine (nBound _ _ _ _ vs _ hzs hWz (Nat.le_refl _) (by omega) (by rw [HV]; exact hs)).mono ?_
          rintro e w' ⟨rfl, rfl⟩
          rw [HV] at hF ⊢
          have HV := Lib.hid HV
          clear hg
          go_wp2
          go_ret2
          exact ⟨_, rfl, hF, (by repeat (first | exact Below.refl _ _ | refine belowN ?_ _ | refine Below.drew ?_ | refine Below.alloc ?_ (by first | exact Nat.le_refl _ | (simp; done) | (simp; omega) | omega) _))⟩
end Go.Proofs.YtfpofmifmapmfaaGreatDoor
