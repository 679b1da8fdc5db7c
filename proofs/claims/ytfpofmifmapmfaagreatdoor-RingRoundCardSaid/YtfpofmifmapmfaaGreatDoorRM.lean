/- Lists of points compared: slices.CompareFunc with ring.compare; plumbref24.CompareLines; plumblaw24.eq. -/
import Derived.Test.YtfpofmifmapmfaaGreatDoorRD
import Derived.Test.YtfpofmifmapmfaaGreatDoorRB
namespace Go.Proofs.YtfpofmifmapmfaaGreatDoor
open Go.RowKit Go.Proofs.YtfpofmifmapmfaaGreatDoorW.PrintLast
set_option linter.unusedVariables false
def I64 (v : Int) : Prop := -9223372036854775808 ≤ v ∧ v ≤ 9223372036854775807
theorem closedL_len {l : List Pt} (h : 0 < l.length) : (closedL l).length = l.length + 1 := by
  unfold closedL; rw [if_neg (by omega), List.length_append]; rfl
theorem closedL_mem {l : List Pt} {q : Pt} : q ∈ closedL l ↔ q ∈ l := by
  unfold closedL
  split
  · rename_i h
    rw [List.eq_nil_of_length_eq_zero h]
  · rename_i h
    rw [List.mem_append, List.mem_singleton]
    constructor
    · rintro (h1 | rfl)
      · exact h1
      · exact getD_mem (by omega)
    · exact Or.inl
end Go.Proofs.YtfpofmifmapmfaaGreatDoor

namespace Go.Proofs.YtfpofmifmapmfaaGreatDoor
open Go.RowKit Go.Proofs.YtfpofmifmapmfaaGreatDoorW.PrintLast
set_option linter.unusedVariables false
set_option linter.unusedSimpArgs false
def farB (s a b : Int) : Int := if qcmp (fval b) (fval a) = s then b else a
def cornK (s : Int) (f : Pt → Int) (l : List Pt) (k : Nat) : Int := (List.range k).foldl (fun a j => farB s a (f (l.getD j (0, 0)))) (f (l.getD 0 (0, 0)))
theorem cornK_zero (s : Int) (f : Pt → Int) (l : List Pt) : cornK s f l 0 = f (l.getD 0 (0, 0)) := rfl
theorem cornK_succ (s : Int) (f : Pt → Int) (l : List Pt) (k : Nat) : cornK s f l (k + 1) = farB s (cornK s f l k) (f (l.getD k (0, 0))) := by
  unfold cornK; rw [List.range_succ, List.foldl_append]; rfl
theorem cornK_one {s : Int} (hs : s ≠ 0) (f : Pt → Int) (l : List Pt) : cornK s f l 1 = f (l.getD 0 (0, 0)) := by
  rw [cornK_succ, cornK_zero]; unfold farB; rw [qcmp_self, if_neg (by omega)]
theorem cornK_is (s : Int) (f : Pt → Int) (l : List Pt) (k : Nat) (hk : k ≤ l.length) (h0 : 0 < l.length) : ∃ j, j < l.length ∧ cornK s f l k = f (l.getD j (0, 0)) := by
  induction k with
  | zero => exact ⟨0, h0, rfl⟩
  | succ k ih =>
    obtain ⟨j, hj, e⟩ := ih (by omega)
    rw [cornK_succ]
    unfold farB
    split
    · exact ⟨k, by omega, rfl⟩
    · exact ⟨j, hj, e⟩
theorem cornK_low (f : Pt → Int) (l : List Pt) (k : Nat) : ∀ j, j < k → fval (cornK (-1) f l k) ≤ fval (f (l.getD j (0, 0))) := by
  induction k with
  | zero => intro j hj; omega
  | succ k ih =>
    intro j hj
    rw [cornK_succ]
    unfold farB
    split
    · rename_i h
      rw [qcmp_lt] at h
      rcases Nat.lt_or_ge j k with g | g
      · exact Rat.le_of_lt (by have := ih j g; grind)
      · obtain rfl : j = k := by omega
        exact Rat.le_refl
    · rename_i h
      rw [qcmp_lt] at h
      rcases Nat.lt_or_ge j k with g | g
      · exact ih j g
      · obtain rfl : j = k := by omega
        exact Rat.not_lt.1 h
theorem cornK_high (f : Pt → Int) (l : List Pt) (k : Nat) : ∀ j, j < k → fval (f (l.getD j (0, 0))) ≤ fval (cornK 1 f l k) := by
  induction k with
  | zero => intro j hj; omega
  | succ k ih =>
    intro j hj
    rw [cornK_succ]
    unfold farB
    split
    · rename_i h
      rw [qcmp_gt] at h
      rcases Nat.lt_or_ge j k with g | g
      · exact Rat.le_of_lt (by have := ih j g; grind)
      · obtain rfl : j = k := by omega
        exact Rat.le_refl
    · rename_i h
      rw [qcmp_gt] at h
      rcases Nat.lt_or_ge j k with g | g
      · exact ih j g
      · obtain rfl : j = k := by omega
        exact Rat.not_lt.1 h
def fX (p : Pt) : Int := p.1
def fY (p : Pt) : Int := p.2
def boxE (l : List Pt) : Int := if l.length = 0 then 240 else if finB l = true then 0 else 220
def lowP (l : List Pt) : Pt := if boxE l = 0 then (cornK (-1) fX l l.length, cornK (-1) fY l l.length) else (0, 0)
def highP (l : List Pt) : Pt := if boxE l = 0 then (cornK 1 fX l l.length, cornK 1 fY l l.length) else (0, 0)
end Go.Proofs.YtfpofmifmapmfaaGreatDoor

namespace Go.Proofs.YtfpofmifmapmfaaGreatDoor
open Go.RowKit Go.Proofs.YtfpofmifmapmfaaGreatDoorW.PrintLast
set_option linter.unusedVariables false
set_option linter.unusedSimpArgs false
def rotL (m : List Pt) (j : Nat) : List Pt := m.drop j ++ m.take j
theorem closedL_of {m : List Pt} (h : m ≠ []) : closedL m = m ++ [m.getD 0 (0, 0)] := by
  unfold closedL
  rw [if_neg (by intro e; exact h (List.eq_nil_of_length_eq_zero e))]
theorem closedL_cons (x : Pt) (l : List Pt) : closedL (x :: l) = x :: l ++ [x] := by rw [closedL_of (by simp)]; rfl
theorem rot_edges (m : List Pt) (j : Nat) : ∃ a b : List Ed, pthE (closedL m) = a ++ b ∧ pthE (closedL (rotL m j)) = b ++ a := by
  unfold rotL
  rcases e1 : m.take j with _ | ⟨x, a⟩
  · have hm : m.drop j = m := by
      rcases (List.take_eq_nil_iff).1 e1 with h | h
      · subst h; rfl
      · subst h; simp
    exact ⟨[], pthE (closedL m), rfl, by rw [hm, List.append_nil, List.append_nil]⟩
  · rcases e2 : m.drop j with _ | ⟨y, b⟩
    · have hm : m.take j = m := by
        have := List.take_append_drop j m
        rw [e2, List.append_nil] at this; exact this
      rw [e1] at hm
      rw [List.nil_append, hm]
      exact ⟨[], pthE (closedL m), rfl, by rw [List.append_nil]⟩
    · have hm : m = x :: a ++ y :: b := by rw [← List.take_append_drop j m, e1, e2]
      refine ⟨pthE (x :: a ++ [y]), pthE (y :: b ++ [x]), ?_, ?_⟩
      · rw [hm, List.cons_append, closedL_cons]
        have := pthE_app (x :: a) y (b ++ [x])
        simp only [List.cons_append, List.append_assoc] at this ⊢
        exact this
      · rw [List.cons_append, closedL_cons]
        have := pthE_app (y :: b) x (a ++ [y])
        simp only [List.cons_append, List.append_assoc] at this ⊢
        exact this
theorem rot_sumE (f : Ed → Rat) (m : List Pt) (j : Nat) : sumE f (pthE (closedL (rotL m j))) = sumE f (pthE (closedL m)) := by
  obtain ⟨a, b, h1, h2⟩ := rot_edges m j
  rw [h1, h2, sumE_app, sumE_app, Rat.add_comm]
theorem rot_sumI (f : Ed → Int) (m : List Pt) (j : Nat) : sumI f (pthE (closedL (rotL m j))) = sumI f (pthE (closedL m)) := by
  obtain ⟨a, b, h1, h2⟩ := rot_edges m j
  rw [h1, h2, sumI_app, sumI_app, Int.add_comm]
theorem rot_any (f : Ed → Bool) (m : List Pt) (j : Nat) : (pthE (closedL (rotL m j))).any f = (pthE (closedL m)).any f := by
  obtain ⟨a, b, h1, h2⟩ := rot_edges m j
  rw [h1, h2, List.any_append, List.any_append, Bool.or_comm]
theorem pthE_snoc : ∀ (l : List Pt) (x y : Pt), pthE (l ++ [x, y]) = pthE (l ++ [x]) ++ [(x, y)]
  | l, x, y => pthE_app l x [y]
theorem pthE_rev : ∀ l : List Pt, pthE l.reverse = ((pthE l).map (fun e => (e.2, e.1))).reverse
  | [] => rfl
  | [_] => rfl
  | x :: y :: l => by
    have ih := pthE_rev (y :: l)
    rw [pthE, List.map_cons, (show ∀ (a : Ed) (t : List Ed), (a :: t).reverse = t.reverse ++ [a] from fun a t => List.reverse_cons), ← ih]
    have e1 : (x :: y :: l).reverse = l.reverse ++ [y, x] := by simp
    have e2 : (y :: l).reverse = l.reverse ++ [y] := by simp
    rw [e1, e2]
    exact pthE_snoc _ _ _
theorem closed_rev (m : List Pt) : ∃ j, closedL (rotL m.reverse j) = (closedL m).reverse := by
  rcases m with _ | ⟨x, l⟩
  · exact ⟨0, rfl⟩
  · refine ⟨l.length, ?_⟩
    unfold rotL
    rw [List.reverse_cons, show List.drop l.length (l.reverse ++ [x]) = [x] by rw [show l.length = l.reverse.length from (List.length_reverse).symm, List.drop_left], show List.take l.length (l.reverse ++ [x]) = l.reverse by rw [show l.length = l.reverse.length from (List.length_reverse).symm, List.take_left]]
    show closedL (x :: l.reverse) = _
    rw [closedL_cons, closedL_cons]
    simp
theorem sumE_neg {f : Ed → Rat} (hf : ∀ x y, f (x, y) + f (y, x) = 0) : ∀ es : List Ed, sumE f ((es.map (fun e => (e.2, e.1))).reverse) = -sumE f es
  | [] => by simp [sumE]
  | (x, y) :: es => by
    have := hf x y
    have h0 : sumE f [] = 0 := rfl
    rw [List.map_cons, List.reverse_cons, sumE_app, sumE_neg hf es, sumE_cons, sumE_cons, h0]
    show -sumE f es + (f (y, x) + 0) = -(f (x, y) + sumE f es)
    grind
theorem sumI_neg {f : Ed → Int} (hf : ∀ x y, f (x, y) + f (y, x) = 0) : ∀ es : List Ed, sumI f ((es.map (fun e => (e.2, e.1))).reverse) = -sumI f es
  | [] => by simp [sumI]
  | (x, y) :: es => by
    have := hf x y
    have h0 : sumI f [] = 0 := rfl
    rw [List.map_cons, List.reverse_cons, sumI_app, sumI_neg hf es, sumI_cons, sumI_cons, h0]
    show -sumI f es + (f (y, x) + 0) = -(f (x, y) + sumI f es)
    omega
theorem any_rev {f : Ed → Bool} (hf : ∀ x y, f (y, x) = f (x, y)) (es : List Ed) : ((es.map (fun e => (e.2, e.1))).reverse).any f = es.any f := by
  rw [List.any_reverse, List.any_map]
  congr 1
  funext e
  exact hf e.1 e.2
def bgnL (l : List Pt) (j : Nat) (back : Bool) : List Pt := rotL (if back then l.reverse else l) j
theorem bgn_sumE {f : Ed → Rat} (hf : ∀ x y, f (x, y) + f (y, x) = 0) (l : List Pt) (j : Nat) (back : Bool) : sumE f (pthE (closedL (bgnL l j back))) = if back then -sumE f (pthE (closedL l)) else sumE f (pthE (closedL l)) := by
  unfold bgnL
  rw [rot_sumE]
  cases back
  · rfl
  · obtain ⟨i, hi⟩ := closed_rev l
    rw [if_pos rfl, if_pos rfl, ← rot_sumE f l.reverse i, hi, pthE_rev, sumE_neg hf]
theorem bgn_sumI {f : Ed → Int} (hf : ∀ x y, f (x, y) + f (y, x) = 0) (l : List Pt) (j : Nat) (back : Bool) : sumI f (pthE (closedL (bgnL l j back))) = if back then -sumI f (pthE (closedL l)) else sumI f (pthE (closedL l)) := by
  unfold bgnL
  rw [rot_sumI]
  cases back
  · rfl
  · obtain ⟨i, hi⟩ := closed_rev l
    rw [if_pos rfl, if_pos rfl, ← rot_sumI f l.reverse i, hi, pthE_rev, sumI_neg hf]
theorem bgn_any {f : Ed → Bool} (hf : ∀ x y, f (y, x) = f (x, y)) (l : List Pt) (j : Nat) (back : Bool) : (pthE (closedL (bgnL l j back))).any f = (pthE (closedL l)).any f := by
  unfold bgnL
  rw [rot_any]
  cases back
  · rfl
  · obtain ⟨i, hi⟩ := closed_rev l
    rw [if_pos rfl, ← rot_any f l.reverse i, hi, pthE_rev, any_rev hf]
end Go.Proofs.YtfpofmifmapmfaaGreatDoor

namespace Go.Proofs.YtfpofmifmapmfaaGreatDoor
open Go.RowKit Go.Proofs.YtfpofmifmapmfaaGreatDoorW.PrintLast
set_option linter.unusedVariables false
set_option linter.unusedSimpArgs false
def keyP (b : Int) : Int := if 9223372036854775808 ≤ b then 18446744073709551615 - b else b + 9223372036854775808
theorem keyP_inj {a b : Int} (ha : U64 a) (hb : U64 b) (h : keyP a = keyP b) : a = b := by
  unfold keyP at h
  unfold U64 at ha hb
  split at h <;> split at h <;> omega
def cmpPt (a b : Pt) : Int := if keyP a.1 ≠ keyP b.1 then (if keyP a.1 < keyP b.1 then -1 else 1) else if keyP a.2 ≠ keyP b.2 then (if keyP a.2 < keyP b.2 then -1 else 1) else 0
theorem cmpPt_cases (a b : Pt) : cmpPt a b = -1 ∨ cmpPt a b = 0 ∨ cmpPt a b = 1 := by
  unfold cmpPt; repeat' split
  all_goals simp
theorem cmpPt_swap (a b : Pt) : cmpPt a b = -cmpPt b a := by
  unfold cmpPt
  repeat' split
  all_goals omega
theorem cmpPt_eq {a b : Pt} (ha : PtU a) (hb : PtU b) : cmpPt a b = 0 ↔ a = b := by
  constructor
  · intro h
    have h1 : keyP a.1 = keyP b.1 ∧ keyP a.2 = keyP b.2 := by
      unfold cmpPt at h
      repeat' split at h
      all_goals omega
    exact Prod.ext (keyP_inj ha.1 hb.1 h1.1) (keyP_inj ha.2 hb.2 h1.2)
  · rintro rfl
    unfold cmpPt; simp
theorem cmpPt_trans {a b c : Pt} (h : cmpPt a b ≤ 0) (k : cmpPt b c ≤ 0) : cmpPt a c ≤ 0 ∧ (cmpPt a c = 0 → cmpPt a b = 0 ∧ cmpPt b c = 0) := by
  unfold cmpPt at *
  repeat' split at h
  all_goals (repeat' split at k)
  all_goals (repeat' split)
  all_goals (first | omega | (constructor <;> omega))
def cmpL : List Pt → List Pt → Int
  | [], [] => 0
  | [], _ :: _ => -1
  | _ :: _, [] => 1
  | x :: a, y :: b => if cmpPt x y ≠ 0 then cmpPt x y else cmpL a b
theorem cmpL_swap : ∀ a b : List Pt, cmpL a b = -cmpL b a
  | [], [] => rfl
  | [], _ :: _ => rfl
  | _ :: _, [] => rfl
  | x :: a, y :: b => by
    have ih := cmpL_swap a b
    have e := cmpPt_swap x y
    unfold cmpL
    split <;> split <;> omega
theorem cmpL_cases : ∀ a b : List Pt, cmpL a b = -1 ∨ cmpL a b = 0 ∨ cmpL a b = 1
  | [], [] => by simp [cmpL]
  | [], _ :: _ => by simp [cmpL]
  | _ :: _, [] => by simp [cmpL]
  | x :: a, y :: b => by
    unfold cmpL
    split
    · exact cmpPt_cases x y
    · exact cmpL_cases a b
theorem cmpL_eq : ∀ {a b : List Pt}, (∀ q ∈ a, PtU q) → (∀ q ∈ b, PtU q) → (cmpL a b = 0 ↔ a = b)
  | [], [], _, _ => by simp [cmpL]
  | [], _ :: _, _, _ => by simp [cmpL]
  | _ :: _, [], _, _ => by simp [cmpL]
  | x :: a, y :: b, ha, hb => by
    have ih := cmpL_eq (a := a) (b := b) (fun q hq => ha q (List.mem_cons_of_mem _ hq)) (fun q hq => hb q (List.mem_cons_of_mem _ hq))
    have e := cmpPt_eq (ha x List.mem_cons_self) (hb y List.mem_cons_self)
    unfold cmpL
    split
    · rename_i h
      constructor
      · intro h'; exact absurd h' h
      · intro h'; cases h'; exact absurd (e.2 rfl) h
    · rename_i h
      have h' : cmpPt x y = 0 := by omega
      have hx := e.1 h'
      rw [ih, hx]; simp
theorem cmpL_trans : ∀ {a b c : List Pt}, cmpL a b ≤ 0 → cmpL b c ≤ 0 → cmpL a c ≤ 0
  | [], [], c, _, k => k
  | [], _ :: _, [], _, k => by simp [cmpL] at k
  | [], _ :: _, _ :: _, _, _ => by simp [cmpL]
  | _ :: _, [], _, h, _ => by simp [cmpL] at h
  | _ :: _, _ :: _, [], _, k => by simp [cmpL] at k
  | x :: a, y :: b, z :: c, h, k => by
    unfold cmpL at h k ⊢
    have t : cmpPt x y ≤ 0 → cmpPt y z ≤ 0 → cmpPt x z ≤ 0 ∧ (cmpPt x z = 0 → cmpPt x y = 0 ∧ cmpPt y z = 0) := cmpPt_trans
    split at h <;> split at k
    · have := t h k; split <;> omega
    · have := t h (by omega); split <;> omega
    · have := t (by omega) k; split <;> omega
    · have := t (by omega) (by omega)
      split
      · exact this.1
      · exact cmpL_trans h k
theorem cmpL_self (a : List Pt) : cmpL a a = 0 := by
  have := cmpL_swap a a; omega
def lessL (b : Option (List Pt)) (m : List Pt) : Option (List Pt) := match b with | none => some m | some x => if cmpL m x < 0 then some m else some x
def leastK (l : List Pt) (b : Option (List Pt)) (k : Nat) : Option (List Pt) := (List.range k).foldl (fun b i => lessL b (rotL l i)) b
theorem leastK_succ (l : List Pt) (b : Option (List Pt)) (k : Nat) : leastK l b (k + 1) = lessL (leastK l b k) (rotL l k) := by
  unfold leastK; rw [List.range_succ, List.foldl_append]; rfl
def LeastOf (S : List Pt → Prop) (m : List Pt) : Prop := S m ∧ ∀ x, S x → cmpL m x ≤ 0
theorem LeastOf.unique {S : List Pt → Prop} {m m' : List Pt} (h : LeastOf S m) (h' : LeastOf S m') (hu : ∀ x, S x → ∀ q ∈ x, PtU q) : m = m' := by
  have a := h.2 _ h'.1
  have b := h'.2 _ h.1
  have c := cmpL_swap m m'
  exact (cmpL_eq (hu _ h.1) (hu _ h'.1)).1 (by omega)
theorem LeastOf.congr {S T : List Pt → Prop} {m : List Pt} (h : LeastOf S m) (e : ∀ x, S x ↔ T x) : LeastOf T m := ⟨(e _).1 h.1, fun x hx => h.2 x ((e x).2 hx)⟩
theorem lessL_least {S : List Pt → Prop} {b : List Pt} (h : LeastOf S b) (m : List Pt) : ∃ x, lessL (some b) m = some x ∧ LeastOf (fun y => S y ∨ y = m) x := by
  unfold lessL
  dsimp only
  split
  · rename_i hl
    refine ⟨m, rfl, Or.inr rfl, fun x hx => ?_⟩
    rcases hx with hx | rfl
    · exact cmpL_trans (Int.le_of_lt hl) (h.2 x hx)
    · rw [cmpL_self]; decide
  · rename_i hl
    refine ⟨b, rfl, Or.inl h.1, fun x hx => ?_⟩
    rcases hx with hx | rfl
    · exact h.2 x hx
    · have := cmpL_swap b x; omega
theorem leastK_none (l : List Pt) (k : Nat) (hk : 0 < k) : ∃ m, leastK l none k = some m ∧ LeastOf (fun y => ∃ i, i < k ∧ y = rotL l i) m := by
  induction k with
  | zero => omega
  | succ k ih =>
    rcases Nat.eq_zero_or_pos k with rfl | h
    · refine ⟨rotL l 0, rfl, ⟨0, by omega, rfl⟩, fun x hx => ?_⟩
      obtain ⟨i, hi, rfl⟩ := hx
      obtain rfl : i = 0 := by omega
      rw [cmpL_self]; decide
    · obtain ⟨m, e, hm⟩ := ih h
      obtain ⟨x, e', hx⟩ := lessL_least hm (rotL l k)
      refine ⟨x, by rw [leastK_succ, e, e'], hx.congr fun y => ?_⟩
      constructor
      · rintro (⟨i, hi, rfl⟩ | rfl)
        · exact ⟨i, by omega, rfl⟩
        · exact ⟨k, by omega, rfl⟩
      · rintro ⟨i, hi, rfl⟩
        rcases Nat.lt_or_ge i k with g | g
        · exact Or.inl ⟨i, g, rfl⟩
        · obtain rfl : i = k := by omega
          exact Or.inr rfl
theorem leastK_some {S : List Pt → Prop} (l : List Pt) {b : List Pt} (hb : LeastOf S b) (k : Nat) : ∃ m, leastK l (some b) k = some m ∧ LeastOf (fun y => S y ∨ ∃ i, i < k ∧ y = rotL l i) m := by
  induction k with
  | zero => exact ⟨b, rfl, hb.congr fun y => ⟨Or.inl, fun h => by rcases h with h | ⟨i, hi, _⟩; exact h; omega⟩⟩
  | succ k ih =>
    obtain ⟨m, e, hm⟩ := ih
    obtain ⟨x, e', hx⟩ := lessL_least hm (rotL l k)
    refine ⟨x, by rw [leastK_succ, e, e'], hx.congr fun y => ?_⟩
    constructor
    · rintro ((h | ⟨i, hi, rfl⟩) | rfl)
      · exact Or.inl h
      · exact Or.inr ⟨i, by omega, rfl⟩
      · exact Or.inr ⟨k, by omega, rfl⟩
    · rintro (h | ⟨i, hi, rfl⟩)
      · exact Or.inl (Or.inl h)
      rcases Nat.lt_or_ge i k with g | g
      · exact Or.inl (Or.inr ⟨i, g, rfl⟩)
      · obtain rfl : i = k := by omega
        exact Or.inr rfl
def Ways (l : List Pt) (y : List Pt) : Prop := ∃ i, i < l.length ∧ y = rotL l i
theorem rot_len (l : List Pt) (i : Nat) : (rotL l i).length = l.length := by unfold rotL; rw [List.length_append, List.length_drop, List.length_take]; omega
theorem rot_mem {l : List Pt} {i : Nat} {q : Pt} : q ∈ rotL l i ↔ q ∈ l := by
  unfold rotL
  rw [List.mem_append]
  constructor
  · rintro (h | h)
    · exact List.mem_of_mem_drop h
    · exact List.mem_of_mem_take h
  · intro h
    rw [← List.take_append_drop i l, List.mem_append] at h
    exact h.symm
theorem rot_at (l : List Pt) {i : Nat} (hi : i ≤ l.length) {t : Nat} (ht : t < l.length) : (rotL l i)[t]? = l[if i + t < l.length then i + t else i + t - l.length]? := by
  unfold rotL
  by_cases h : i + t < l.length
  · rw [if_pos h, List.getElem?_append_left (by rw [List.length_drop]; omega), List.getElem?_drop]
  · rw [if_neg h, List.getElem?_append_right (by rw [List.length_drop]; omega), List.length_drop, List.getElem?_take_of_lt (by omega)]
    congr 1; omega
theorem rot_rot (l : List Pt) {i j : Nat} (hi : i ≤ l.length) (hj : j ≤ l.length) : rotL (rotL l i) j = rotL l (if i + j ≤ l.length then i + j else i + j - l.length) := by
  apply List.ext_getElem?
  intro t
  rcases Nat.lt_or_ge t l.length with ht | ht
  · rw [rot_at (rotL l i) (by rw [rot_len]; exact hj) (by rw [rot_len]; exact ht), rot_len, rot_at l hi (by split <;> omega), rot_at l (by split <;> omega) ht]
    congr 1
    repeat' split
    all_goals omega
  · rw [List.getElem?_eq_none (by rw [rot_len, rot_len]; exact ht), List.getElem?_eq_none (by rw [rot_len]; exact ht)]
theorem rot_zero (l : List Pt) : rotL l 0 = l := by simp [rotL]
theorem rot_all (l : List Pt) : rotL l l.length = l := by simp [rotL]
theorem ways_rot {l : List Pt} {j : Nat} (hj : j ≤ l.length) (y : List Pt) : Ways (rotL l j) y ↔ Ways l y := by
  unfold Ways
  rw [rot_len]
  constructor
  · rintro ⟨i, hi, rfl⟩
    rw [rot_rot l hj (Nat.le_of_lt hi)]
    split
    · rename_i h
      rcases Nat.lt_or_ge (j + i) l.length with g | g
      · exact ⟨j + i, g, rfl⟩
      · rw [show j + i = l.length by omega, rot_all]; exact ⟨0, by omega, (rot_zero l).symm⟩
    · exact ⟨j + i - l.length, by omega, rfl⟩
  · rintro ⟨i, hi, rfl⟩
    rcases Nat.lt_or_ge i j with g | g
    · refine ⟨i + l.length - j, by omega, ?_⟩
      rw [rot_rot l hj (by omega)]
      split
      · rw [show j + (i + l.length - j) = i + l.length by omega] at *
        rename_i h
        obtain rfl : i = 0 := by omega
        rw [Nat.zero_add, rot_all, rot_zero]
      · congr 1; omega
    · refine ⟨i - j, by omega, ?_⟩
      rw [rot_rot l hj (by omega), if_pos (by omega)]
      congr 1; omega
theorem rot_reverse (l : List Pt) {j : Nat} (hj : j ≤ l.length) : (rotL l j).reverse = rotL l.reverse (l.length - j) := by
  unfold rotL
  rw [List.reverse_append, List.drop_reverse, List.take_reverse]
  rw [show l.length - (l.length - j) = j by omega]
theorem ways_reverse_rot {l : List Pt} {j : Nat} (hj : j ≤ l.length) (y : List Pt) : Ways (rotL l j).reverse y ↔ Ways l.reverse y := by
  rw [rot_reverse l hj]
  exact ways_rot (by rw [List.length_reverse]; omega) y
end Go.Proofs.YtfpofmifmapmfaaGreatDoor

namespace Go.Proofs.YtfpofmifmapmfaaGreatDoor
open Go.RowKit Go.Proofs.YtfpofmifmapmfaaGreatDoorW.PrintLast
set_option linter.unusedVariables false
set_option linter.unusedSimpArgs false
def turnP (l : List Pt) : Int := qsgn (sumE crs (pthE (closedL l)))
theorem turn_cases (l : List Pt) : turnP l = -1 ∨ turnP l = 0 ∨ turnP l = 1 := qsgn_cases _
theorem turn_bgn (l : List Pt) (j : Nat) (back : Bool) : turnP (bgnL l j back) = if back then -turnP l else turnP l := by
  unfold turnP
  rw [bgn_sumE crs_rev]
  cases back
  · rfl
  · rw [if_pos rfl, if_pos rfl, qsgn_turn]
theorem turn_rot (l : List Pt) (j : Nat) : turnP (rotL l j) = turnP l := turn_bgn l j false
theorem turn_rev (l : List Pt) (j : Nat) : turnP (rotL l.reverse j) = -turnP l := turn_bgn l j true
def StartOf (l : List Pt) (left : Bool) (t : Int) (y : List Pt) : Prop :=
  if t = 0 then Ways l y ∨ Ways l.reverse y else if decide (0 < t) = left then Ways l y else Ways l.reverse y
def bestL (l : List Pt) (left : Bool) (t : Int) : Option (List Pt) :=
  if t = 0 then leastK l.reverse (leastK l none l.length) l.reverse.length else if decide (0 < t) = left then leastK l none l.length else leastK l.reverse none l.reverse.length
theorem bestL_least {l : List Pt} (h : 0 < l.length) (left : Bool) (t : Int) : ∃ m, bestL l left t = some m ∧ LeastOf (StartOf l left t) m := by
  unfold bestL StartOf
  split
  · obtain ⟨m, e, hm⟩ := leastK_none l l.length h
    obtain ⟨x, e', hx⟩ := leastK_some l.reverse hm l.reverse.length
    exact ⟨x, by rw [e, e'], hx⟩
  · split
    · exact leastK_none l l.length h
    · exact leastK_none l.reverse l.reverse.length (by rw [List.length_reverse]; exact h)
theorem ways_len {l y : List Pt} (h : Ways l y) : y.length = l.length := by
  obtain ⟨i, _, rfl⟩ := h; exact rot_len l i
theorem start_in {l y : List Pt} {left : Bool} {t : Int} (h : StartOf l left t y) : Ways l y ∨ Ways l.reverse y := by
  unfold StartOf at h
  split at h
  · exact h
  · split at h
    · exact Or.inl h
    · exact Or.inr h
theorem start_len {l y : List Pt} {left : Bool} {t : Int} (h : StartOf l left t y) : y.length = l.length := by
  rcases start_in h with h | h
  · exact ways_len h
  · rw [ways_len h, List.length_reverse]
theorem start_mem {l y : List Pt} {left : Bool} {t : Int} (h : StartOf l left t y) (q : Pt) : q ∈ y ↔ q ∈ l := by
  rcases start_in h with ⟨i, _, rfl⟩ | ⟨i, _, rfl⟩
  · exact rot_mem
  · rw [rot_mem, List.mem_reverse]
theorem start_turn {l y : List Pt} {left : Bool} (h : StartOf l left (turnP l) y) : turnP y = if turnP l = 0 then 0 else if left then 1 else -1 := by
  have c := turn_cases l
  unfold StartOf at h
  split at h
  · rename_i h0
    rw [if_pos h0]
    rcases h with ⟨i, _, rfl⟩ | ⟨i, _, rfl⟩
    · rw [turn_rot]; exact h0
    · rw [turn_rev]; omega
  · rename_i h0
    rw [if_neg h0]
    split at h
    · rename_i hl
      obtain ⟨i, _, rfl⟩ := h
      rw [turn_rot, ← hl]
      by_cases g : 0 < turnP l
      · rw [decide_eq_true g, if_pos rfl]; omega
      · rw [decide_eq_false g]; simp only [Bool.false_eq_true, if_false]; omega
    · rename_i hl
      obtain ⟨i, _, rfl⟩ := h
      rw [turn_rev]
      by_cases g : 0 < turnP l
      · rw [decide_eq_true g] at hl
        have : left = false := by cases left; rfl; exact absurd rfl hl
        rw [this]; simp only [Bool.false_eq_true, if_false]; omega
      · rw [decide_eq_false g] at hl
        have : left = true := by cases left; exact absurd rfl hl; rfl
        rw [this, if_pos rfl]; omega
theorem start_head {l m : List Pt} {left : Bool} {t : Int} (h0 : 0 < l.length) (h : LeastOf (StartOf l left t) m) : ∀ q ∈ l, 0 ≤ cmpPt q (m.getD 0 (0, 0)) := by
  intro q hq
  have key : ∃ y, StartOf l left t y ∧ y.getD 0 (0, 0) = q ∧ 0 < y.length := by
    have way : ∀ r : List Pt, q ∈ r → ∃ y, Ways r y ∧ y.getD 0 (0, 0) = q ∧ 0 < y.length := by
      intro r hr
      obtain ⟨i, hi, e⟩ := List.getElem_of_mem hr
      refine ⟨rotL r i, ⟨i, hi, rfl⟩, ?_, by rw [rot_len]; omega⟩
      rw [List.getD_eq_getElem?_getD, rot_at r (Nat.le_of_lt hi) (by omega), if_pos (by omega), Nat.add_zero, List.getElem?_eq_getElem hi, e]; rfl
    unfold StartOf
    split
    · obtain ⟨y, a, b⟩ := way l hq; exact ⟨y, Or.inl a, b⟩
    · split
      · exact way l hq
      · exact way l.reverse (List.mem_reverse.2 hq)
  obtain ⟨y, hy, e, hl⟩ := key
  have hc := h.2 y hy
  have hm : m.length = l.length := start_len h.1
  have sw := cmpPt_swap q (m.getD 0 (0, 0))
  rcases m with _ | ⟨x, m⟩
  · simp at hm; omega
  rcases y with _ | ⟨z, y⟩
  · simp at hl
  have e' : z = q := e
  subst e'
  have sw' : cmpPt z x = -cmpPt x z := cmpPt_swap z x
  show 0 ≤ cmpPt z x
  unfold cmpL at hc
  split at hc <;> omega
theorem start_same {l : List Pt} {j : Nat} {back left : Bool} (hj : j ≤ l.length) (y : List Pt) : StartOf (bgnL l j back) left (turnP (bgnL l j back)) y ↔ StartOf l left (turnP l) y := by
  have c := turn_cases l
  rw [turn_bgn]
  cases back
  · have e : bgnL l j false = rotL l j := rfl
    rw [e]
    unfold StartOf
    simp only [Bool.false_eq_true, if_false]
    rw [ways_rot hj, ways_reverse_rot hj]
  · have e : bgnL l j true = rotL l.reverse j := rfl
    have hj' : j ≤ l.reverse.length := by rw [List.length_reverse]; exact hj
    rw [e]
    unfold StartOf
    simp only [if_true]
    rw [ways_rot hj', ways_reverse_rot hj', List.reverse_reverse]
    by_cases h0 : turnP l = 0
    · rw [if_pos h0, if_pos (by omega)]
      exact Or.comm
    · rw [if_neg h0, if_neg (by omega)]
      rcases c with c | c | c
      · rw [c, decide_eq_true (show (0 : Int) < - -1 by decide), decide_eq_false (show ¬ (0 : Int) < -1 by decide)]
        cases left <;> simp
      · exact absurd c h0
      · rw [c, decide_eq_false (show ¬ (0 : Int) < -1 by decide), decide_eq_true (show (0 : Int) < 1 by decide)]
        cases left <;> simp
theorem start_again {l m : List Pt} {left : Bool} (h : StartOf l left (turnP l) m) (y : List Pt) : StartOf m left (turnP m) y ↔ StartOf l left (turnP l) y := by
  have t := start_turn h
  unfold StartOf at h
  split at h
  · rename_i h0
    rw [if_pos h0] at t
    rw [t, h0]
    unfold StartOf
    rw [if_pos rfl, if_pos rfl]
    rcases h with ⟨i, hi, rfl⟩ | ⟨i, hi, rfl⟩
    · rw [ways_rot (Nat.le_of_lt hi), ways_reverse_rot (Nat.le_of_lt hi)]
    · rw [ways_rot (Nat.le_of_lt hi), ways_reverse_rot (Nat.le_of_lt hi), List.reverse_reverse]
      exact Or.comm
  · rename_i h0
    rw [if_neg h0] at t
    have t2 : turnP m ≠ 0 := by rw [t]; split <;> decide
    have t3 : decide (0 < turnP m) = left := by rw [t]; cases left <;> rfl
    unfold StartOf
    rw [if_neg t2, if_neg h0, if_pos t3]
    split at h
    · rename_i hl
      rw [if_pos hl]
      obtain ⟨i, hi, rfl⟩ := h
      exact ways_rot (Nat.le_of_lt hi) y
    · rename_i hl
      rw [if_neg hl]
      obtain ⟨i, hi, rfl⟩ := h
      exact ways_rot (Nat.le_of_lt hi) y
end Go.Proofs.YtfpofmifmapmfaaGreatDoor

namespace Go.Proofs.YtfpofmifmapmfaaGreatDoor
open Go.RowKit Go.Proofs.YtfpofmifmapmfaaGreatDoorW.PrintLast
set_option linter.unusedVariables false
set_option linter.unusedSimpArgs false
set_option maxRecDepth 100000 in
theorem lFarther (a b s : Int) (w : World) (ha : Fin64 a) (hb : Fin64 b) : Calls Tryz.prog 86 #[.int .u64 a, .int .u64 b, .int .i64 s] w fun e w' => e = .returned (.int .u64 (farB s a b)) ∧ Below w.heap.size w w' := by
  have HC := Lib.hid (fun wz => fCmp b a wz hb ha)
  have HF : Hid (farB s a b = if qcmp (fval b) (fval a) = s then b else a) := Lib.hid rfl
  clear ha hb
  generalize qcmp (fval b) (fval a) = c at *
  generalize farB s a b = r at *
  by_cases h : c = s
  · rw [if_pos h] at HF
    go_enter Tryz.func86, Tryz.ntmps86
    ((try dsimp only); repeat (first | go_values | go_skip | go_guarded | go_step | go_upon))
    refine (HC.out _).mono ?_
    rintro e w1 ⟨rfl, rfl⟩
    ((try dsimp only); repeat (first | go_values | go_skip | go_guarded | go_step | go_upon))
    go_ret
    exact ⟨by rw [HF.out]; rfl, Below.refl _ _⟩
  · rw [if_neg h] at HF
    go_enter Tryz.func86, Tryz.ntmps86
    ((try dsimp only); repeat (first | go_values | go_skip | go_guarded | go_step | go_upon))
    refine (HC.out _).mono ?_
    rintro e w1 ⟨rfl, rfl⟩
    ((try dsimp only); repeat (first | go_values | go_skip | go_guarded | go_step | go_upon))
    go_ret
    exact ⟨by rw [HF.out]; rfl, Below.refl _ _⟩
set_option maxRecDepth 100000 in
theorem lCmp24 (a b : Int) (w : World) (ha : Fin64 a) (hb : Fin64 b) : Calls Tryz.prog 34 #[.int .u64 a, .int .u64 b] w fun e w' => e = .returned (.int .i64 (qcmp (fval a) (fval b))) ∧ w = w' := by
  have HC := Lib.hid (fun wz => fCmp a b wz ha hb)
  clear ha hb
  generalize qcmp (fval a) (fval b) = c at *
  go_enter Tryz.func34, Tryz.ntmps34
  ((try dsimp only); repeat (first | go_values | go_skip | go_guarded | go_step | go_upon))
  refine (HC.out _).mono ?_
  rintro e w1 ⟨rfl, rfl⟩
  ((try dsimp only); repeat (first | go_values | go_skip | go_guarded | go_step | go_upon))
  go_ret
  exact ⟨rfl, rfl⟩
theorem corn_fin {s : Int} {l : List Pt} {k : Nat} (h : ∀ p ∈ l, FinP p) (h0 : 0 < l.length) (hk : k ≤ l.length) : Fin64 (cornK s fX l k) ∧ Fin64 (cornK s fY l k) := by
  obtain ⟨i, hi, e⟩ := cornK_is s fX l k hk h0
  obtain ⟨j, hj, e'⟩ := cornK_is s fY l k hk h0
  rw [e, e']
  exact ⟨(h _ (getD_mem hi)).1, (h _ (getD_mem hj)).2⟩
set_option maxRecDepth 100000 in
set_option maxHeartbeats 6400000 in
theorem gBox (A : Option Addr) (c : Nat) (ps : List Pt) (w : World) (hp : PtsIn w A ps) (hl : ps.length ≤ 1000000) (hu : ∀ q ∈ ps, PtU q) :
    Calls Tryz.prog 29 #[.slice A ps.length c] w fun e w' => e = .returned (.tuple #[.agg #[.int .u64 (lowP ps).1, .int .u64 (lowP ps).2], .agg #[.int .u64 (highP ps).1, .int .u64 (highP ps).2], .int .i64 (boxE ps)]) ∧ Below w.heap.size w w' := by
  by_cases h0 : ps.length = 0
  · have e0 : boxE ps = 240 := by unfold boxE; rw [if_pos h0]
    have e1 : lowP ps = (0, 0) := by unfold lowP; rw [e0]; rfl
    have e2 : highP ps = (0, 0) := by unfold highP; rw [e0]; rfl
    rw [e0, e1, e2]
    have l0 : ((ps.length : Int) == 0) = true := by rw [h0]; rfl
    clear hp hu e0 e1 e2
    have hmm : Bx w.heap.size w ((w.alloc (.cells #[.int .u64 0, .int .u64 0] 38)).alloc (.cells #[.int .u64 0, .int .u64 0] 38)) _ _ := ((Bx.start w).alloc (.cells #[.int .u64 0, .int .u64 0] 38 (0, 0))).alloc (.cells #[.int .u64 0, .int .u64 0] 38 (0, 0))
    go_enter Tryz.func29, Tryz.ntmps29
    go_upto_region 1 with (fail)
    generalize (World.alloc (World.alloc w _) _) = v at *
    (try simp only [List.nil_append, List.cons_append, World.size_alloc, List.set_cons_zero, List.set_cons_succ, putsC, pB, pC, pD] at hmm)
    have HM := Lib.hid hmm
    clear hmm
    obtain ⟨c0_0, c0_1, c0_2, c0_3⟩ := rw2 (HM.out.at 0 rfl)
    obtain ⟨c1_0, c1_1, c1_2, c1_3⟩ := rw2 (HM.out.at 1 rfl)
    ((try dsimp only); repeat (first | go_values | go_skip | go_guarded | go_step | go_upon))
    refine bodyPost_ret (results_rows2 rfl _ _ (w.heap.size) (w.heap.size + 1) _ _ _ _ _ _ _ _ rfl rfl (((HM.out.puts 0 rfl (by decide) [(0, .int .u64 0), (1, .int .u64 0)]).puts 1 rfl (by decide) [(0, .int .u64 0), (1, .int .u64 0)]).at 0 rfl) (((HM.out.puts 0 rfl (by decide) [(0, .int .u64 0), (1, .int .u64 0)]).puts 1 rfl (by decide) [(0, .int .u64 0), (1, .int .u64 0)]).at 1 rfl) rfl rfl rfl rfl rfl rfl) rfl ?_
    exact ⟨rfl, ((HM.out.puts 0 rfl (by decide) [(0, .int .u64 0), (1, .int .u64 0)]).puts 1 rfl (by decide) [(0, .int .u64 0), (1, .int .u64 0)]).m.b⟩
  have l0 : ((ps.length : Int) == 0) = false := beq_eq_false_iff_ne.2 (by omega)
  have HFi := Lib.hid (fun wz h => gFinite A c ps wz (hp.keep h) hl hu)
  by_cases hf : finB ps = true
  · have e0 : boxE ps = 0 := by unfold boxE; rw [if_neg h0, if_pos hf]
    have e1 : lowP ps = (cornK (-1) fX ps ps.length, cornK (-1) fY ps ps.length) := by unfold lowP; rw [if_pos e0]
    have e2 : highP ps = (cornK 1 fX ps ps.length, cornK 1 fY ps ps.length) := by unfold highP; rw [if_pos e0]
    rw [e0, e1, e2]
    rw [hf] at HFi
    rw [finB_iff hu] at hf
    have hlen : 0 < ps.length := by omega
    have HFP := Lib.hid (And.intro hf (And.intro hlen hl))
    obtain ⟨ba, oa, rfl, hba, hpa⟩ := hp.open hlen
    have HR : Hid (∀ k, k < ps.length → ∀ wz, Below w.heap.size w wz → wz.cell? ⟨ba, oa + k * 2, none⟩ = some (.int .u64 (ps.getD k (0, 0)).1) ∧ wz.cell? ⟨ba, oa + k * 2 + 1, none⟩ = some (.int .u64 (ps.getD k (0, 0)).2)) :=
      Lib.hid (fun k hk wz h => ⟨(h.cell (p := ⟨ba, oa + k * 2, none⟩) hba).trans (hpa k hk).1, (h.cell (p := ⟨ba, oa + k * 2 + 1, none⟩) hba).trans (hpa k hk).2⟩)
    have HR0 : Hid (∀ wz, Below w.heap.size w wz → wz.cell? ⟨ba, oa, none⟩ = some (.int .u64 (cornK (-1) fX ps 0)) ∧ wz.cell? ⟨ba, oa + 1, none⟩ = some (.int .u64 (cornK (-1) fY ps 0))) :=
      Lib.hid (fun wz h => by have := HR.out 0 hlen wz h; rwa [Nat.zero_mul, Nat.add_zero] at this)
    have HC0 : Hid (cornK 1 fX ps 0 = cornK (-1) fX ps 0 ∧ cornK 1 fY ps 0 = cornK (-1) fY ps 0) := Lib.hid ⟨rfl, rfl⟩
    clear hp hu e0 e1 e2 hpa hf h0 hl
    have hmm : Bx w.heap.size w ((w.alloc (.cells #[.int .u64 0, .int .u64 0] 38)).alloc (.cells #[.int .u64 0, .int .u64 0] 38)) _ _ := ((Bx.start w).alloc (.cells #[.int .u64 0, .int .u64 0] 38 (0, 0))).alloc (.cells #[.int .u64 0, .int .u64 0] 38 (0, 0))
    go_enter Tryz.func29, Tryz.ntmps29
    go_upto_region 1 with (fail)
    generalize (World.alloc (World.alloc w _) _) = v at *
    (try simp only [List.nil_append, List.cons_append, World.size_alloc, List.set_cons_zero, List.set_cons_succ, putsC, pB, pC, pD] at hmm)
    have HM := Lib.hid hmm
    clear hmm
    ((try dsimp only); repeat (first | go_values | go_skip | go_guarded | go_step | go_upon))
    refine (HFi.out _ HM.out.m.b).mono ?_
    rintro e w1 ⟨rfl, hb⟩
    have hm := HM.out.keep hb
    clear HM hb HFi
    have HM := Lib.hid hm
    clear hm
    go_upto_region 5 with (fail)
    generalize hx0 : cornK (-1) fX ps 0 = zx at *
    generalize hy0 : cornK (-1) fY ps 0 = zy at *
    have HXY := Lib.hid (And.intro hx0 hy0)
    clear hx0 hy0
    refine start_ (n := 10) (S := fun w' => Below w1.heap.size w1 w') (ds := [9]) (bt 10 0) (by kernel_rfl) rfl rfl ((Below.refl _ _).drew) (fun hHeld => ?_)
    refine pv_ 0 21 ?_
    refine pv_ 1 22 ?_
    refine ld_ 2 23 ?_ hHeld ?_ ?_; rotate_left
    · rintro w' hs
      obtain ⟨c0, c1⟩ := HR0.out _ (HM.out.m.b.trans (hs.mono HM.out.m.b.size))
      clear hs
      go_simp; with_reducible rfl
    refine pv_ 3 24 ?_
    refine pv_ 4 25 ?_
    refine ld_ 5 26 ?_ hHeld ?_ ?_; rotate_left
    · rintro w' hs
      obtain ⟨c0, c1⟩ := HR0.out _ (HM.out.m.b.trans (hs.mono HM.out.m.b.size))
      clear hs
      go_simp; with_reducible rfl
    refine join_ (σ := Nat × Nat) 2 (bt 10 255) (fun s => [(5, .pointer (some ⟨(s.1), 0, none⟩)), (6, .pointer (some ⟨(s.2), 0, none⟩))]) (fun s w' => Bx w1.heap.size w1 w' [((s.1), .cells #[.int .u64 0, .int .u64 0] 38 (0, 0)), ((s.2), .cells #[.int .u64 0, .int .u64 0] 38 (0, 0))] []) ?_ ?_
    rotate_left
    · intro J0
      refine join_ (σ := Nat × Nat) 3 (bt 10 127) (fun s => [(5, .pointer (some ⟨(s.1), 0, none⟩))]) (fun s w' => Bx w1.heap.size w1 w' [((s.1), .cells #[.int .u64 0, .int .u64 0] 38 (0, 0))] []) ?_ ?_
      · rintro ⟨g1_6, g1_7⟩ wj hF
        try dsimp only at hF ⊢
        refine nx ?_
        refine o1 7 6 (bt 10 255) ?_
        · intro K hK
          refine al_ (.cells #[.int .u64 0, .int .u64 0] 38) ?_
          have hN := hF.alloc (.cells #[.int .u64 0, .int .u64 0] 38 (0, 0))
          refine hK.out _ _ (by exact hN.m.b) (fun hHeld => ?_)
          exact nj (J0 (g1_6, wj.heap.size) _ hN)
      intro J1
      refine join_ (σ := Nat × Nat) 3 (bt 10 191) (fun s => [(6, .pointer (some ⟨(s.2), 0, none⟩))]) (fun s w' => Bx w1.heap.size w1 w' [((s.2), .cells #[.int .u64 0, .int .u64 0] 38 (0, 0))] []) ?_ ?_
      · rintro ⟨g1_6, g1_7⟩ wj hF
        try dsimp only at hF ⊢
        refine nx ?_
        refine o1 6 5 (bt 10 255) ?_
        · intro K hK
          refine al_ (.cells #[.int .u64 0, .int .u64 0] 38) ?_
          have hN := hF.alloc (.cells #[.int .u64 0, .int .u64 0] 38 (0, 0))
          have hN := hN.sel (L' := [(wj.heap.size, .cells #[.int .u64 0, .int .u64 0] 38 (0, 0)), (g1_7, .cells #[.int .u64 0, .int .u64 0] 38 (0, 0))]) (R' := []) (fun i => [1, 0].getD i i) (fun i x e => match i, e with | 0, e => e | 1, e => e) (fun i j hi hj => (show ∀ i, i < 2 → ∀ j, j < 2 → [1, 0].getD i i = [1, 0].getD j j → i = j by decide) i hi j hj) (by first | exact fun x h => h | (simp only [List.nil_append, List.cons_append, List.mem_cons]; grind))
          refine hK.out _ _ (by exact hN.m.b) (fun hHeld => ?_)
          exact nj (J0 (wj.heap.size, g1_7) _ hN)
      intro J2
      refine join_ (σ := Nat × Nat) 4 (bt 10 63) (fun s => []) (fun s w' => Bx w1.heap.size w1 w' [] []) ?_ ?_
      · rintro ⟨g1_6, g1_7⟩ wj hF
        try dsimp only at hF ⊢
        refine nx ?_
        refine o2 6 5 7 6 (bt 10 127) (bt 10 191) ?_ ?_
        · intro K hK
          refine al_ (.cells #[.int .u64 0, .int .u64 0] 38) ?_
          have hN := hF.alloc (.cells #[.int .u64 0, .int .u64 0] 38 (0, 0))
          refine hK.out _ _ (by exact hN.m.b) (fun hHeld => ?_)
          exact nj (J1 (wj.heap.size, g1_7) _ hN)
        · intro K hK
          refine al_ (.cells #[.int .u64 0, .int .u64 0] 38) ?_
          have hN := hF.alloc (.cells #[.int .u64 0, .int .u64 0] 38 (0, 0))
          refine hK.out _ _ (by exact hN.m.b) (fun hHeld => ?_)
          exact nj (J2 (g1_6, wj.heap.size) _ hN)
      intro J3
      exact nj (J3 (0, 0) _ ((Bx.start _).drew))
    rintro ⟨g1_6, g1_7⟩ wj hF
    try dsimp only at hF ⊢
    refine nx ?_
    have hge2 := hF.g 0 _ _ rfl
    have hge3 := hF.g 1 _ _ rfl
    have hG := HM.out.join hF
    (try simp only [List.nil_append, List.cons_append, World.size_alloc, List.set_cons_zero, List.set_cons_succ, putsC, pB, pC, pD] at hG)
    have hHeld := And.intro True.intro hF.m.b
    clear HM hF
    refine one_ (i := 8) (N := none) (bt 10 511) rfl rfl (by kernel_rfl) (by decide) (fun K hK => ?_)
    obtain ⟨y0, y1, y2, y3⟩ := rw2 (hG.at 2 rfl)
    refine skip_ (w1 := puts (g1_6) [(0, .int .u64 zx), (1, .int .u64 zy)] wj) (by rfl) rfl ?_ ?_
    · go_simp
      rfl
    replace hHeld := And.intro True.intro (puts_below hge2 [(0, .int .u64 zx), (1, .int .u64 zy)] _ hHeld.2)
    refine hK.out _ _ (by exact hHeld.2) (fun _ => ?_)
    clear hK K y0 y1 y2 y3
    replace hG := hG.puts 2 rfl (by decide) [(0, .int .u64 zx), (1, .int .u64 zy)]
    (try simp only [List.nil_append, List.cons_append, World.size_alloc, List.set_cons_zero, List.set_cons_succ, putsC, pB, pC, pD] at hG)
    generalize puts (g1_6) _ wj = wk2 at *
    refine last_ (i := 9) (N := none) (bt 10 1023) rfl rfl (by kernel_rfl) (by decide) (fun K hK => ?_)
    obtain ⟨y0, y1, y2, y3⟩ := rw2 (hG.at 3 rfl)
    refine skip_ (w1 := puts (g1_7) [(0, .int .u64 zx), (1, .int .u64 zy)] wk2) (by rfl) rfl ?_ ?_
    · go_simp
      rfl
    refine hK.out _ _ ?_
    clear hK K y0 y1 y2 y3
    replace hG := hG.puts 3 rfl (by decide) [(0, .int .u64 zx), (1, .int .u64 zy)]
    (try simp only [List.nil_append, List.cons_append, World.size_alloc, List.set_cons_zero, List.set_cons_succ, putsC, pB, pC, pD] at hG)
    generalize puts (g1_7) _ wk2 = wk3 at *
    refine done_ (by kernel_rfl) ?_
    (try simp only [List.nil_append, List.cons_append, World.size_alloc, List.set_cons_zero, List.set_cons_succ, putsC, pB, pC, pD] at hG)
    have HM := Lib.hid hG
    clear hG hHeld
    ((try dsimp only); repeat (first | go_values | go_skip | go_guarded | go_step | go_upon))
    go_loopw [29] (fun i wr => ∃ k : Nat, i = .int .i64 k ∧ k ≤ ps.length ∧ Bx w.heap.size w wr [(w.heap.size, .cells #[.int .u64 0, .int .u64 0] 38 (0, 0)), (w.heap.size + 1, .cells #[.int .u64 0, .int .u64 0] 38 (0, 0)), (g1_6, .cells #[.int .u64 (cornK (-1) fX ps k), .int .u64 (cornK (-1) fY ps k)] 38 (0, 0)), (g1_7, .cells #[.int .u64 (cornK 1 fX ps k), .int .u64 (cornK 1 fY ps k)] 38 (0, 0))] []) (fun i _ => ps.length - (intOf i).toNat)
    case atStart =>
      refine ⟨0, rfl, Nat.zero_le _, ?_⟩
      rw [HC0.out.1, HC0.out.2, HXY.out.1, HXY.out.2]
      exact HM.out
    case round =>
      obtain ⟨k, rfl, hk, hB⟩ := hrel
      clear HM HXY HC0 HR0
      have HM := Lib.hid hB
      clear hB
      by_cases h0 : k < ps.length
      · obtain ⟨x1, x2⟩ := corn_fin (s := -1) HFP.out.1 HFP.out.2.1 hk
        obtain ⟨x3, x4⟩ := corn_fin (s := 1) HFP.out.1 HFP.out.2.1 hk
        have pk := HFP.out.1 _ (getD_mem h0)
        have q0 := HR.out k h0 wr HM.out.m.b
        have HS : Hid (cornK (-1) fX ps (k + 1) = farB (-1) (cornK (-1) fX ps k) (ps.getD k (0, 0)).1 ∧ cornK (-1) fY ps (k + 1) = farB (-1) (cornK (-1) fY ps k) (ps.getD k (0, 0)).2 ∧ cornK 1 fX ps (k + 1) = farB 1 (cornK 1 fX ps k) (ps.getD k (0, 0)).1 ∧ cornK 1 fY ps (k + 1) = farB 1 (cornK 1 fY ps k) (ps.getD k (0, 0)).2) := Lib.hid ⟨cornK_succ _ _ _ _, cornK_succ _ _ _ _, cornK_succ _ _ _ _, cornK_succ _ _ _ _⟩
        generalize cornK (-1) fX ps k = l1 at *
        generalize cornK (-1) fY ps k = l2 at *
        generalize cornK 1 fX ps k = h1 at *
        generalize cornK 1 fY ps k = h2 at *
        generalize ps.getD k (0, 0) = q at *
        have H1 := Lib.hid (fun wz => lFarther l1 q.1 (-1) wz x1 pk.1)
        have H2 := Lib.hid (fun wz => lFarther l2 q.2 (-1) wz x2 pk.2)
        have H3 := Lib.hid (fun wz => lFarther h1 q.1 1 wz x3 pk.1)
        have H4 := Lib.hid (fun wz => lFarther h2 q.2 1 wz x4 pk.2)
        generalize farB (-1) l1 q.1 = m1 at *
        generalize farB (-1) l2 q.2 = m2 at *
        generalize farB 1 h1 q.1 = m3 at *
        generalize farB 1 h2 q.2 = m4 at *
        obtain ⟨q1, q2⟩ := q0
        have hi : (k : Int) < (ps.length : Int) := by omega
        have hw1 : wrap64 ((k : Int) + 1) = ((k + 1 : Nat) : Int) := by have := HFP.out.2.2; clear HM HS H1 H2 H3 H4 HR HFP; unfold wrap64; omega
        have W1 := Lib.hid hw1
        have HK0 := Lib.hid h0
        clear hw1 x1 x2 x3 x4 pk
        go_upto_region 8 with (fail)
        have hm : Bx w.heap.size w (World.alloc wr (.cells #[.int .u64 q.1, .int .u64 q.2] 38)) _ _ := (HM.out.alloc (.cells #[.int .u64 q.1, .int .u64 q.2] 38 (0, 0)))
        go_upto_region 9 with (fail)
        generalize (World.alloc wr _) = v4 at *
        clear HM 
        (try simp only [List.nil_append, List.cons_append, World.size_alloc, List.set_cons_zero, List.set_cons_succ, putsC, pB, pC, pD] at hm)
        have HM := Lib.hid hm
        clear hm
        clear q1 q2
        refine start_ (n := 14) (S := fun w' => w'.heap[g1_6]? = v4.heap[g1_6]? ∧ w'.heap[wr.heap.size]? = v4.heap[wr.heap.size]?) (ds := [11, 13]) (bt 14 0) (by kernel_rfl) rfl rfl ((And.intro rfl rfl)) (fun hHeld => ?_)
        refine pv_ 0 33 ?_
        refine ld_ 1 34 ?_ hHeld ?_ ?_; rotate_left
        · rintro w' hs
          obtain ⟨q0, q1, q2, q3⟩ := rw2 ((hs.1).trans (HM.out.at 2 rfl))
          clear hs
          go_simp; with_reducible rfl
        refine pv_ 2 35 ?_
        refine ld_ 3 36 ?_ hHeld ?_ ?_; rotate_left
        · rintro w' hs
          obtain ⟨q0, q1, q2, q3⟩ := rw2 ((hs.2).trans (HM.out.at 4 rfl))
          clear hs
          go_simp; with_reducible rfl
        refine pv_ 5 38 ?_
        refine ld_ 6 39 ?_ hHeld ?_ ?_; rotate_left
        · rintro w' hs
          obtain ⟨q0, q1, q2, q3⟩ := rw2 ((hs.1).trans (HM.out.at 2 rfl))
          clear hs
          go_simp; with_reducible rfl
        refine pv_ 7 40 ?_
        refine ld_ 8 41 ?_ hHeld ?_ ?_; rotate_left
        · rintro w' hs
          obtain ⟨q0, q1, q2, q3⟩ := rw2 ((hs.2).trans (HM.out.at 4 rfl))
          clear hs
          go_simp; with_reducible rfl
        refine join_ (σ := Unit) 3 (bt 14 2047) (fun s => [(37, .int .u64 m1), (42, .int .u64 m2), (43, .pointer (some ⟨g1_6, 0, none⟩))]) (fun s w' => Bx v4.heap.size v4 w' [] []) ?_ ?_
        rotate_left
        · intro J0
          refine join_ (σ := Unit) 4 (bt 14 1535) (fun s => [(37, .int .u64 m1), (43, .pointer (some ⟨g1_6, 0, none⟩))]) (fun s w' => Bx v4.heap.size v4 w' [] []) ?_ ?_
          · rintro _ wj hF
            try dsimp only at hF ⊢
            refine nx ?_
            refine o1 9 42 (bt 14 2047) ?_
            · intro K hK
              refine go_ Tryz.func86 #[.int .u64 l2, .int .u64 q.2, .int .i64 (-1)] ?_
              with_reducible refine (H2.out wj).mono ?_
              rintro e w' ⟨rfl, hb⟩
              refine ⟨_, rfl, ?_⟩
              have hN := hF.keep hb
              refine hK.out _ _ (by exact (And.intro (hN.m.b.block _ (HM.out.lt 2 rfl)) (hN.m.b.block _ (HM.out.lt 4 rfl)))) (fun hHeld => ?_)
              exact nj (J0 () _ hN)
          intro J1
          refine join_ (σ := Unit) 5 (bt 14 511) (fun s => [(37, .int .u64 m1)]) (fun s w' => Bx v4.heap.size v4 w' [] []) ?_ ?_
          · rintro _ wj hF
            try dsimp only at hF ⊢
            refine nx ?_
            refine pv_ 10 43 ?_
            exact nj (J1 () _ hF)
          intro J2
          refine join_ (σ := Unit) 6 (bt 14 495) (fun s => []) (fun s w' => Bx v4.heap.size v4 w' [] []) ?_ ?_
          · rintro _ wj hF
            try dsimp only at hF ⊢
            refine nx ?_
            refine o1 4 37 (bt 14 511) ?_
            · intro K hK
              refine go_ Tryz.func86 #[.int .u64 l1, .int .u64 q.1, .int .i64 (-1)] ?_
              with_reducible refine (H1.out wj).mono ?_
              rintro e w' ⟨rfl, hb⟩
              refine ⟨_, rfl, ?_⟩
              have hN := hF.keep hb
              refine hK.out _ _ (by exact (And.intro (hN.m.b.block _ (HM.out.lt 2 rfl)) (hN.m.b.block _ (HM.out.lt 4 rfl)))) (fun hHeld => ?_)
              exact nj (J2 () _ hN)
          intro J3
          exact nj (J3 () _ ((Bx.start _).drew))
        rintro _ wj hF
        try dsimp only at hF ⊢
        refine nx ?_
        have hG := HM.out.join hF
        (try simp only [List.nil_append, List.cons_append, World.size_alloc, List.set_cons_zero, List.set_cons_succ, putsC, pB, pC, pD] at hG)
        have hHeld := And.intro True.intro (And.intro (hF.m.b.block _ (HM.out.lt 2 rfl)) (hF.m.b.block _ (HM.out.lt 4 rfl)))
        clear HM hF
        refine last_ (i := 11) (N := none) (bt 14 4095) rfl rfl (by kernel_rfl) (by decide) (fun K hK => ?_)
        obtain ⟨y0, y1, y2, y3⟩ := rw2 (hG.at 2 rfl)
        refine skip_ (w1 := puts (g1_6) [(0, .int .u64 m1)] wj) (by rfl) rfl ?_ ?_
        · go_simp
          rfl
        refine hK.out _ _ ?_
        clear hK K y0 y1 y2 y3
        replace hG := hG.puts 2 rfl (by decide) [(0, .int .u64 m1)]
        (try simp only [List.nil_append, List.cons_append, World.size_alloc, List.set_cons_zero, List.set_cons_succ, putsC, pB, pC, pD] at hG)
        generalize puts (g1_6) _ wj = wk6 at *
        refine pv_ 12 44 ?_
        refine last_ (i := 13) (N := none) (bt 14 16383) rfl rfl (by kernel_rfl) (by decide) (fun K hK => ?_)
        obtain ⟨y0, y1, y2, y3⟩ := rw2 (hG.at 2 rfl)
        refine skip_ (w1 := puts (g1_6) [(1, .int .u64 m2)] wk6) (by rfl) rfl ?_ ?_
        · go_simp
          rfl
        refine hK.out _ _ ?_
        clear hK K y0 y1 y2 y3
        replace hG := hG.puts 2 rfl (by decide) [(1, .int .u64 m2)]
        (try simp only [List.nil_append, List.cons_append, World.size_alloc, List.set_cons_zero, List.set_cons_succ, putsC, pB, pC, pD] at hG)
        generalize puts (g1_6) _ wk6 = wk7 at *
        refine done_ (by kernel_rfl) ?_
        (try simp only [List.nil_append, List.cons_append, World.size_alloc, List.set_cons_zero, List.set_cons_succ, putsC, pB, pC, pD] at hG)
        have HM := Lib.hid hG
        clear hG hHeld
        go_upto_region 10 with (fail)
        refine start_ (n := 14) (S := fun w' => w'.heap[g1_7]? = wk7.heap[g1_7]? ∧ w'.heap[wr.heap.size]? = wk7.heap[wr.heap.size]?) (ds := [11, 13]) (bt 14 0) (by kernel_rfl) rfl rfl ((And.intro rfl rfl)) (fun hHeld => ?_)
        refine pv_ 0 45 ?_
        refine ld_ 1 46 ?_ hHeld ?_ ?_; rotate_left
        · rintro w' hs
          obtain ⟨q0, q1, q2, q3⟩ := rw2 ((hs.1).trans (HM.out.at 3 rfl))
          clear hs
          go_simp; with_reducible rfl
        refine pv_ 2 47 ?_
        refine ld_ 3 48 ?_ hHeld ?_ ?_; rotate_left
        · rintro w' hs
          obtain ⟨q0, q1, q2, q3⟩ := rw2 ((hs.2).trans (HM.out.at 4 rfl))
          clear hs
          go_simp; with_reducible rfl
        refine pv_ 5 50 ?_
        refine ld_ 6 51 ?_ hHeld ?_ ?_; rotate_left
        · rintro w' hs
          obtain ⟨q0, q1, q2, q3⟩ := rw2 ((hs.1).trans (HM.out.at 3 rfl))
          clear hs
          go_simp; with_reducible rfl
        refine pv_ 7 52 ?_
        refine ld_ 8 53 ?_ hHeld ?_ ?_; rotate_left
        · rintro w' hs
          obtain ⟨q0, q1, q2, q3⟩ := rw2 ((hs.2).trans (HM.out.at 4 rfl))
          clear hs
          go_simp; with_reducible rfl
        refine join_ (σ := Unit) 3 (bt 14 2047) (fun s => [(49, .int .u64 m3), (54, .int .u64 m4), (55, .pointer (some ⟨g1_7, 0, none⟩))]) (fun s w' => Bx wk7.heap.size wk7 w' [] []) ?_ ?_
        rotate_left
        · intro J0
          refine join_ (σ := Unit) 4 (bt 14 1535) (fun s => [(49, .int .u64 m3), (55, .pointer (some ⟨g1_7, 0, none⟩))]) (fun s w' => Bx wk7.heap.size wk7 w' [] []) ?_ ?_
          · rintro _ wj hF
            try dsimp only at hF ⊢
            refine nx ?_
            refine o1 9 54 (bt 14 2047) ?_
            · intro K hK
              refine go_ Tryz.func86 #[.int .u64 h2, .int .u64 q.2, .int .i64 1] ?_
              with_reducible refine (H4.out wj).mono ?_
              rintro e w' ⟨rfl, hb⟩
              refine ⟨_, rfl, ?_⟩
              have hN := hF.keep hb
              refine hK.out _ _ (by exact (And.intro (hN.m.b.block _ (HM.out.lt 3 rfl)) (hN.m.b.block _ (HM.out.lt 4 rfl)))) (fun hHeld => ?_)
              exact nj (J0 () _ hN)
          intro J1
          refine join_ (σ := Unit) 5 (bt 14 511) (fun s => [(49, .int .u64 m3)]) (fun s w' => Bx wk7.heap.size wk7 w' [] []) ?_ ?_
          · rintro _ wj hF
            try dsimp only at hF ⊢
            refine nx ?_
            refine pv_ 10 55 ?_
            exact nj (J1 () _ hF)
          intro J2
          refine join_ (σ := Unit) 6 (bt 14 495) (fun s => []) (fun s w' => Bx wk7.heap.size wk7 w' [] []) ?_ ?_
          · rintro _ wj hF
            try dsimp only at hF ⊢
            refine nx ?_
            refine o1 4 49 (bt 14 511) ?_
            · intro K hK
              refine go_ Tryz.func86 #[.int .u64 h1, .int .u64 q.1, .int .i64 1] ?_
              with_reducible refine (H3.out wj).mono ?_
              rintro e w' ⟨rfl, hb⟩
              refine ⟨_, rfl, ?_⟩
              have hN := hF.keep hb
              refine hK.out _ _ (by exact (And.intro (hN.m.b.block _ (HM.out.lt 3 rfl)) (hN.m.b.block _ (HM.out.lt 4 rfl)))) (fun hHeld => ?_)
              exact nj (J2 () _ hN)
          intro J3
          exact nj (J3 () _ ((Bx.start _).drew))
        rintro _ wj hF
        try dsimp only at hF ⊢
        refine nx ?_
        have hG := HM.out.join hF
        (try simp only [List.nil_append, List.cons_append, World.size_alloc, List.set_cons_zero, List.set_cons_succ, putsC, pB, pC, pD] at hG)
        have hHeld := And.intro True.intro (And.intro (hF.m.b.block _ (HM.out.lt 3 rfl)) (hF.m.b.block _ (HM.out.lt 4 rfl)))
        clear HM hF
        refine last_ (i := 11) (N := none) (bt 14 4095) rfl rfl (by kernel_rfl) (by decide) (fun K hK => ?_)
        obtain ⟨y0, y1, y2, y3⟩ := rw2 (hG.at 3 rfl)
        refine skip_ (w1 := puts (g1_7) [(0, .int .u64 m3)] wj) (by rfl) rfl ?_ ?_
        · go_simp
          rfl
        refine hK.out _ _ ?_
        clear hK K y0 y1 y2 y3
        replace hG := hG.puts 3 rfl (by decide) [(0, .int .u64 m3)]
        (try simp only [List.nil_append, List.cons_append, World.size_alloc, List.set_cons_zero, List.set_cons_succ, putsC, pB, pC, pD] at hG)
        generalize puts (g1_7) _ wj = wk9 at *
        refine pv_ 12 56 ?_
        refine last_ (i := 13) (N := none) (bt 14 16383) rfl rfl (by kernel_rfl) (by decide) (fun K hK => ?_)
        obtain ⟨y0, y1, y2, y3⟩ := rw2 (hG.at 3 rfl)
        refine skip_ (w1 := puts (g1_7) [(1, .int .u64 m4)] wk9) (by rfl) rfl ?_ ?_
        · go_simp
          rfl
        refine hK.out _ _ ?_
        clear hK K y0 y1 y2 y3
        replace hG := hG.puts 3 rfl (by decide) [(1, .int .u64 m4)]
        (try simp only [List.nil_append, List.cons_append, World.size_alloc, List.set_cons_zero, List.set_cons_succ, putsC, pB, pC, pD] at hG)
        generalize puts (g1_7) _ wk9 = wk10 at *
        refine done_ (by kernel_rfl) ?_
        (try simp only [List.nil_append, List.cons_append, World.size_alloc, List.set_cons_zero, List.set_cons_succ, putsC, pB, pC, pD] at hG)
        have HM := Lib.hid hG
        clear hG hHeld
        ((try dsimp only); repeat (first | go_values | go_skip | go_guarded | go_step | go_upon))
        refine ⟨⟨k + 1, vint W1.out, HK0.out, ?_⟩, ?_⟩
        · rw [HS.out.1, HS.out.2.1, HS.out.2.2.1, HS.out.2.2.2]; exact HM.out.pre ⟨_, rfl⟩ ⟨_, rfl⟩
        · show ps.length - (intOf (.int .i64 (wrap64 ((k : Int) + 1)))).toNat < ps.length - (intOf (.int .i64 (k : Int))).toNat
          rw [W1.out]
          have hk0 := HK0.out
          clear HM HS H1 H2 H3 H4 HR HFP W1 HK0
          show ps.length - (((k + 1 : Nat) : Int)).toNat < ps.length - ((k : Int)).toNat
          omega
      · obtain rfl : k = ps.length := by omega
        obtain ⟨l1, el1⟩ : ∃ x, cornK (-1) fX ps ps.length = x := ⟨_, rfl⟩
        obtain ⟨l2, el2⟩ : ∃ x, cornK (-1) fY ps ps.length = x := ⟨_, rfl⟩
        obtain ⟨h1, eh1⟩ : ∃ x, cornK 1 fX ps ps.length = x := ⟨_, rfl⟩
        obtain ⟨h2, eh2⟩ : ∃ x, cornK 1 fY ps ps.length = x := ⟨_, rfl⟩
        rw [el1, el2, eh1, eh2] at HM
        have HE := Lib.hid (And.intro el1 (And.intro el2 (And.intro eh1 eh2)))
        clear el1 el2 eh1 eh2
        go_upto_region 12 with (fail)
        refine start_ (n := 5) (S := fun w' => w'.heap[g1_6]? = wr.heap[g1_6]? ∧ w'.heap[g1_7]? = wr.heap[g1_7]?) (ds := [3]) (bt 5 0) (by kernel_rfl) rfl rfl ((And.intro rfl rfl)) (fun hHeld => ?_)
        refine ld_ 0 58 ?_ hHeld ?_ ?_; rotate_left
        · rintro w' hs
          obtain ⟨q0, q1, q2, q3⟩ := rw2 ((hs.1).trans (HM.out.at 2 rfl))
          clear hs
          go_simp; with_reducible rfl
        refine ld_ 1 59 ?_ hHeld ?_ ?_; rotate_left
        · rintro w' hs
          obtain ⟨q0, q1, q2, q3⟩ := rw2 ((hs.2).trans (HM.out.at 3 rfl))
          clear hs
          go_simp; with_reducible rfl
        have hG := HM.out.drew
        replace hHeld := And.intro True.intro hHeld
        clear HM
        generalize hwg : wr.drew = wj at *
        clear hwg
        refine one_ (i := 2) (N := none) (bt 5 7) rfl rfl (by kernel_rfl) (by decide) (fun K hK => ?_)
        obtain ⟨y0, y1, y2, y3⟩ := rw2 (hG.at 0 rfl)
        refine skip_ (w1 := puts (w.heap.size) [(0, .int .u64 l1), (1, .int .u64 l2)] wj) (by rfl) rfl ?_ ?_
        · go_simp
          rfl
        replace hHeld := And.intro True.intro (And.intro ((puts_other (hG.ne 2 0 rfl rfl (by decide)) [(0, .int .u64 l1), (1, .int .u64 l2)] wj).trans hHeld.2.1) ((puts_other (hG.ne 3 0 rfl rfl (by decide)) [(0, .int .u64 l1), (1, .int .u64 l2)] wj).trans hHeld.2.2))
        refine hK.out _ _ (by exact hHeld.2) (fun _ => ?_)
        clear hK K y0 y1 y2 y3
        replace hG := hG.puts 0 rfl (by decide) [(0, .int .u64 l1), (1, .int .u64 l2)]
        (try simp only [List.nil_append, List.cons_append, World.size_alloc, List.set_cons_zero, List.set_cons_succ, putsC, pB, pC, pD] at hG)
        generalize puts (w.heap.size) _ wj = wk4 at *
        refine last_ (i := 3) (N := none) (bt 5 15) rfl rfl (by kernel_rfl) (by decide) (fun K hK => ?_)
        obtain ⟨y0, y1, y2, y3⟩ := rw2 (hG.at 1 rfl)
        refine skip_ (w1 := puts (w.heap.size + 1) [(0, .int .u64 h1), (1, .int .u64 h2)] wk4) (by rfl) rfl ?_ ?_
        · go_simp
          rfl
        refine hK.out _ _ ?_
        clear hK K y0 y1 y2 y3
        replace hG := hG.puts 1 rfl (by decide) [(0, .int .u64 h1), (1, .int .u64 h2)]
        (try simp only [List.nil_append, List.cons_append, World.size_alloc, List.set_cons_zero, List.set_cons_succ, putsC, pB, pC, pD] at hG)
        generalize puts (w.heap.size + 1) _ wk4 = wk5 at *
        refine pv_ 4 4 ?_
        refine done_ (by kernel_rfl) ?_
        (try simp only [List.nil_append, List.cons_append, World.size_alloc, List.set_cons_zero, List.set_cons_succ, putsC, pB, pC, pD] at hG)
        have HM := Lib.hid hG
        clear hG hHeld
        ((try dsimp only); repeat (first | go_values | go_skip | go_guarded | go_step | go_upon))
        refine bodyPost_ret (results_rows2 rfl _ _ (w.heap.size) (w.heap.size + 1) _ _ _ _ _ _ _ _ rfl rfl (HM.out.at 0 rfl) (HM.out.at 1 rfl) rfl rfl rfl rfl rfl rfl) rfl ?_
        exact ⟨by rw [HE.out.1, HE.out.2.1, HE.out.2.2.1, HE.out.2.2.2]; rfl, HM.out.m.b⟩
  · have hf2 : finB ps = false := by rwa [Bool.not_eq_true] at hf
    have e0 : boxE ps = 220 := by unfold boxE; rw [if_neg h0, if_neg hf]
    have e1 : lowP ps = (0, 0) := by unfold lowP; rw [e0]; rfl
    have e2 : highP ps = (0, 0) := by unfold highP; rw [e0]; rfl
    rw [e0, e1, e2]
    rw [hf2] at HFi
    clear hp hu e0 e1 e2 hf hf2
    have hmm : Bx w.heap.size w ((w.alloc (.cells #[.int .u64 0, .int .u64 0] 38)).alloc (.cells #[.int .u64 0, .int .u64 0] 38)) _ _ := ((Bx.start w).alloc (.cells #[.int .u64 0, .int .u64 0] 38 (0, 0))).alloc (.cells #[.int .u64 0, .int .u64 0] 38 (0, 0))
    go_enter Tryz.func29, Tryz.ntmps29
    go_upto_region 1 with (fail)
    generalize (World.alloc (World.alloc w _) _) = v at *
    (try simp only [List.nil_append, List.cons_append, World.size_alloc, List.set_cons_zero, List.set_cons_succ, putsC, pB, pC, pD] at hmm)
    have HM := Lib.hid hmm
    clear hmm
    ((try dsimp only); repeat (first | go_values | go_skip | go_guarded | go_step | go_upon))
    refine (HFi.out _ HM.out.m.b).mono ?_
    rintro e w1 ⟨rfl, hb⟩
    have hm := HM.out.keep hb
    clear HM hb HFi
    have HM := Lib.hid hm
    clear hm
    obtain ⟨c0_0, c0_1, c0_2, c0_3⟩ := rw2 (HM.out.at 0 rfl)
    obtain ⟨c1_0, c1_1, c1_2, c1_3⟩ := rw2 (HM.out.at 1 rfl)
    ((try dsimp only); repeat (first | go_values | go_skip | go_guarded | go_step | go_upon))
    refine bodyPost_ret (results_rows2 rfl _ _ (w.heap.size) (w.heap.size + 1) _ _ _ _ _ _ _ _ rfl rfl (((HM.out.puts 0 rfl (by decide) [(0, .int .u64 0), (1, .int .u64 0)]).puts 1 rfl (by decide) [(0, .int .u64 0), (1, .int .u64 0)]).at 0 rfl) (((HM.out.puts 0 rfl (by decide) [(0, .int .u64 0), (1, .int .u64 0)]).puts 1 rfl (by decide) [(0, .int .u64 0), (1, .int .u64 0)]).at 1 rfl) rfl rfl rfl rfl rfl rfl) rfl ?_
    exact ⟨rfl, ((HM.out.puts 0 rfl (by decide) [(0, .int .u64 0), (1, .int .u64 0)]).puts 1 rfl (by decide) [(0, .int .u64 0), (1, .int .u64 0)]).m.b⟩
end Go.Proofs.YtfpofmifmapmfaaGreatDoor

namespace Go.Proofs.YtfpofmifmapmfaaGreatDoor
open Go.RowKit Go.Proofs.YtfpofmifmapmfaaGreatDoorW.PrintLast
set_option linter.unusedVariables false
set_option linter.unusedSimpArgs false
theorem nat_or_top (n : Nat) (h : n < 9223372036854775808) : n ||| 9223372036854775808 = n + 9223372036854775808 := by
  have := Nat.two_pow_add_eq_or_of_lt (i := 63) (b := n) (by simpa using h) 1
  rw [Nat.or_comm, Nat.add_comm]
  simpa using this.symm
theorem nat_xor_max (n : Nat) (h : n < 18446744073709551616) : 18446744073709551615 ^^^ n = 18446744073709551615 - n := by
  have e : (18446744073709551615 : Nat) = 2 ^ 64 - 1 := by decide
  apply Nat.eq_of_testBit_eq
  intro i
  rw [e, Nat.testBit_xor, Nat.testBit_two_pow_sub_one]
  have := Nat.testBit_two_pow_sub_succ (n := 64) (x := n) (by simpa using h) i
  rw [show 2 ^ 64 - 1 - n = 2 ^ 64 - (n + 1) by omega, this]
  by_cases hi : i < 64 <;> simp [hi]
  exact Nat.testBit_lt_two_pow (Nat.lt_of_lt_of_le (by simpa using h) (Nat.pow_le_pow_right (by decide) (by omega : 64 ≤ i)))
theorem xor_max {x : Int} (h0 : 0 ≤ x) (h1 : x ≤ 18446744073709551615) : bits .xor .u64 18446744073709551615 x = 18446744073709551615 - x := by
  obtain ⟨n, rfl⟩ := Int.eq_ofNat_of_zero_le h0
  rw [show (18446744073709551615 : Int) = ((18446744073709551615 : Nat) : Int) from rfl, bits_xor_u64_nat 18446744073709551615 n (by decide) (by omega), nat_xor_max n (by omega)]
  omega
theorem or_top {x : Int} (h0 : 0 ≤ x) (h1 : x < 9223372036854775808) : bits .or .u64 x 9223372036854775808 = x + 9223372036854775808 := by
  obtain ⟨n, rfl⟩ := Int.eq_ofNat_of_zero_le h0
  rw [show (9223372036854775808 : Int) = ((9223372036854775808 : Nat) : Int) from rfl, bits_or_u64_nat n 9223372036854775808 (by omega) (by decide), nat_or_top n (by omega)]
  rfl
set_option maxRecDepth 100000 in
theorem lKey24 (b : Int) (w : World) (h : U64 b) : Calls Tryz.prog 106 #[.int .u64 b] w fun e w' => e = .returned (.int .u64 (keyP b)) ∧ Below w.heap.size w w' := by
  obtain ⟨h0, h1⟩ := h
  have HK : Hid (keyP b = if 9223372036854775808 ≤ b then 18446744073709551615 - b else b + 9223372036854775808) := Lib.hid rfl
  generalize keyP b = r at *
  by_cases hb : 9223372036854775808 ≤ b
  · rw [if_pos hb] at HK
    have e : IntKind.u64.wrap (18446744073709551615 - b) = 18446744073709551615 - b := wrap_u64_in (by omega) (by omega)
    go_enter Tryz.func106, Tryz.ntmps106
    ((try dsimp only); repeat (first | go_values | go_skip | go_guarded | go_step | go_upon))
    go_ret
    refine ⟨?_, Below.refl _ _⟩
    rw [HK.out]
    first | rfl | (show Ending.returned (.int .u64 (IntKind.u64.wrap (18446744073709551615 - b))) = _; rw [e])
  · rw [if_neg hb] at HK
    have e : IntKind.u64.wrap (b + 9223372036854775808) = b + 9223372036854775808 := wrap_u64_in (by omega) (by omega)
    go_enter Tryz.func106, Tryz.ntmps106
    ((try dsimp only); repeat (first | go_values | go_skip | go_guarded | go_step | go_upon))
    go_ret
    refine ⟨?_, Below.refl _ _⟩
    rw [HK.out]
    first | rfl | (show Ending.returned (.int .u64 (IntKind.u64.wrap (b + 9223372036854775808))) = _; rw [e])
set_option maxRecDepth 100000 in
theorem lKey (b : Int) (w : World) (h : U64 b) : Calls Tryz.prog 214 #[.int .u64 b] w fun e w' => e = .returned (.int .u64 (keyP b)) ∧ Below w.heap.size w w' := by
  obtain ⟨h0, h1⟩ := h
  have HK : Hid (keyP b = if 9223372036854775808 ≤ b then 18446744073709551615 - b else b + 9223372036854775808) := Lib.hid rfl
  have ht := top_neg h0 h1
  generalize keyP b = r at *
  by_cases hb : 9223372036854775808 ≤ b
  · rw [if_pos hb] at HK
    unfold fneg at ht
    rw [decide_eq_true hb] at ht
    go_enter Tryz.func214, Tryz.ntmps214
    ((try dsimp only); repeat (first | go_values | go_skip | go_guarded | go_step | go_upon))
    go_ret
    refine ⟨?_, Below.refl _ _⟩
    rw [HK.out]
    show Ending.returned (.int .u64 (bits .xor .u64 18446744073709551615 b)) = _
    rw [xor_max h0 h1]
  · rw [if_neg hb] at HK
    unfold fneg at ht
    rw [decide_eq_false hb] at ht
    have e := or_top h0 (by omega)
    go_enter Tryz.func214, Tryz.ntmps214
    ((try dsimp only); repeat (first | go_values | go_skip | go_guarded | go_step | go_upon))
    go_ret
    refine ⟨?_, Below.refl _ _⟩
    rw [HK.out]
    first | rfl | (show Ending.returned (.int .u64 (bits .or .u64 b 9223372036854775808)) = _; rw [e])
end Go.Proofs.YtfpofmifmapmfaaGreatDoor

namespace Go.Proofs.YtfpofmifmapmfaaGreatDoor
open Go.RowKit Go.Proofs.YtfpofmifmapmfaaGreatDoorW.PrintLast
set_option linter.unusedVariables false
set_option linter.unusedSimpArgs false
set_option maxRecDepth 100000 in
set_option maxHeartbeats 3200000 in
theorem lCompare24 (a b : Pt) (w : World) (ua : PtU a) (ub : PtU b) : Calls Tryz.prog 46 #[.agg #[.int .u64 a.1, .int .u64 a.2], .agg #[.int .u64 b.1, .int .u64 b.2]] w fun e w' => e = .returned (.int .i64 (cmpPt a b)) ∧ Below w.heap.size w w' := by
  have HR : Hid (cmpPt a b = if keyP a.1 ≠ keyP b.1 then (if keyP a.1 < keyP b.1 then -1 else 1) else if keyP a.2 ≠ keyP b.2 then (if keyP a.2 < keyP b.2 then -1 else 1) else 0) := Lib.hid rfl
  have H1 := Lib.hid (fun wz => lKey24 a.1 wz ua.1)
  have H2 := Lib.hid (fun wz => lKey24 b.1 wz ub.1)
  have H3 := Lib.hid (fun wz => lKey24 a.2 wz ua.2)
  have H4 := Lib.hid (fun wz => lKey24 b.2 wz ub.2)
  have i1 : keyP a.1 = keyP b.1 ↔ a.1 = b.1 := ⟨keyP_inj ua.1 ub.1, fun h => by rw [h]⟩
  have i2 : keyP a.2 = keyP b.2 ↔ a.2 = b.2 := ⟨keyP_inj ua.2 ub.2, fun h => by rw [h]⟩
  generalize keyP a.1 = ka at *
  generalize keyP b.1 = kb at *
  generalize keyP a.2 = kc at *
  generalize keyP b.2 = kd at *
  generalize cmpPt a b = r at *
  clear ua ub
  have hmm : Bx w.heap.size w ((w.alloc (.cells #[.int .u64 a.1, .int .u64 a.2] 38)).alloc (.cells #[.int .u64 b.1, .int .u64 b.2] 38)) _ _ := ((Bx.start w).alloc (.cells #[.int .u64 a.1, .int .u64 a.2] 38 (0, 0))).alloc (.cells #[.int .u64 b.1, .int .u64 b.2] 38 (0, 0))
  by_cases hx : a.1 = b.1
  · have hxk := i1.2 hx
    have hxb : (a.1 == b.1) = true := beq_iff_eq.2 hx
    have hxn : (a.1 != b.1) = false := by rw [bne, hxb]; rfl
    clear hx
    by_cases hy : a.2 = b.2
    · have hyk := i2.2 hy
      have hyb : (a.2 == b.2) = true := beq_iff_eq.2 hy
      have hyn : (a.2 != b.2) = false := by rw [bne, hyb]; rfl
      rw [if_neg (by simp [hxk]), if_neg (by simp [hyk])] at HR
      clear hy hyk hxk i1 i2
      go_enter Tryz.func46, Tryz.ntmps46
      go_upto_region 1 with (fail)
      generalize (World.alloc (World.alloc w _) _) = v at *
      (try simp only [List.nil_append, List.cons_append, World.size_alloc, List.set_cons_zero, List.set_cons_succ, putsC, pB, pC, pD] at hmm)
      have HM := Lib.hid hmm
      clear hmm
      obtain ⟨c0_0, c0_1, c0_2, c0_3⟩ := rw2 (HM.out.at 0 rfl)
      obtain ⟨c1_0, c1_1, c1_2, c1_3⟩ := rw2 (HM.out.at 1 rfl)
      ((try dsimp only); repeat (first | go_values | go_skip | go_guarded | go_step | go_upon))
      go_ret
      exact ⟨by rw [HR.out]; first | rfl | (rfl; rfl), HM.out.m.b⟩
    · have hyk : kc ≠ kd := fun h => hy (i2.1 h)
      have hyb : (a.2 == b.2) = false := beq_eq_false_iff_ne.2 hy
      have hyn : (a.2 != b.2) = true := by rw [bne, hyb]; rfl
      rw [if_neg (by simp [hxk]), if_pos hyk] at HR
      clear hy hyk hxk i1 i2
      go_enter Tryz.func46, Tryz.ntmps46
      go_upto_region 1 with (fail)
      generalize (World.alloc (World.alloc w _) _) = v at *
      (try simp only [List.nil_append, List.cons_append, World.size_alloc, List.set_cons_zero, List.set_cons_succ, putsC, pB, pC, pD] at hmm)
      have HM := Lib.hid hmm
      clear hmm
      obtain ⟨c0_0, c0_1, c0_2, c0_3⟩ := rw2 (HM.out.at 0 rfl)
      obtain ⟨c1_0, c1_1, c1_2, c1_3⟩ := rw2 (HM.out.at 1 rfl)
      go_upto_region 6 with (fail)
      clear c0_0 c0_1 c0_2 c0_3 c1_0 c1_1 c1_2 c1_3
      refine start_ (n := 7) (S := fun w' => w'.heap[w.heap.size]? = v.heap[w.heap.size]? ∧ w'.heap[w.heap.size + 1]? = v.heap[w.heap.size + 1]?) (ds := []) (bt 7 0) (by kernel_rfl) rfl rfl ((And.intro rfl rfl)) (fun hHeld => ?_)
      refine pv_ 0 22 ?_
      refine ld_ 1 23 ?_ hHeld ?_ ?_; rotate_left
      · rintro w' hs
        obtain ⟨q0, q1, q2, q3⟩ := rw2 ((hs.1).trans (HM.out.at 0 rfl))
        clear hs
        go_simp; with_reducible rfl
      refine pv_ 3 25 ?_
      refine ld_ 4 26 ?_ hHeld ?_ ?_; rotate_left
      · rintro w' hs
        obtain ⟨q0, q1, q2, q3⟩ := rw2 ((hs.2).trans (HM.out.at 1 rfl))
        clear hs
        go_simp; with_reducible rfl
      refine join_ (σ := Unit) 0 (bt 7 127) (fun s => [(24, .int .u64 kc), (27, .int .u64 kd), (28, .bool (decide (kc < kd)))]) (fun s w' => Bx v.heap.size v w' [] []) ?_ ?_
      rotate_left
      · intro J0
        refine join_ (σ := Unit) 1 (bt 7 63) (fun s => [(24, .int .u64 kc), (27, .int .u64 kd)]) (fun s w' => Bx v.heap.size v w' [] []) ?_ ?_
        · rintro _ wj hF
          try dsimp only at hF ⊢
          refine nx ?_
          refine pv_ 6 28 ?_
          exact nj (J0 () _ hF)
        intro J1
        refine join_ (σ := Unit) 2 (bt 7 31) (fun s => [(24, .int .u64 kc)]) (fun s w' => Bx v.heap.size v w' [] []) ?_ ?_
        · rintro _ wj hF
          try dsimp only at hF ⊢
          refine nx ?_
          refine o1 5 27 (bt 7 63) ?_
          · intro K hK
            refine go_ Tryz.func106 #[.int .u64 b.2] ?_
            with_reducible refine (H4.out wj).mono ?_
            rintro e w' ⟨rfl, hb⟩
            refine ⟨_, rfl, ?_⟩
            have hN := hF.keep hb
            refine hK.out _ _ (by exact (And.intro (hN.m.b.block _ (HM.out.lt 0 rfl)) (hN.m.b.block _ (HM.out.lt 1 rfl)))) (fun hHeld => ?_)
            exact nj (J1 () _ hN)
        intro J2
        refine join_ (σ := Unit) 3 (bt 7 27) (fun s => []) (fun s w' => Bx v.heap.size v w' [] []) ?_ ?_
        · rintro _ wj hF
          try dsimp only at hF ⊢
          refine nx ?_
          refine o1 2 24 (bt 7 31) ?_
          · intro K hK
            refine go_ Tryz.func106 #[.int .u64 a.2] ?_
            with_reducible refine (H3.out wj).mono ?_
            rintro e w' ⟨rfl, hb⟩
            refine ⟨_, rfl, ?_⟩
            have hN := hF.keep hb
            refine hK.out _ _ (by exact (And.intro (hN.m.b.block _ (HM.out.lt 0 rfl)) (hN.m.b.block _ (HM.out.lt 1 rfl)))) (fun hHeld => ?_)
            exact nj (J2 () _ hN)
        intro J3
        exact nj (J3 () _ ((Bx.start _).drew))
      rintro _ wj hF
      try dsimp only at hF ⊢
      refine nx ?_
      have hG := HM.out.join hF
      (try simp only [List.nil_append, List.cons_append, World.size_alloc, List.set_cons_zero, List.set_cons_succ, putsC, pB, pC, pD] at hG)
      have hHeld := And.intro True.intro (And.intro (hF.m.b.block _ (HM.out.lt 0 rfl)) (hF.m.b.block _ (HM.out.lt 1 rfl)))
      clear HM hF
      refine done_ (by kernel_rfl) ?_
      (try simp only [List.nil_append, List.cons_append, World.size_alloc, List.set_cons_zero, List.set_cons_succ, putsC, pB, pC, pD] at hG)
      have HM := Lib.hid hG
      clear hG hHeld
      by_cases hlt : kc < kd
      · ((try dsimp only); repeat (first | go_values | go_skip | go_guarded | go_step | go_upon))
        go_ret
        exact ⟨by rw [HR.out]; first | rfl | (rw [if_pos hlt]; rfl), HM.out.m.b⟩
      · ((try dsimp only); repeat (first | go_values | go_skip | go_guarded | go_step | go_upon))
        go_ret
        exact ⟨by rw [HR.out]; first | rfl | (rw [if_neg hlt]; rfl), HM.out.m.b⟩
  · have hxk : ka ≠ kb := fun h => hx (i1.1 h)
    have hxb : (a.1 == b.1) = false := beq_eq_false_iff_ne.2 hx
    have hxn : (a.1 != b.1) = true := by rw [bne, hxb]; rfl
    rw [if_pos hxk] at HR
    clear hx hxk i1 i2
    go_enter Tryz.func46, Tryz.ntmps46
    go_upto_region 1 with (fail)
    generalize (World.alloc (World.alloc w _) _) = v at *
    (try simp only [List.nil_append, List.cons_append, World.size_alloc, List.set_cons_zero, List.set_cons_succ, putsC, pB, pC, pD] at hmm)
    have HM := Lib.hid hmm
    clear hmm
    obtain ⟨c0_0, c0_1, c0_2, c0_3⟩ := rw2 (HM.out.at 0 rfl)
    obtain ⟨c1_0, c1_1, c1_2, c1_3⟩ := rw2 (HM.out.at 1 rfl)
    go_upto_region 2 with (fail)
    clear c0_0 c0_1 c0_2 c0_3 c1_0 c1_1 c1_2 c1_3
    refine start_ (n := 7) (S := fun w' => w'.heap[w.heap.size]? = v.heap[w.heap.size]? ∧ w'.heap[w.heap.size + 1]? = v.heap[w.heap.size + 1]?) (ds := []) (bt 7 0) (by kernel_rfl) rfl rfl ((And.intro rfl rfl)) (fun hHeld => ?_)
    refine pv_ 0 10 ?_
    refine ld_ 1 11 ?_ hHeld ?_ ?_; rotate_left
    · rintro w' hs
      obtain ⟨q0, q1, q2, q3⟩ := rw2 ((hs.1).trans (HM.out.at 0 rfl))
      clear hs
      go_simp; with_reducible rfl
    refine pv_ 3 13 ?_
    refine ld_ 4 14 ?_ hHeld ?_ ?_; rotate_left
    · rintro w' hs
      obtain ⟨q0, q1, q2, q3⟩ := rw2 ((hs.2).trans (HM.out.at 1 rfl))
      clear hs
      go_simp; with_reducible rfl
    refine join_ (σ := Unit) 0 (bt 7 127) (fun s => [(12, .int .u64 ka), (15, .int .u64 kb), (16, .bool (decide (ka < kb)))]) (fun s w' => Bx v.heap.size v w' [] []) ?_ ?_
    rotate_left
    · intro J0
      refine join_ (σ := Unit) 1 (bt 7 63) (fun s => [(12, .int .u64 ka), (15, .int .u64 kb)]) (fun s w' => Bx v.heap.size v w' [] []) ?_ ?_
      · rintro _ wj hF
        try dsimp only at hF ⊢
        refine nx ?_
        refine pv_ 6 16 ?_
        exact nj (J0 () _ hF)
      intro J1
      refine join_ (σ := Unit) 2 (bt 7 31) (fun s => [(12, .int .u64 ka)]) (fun s w' => Bx v.heap.size v w' [] []) ?_ ?_
      · rintro _ wj hF
        try dsimp only at hF ⊢
        refine nx ?_
        refine o1 5 15 (bt 7 63) ?_
        · intro K hK
          refine go_ Tryz.func106 #[.int .u64 b.1] ?_
          with_reducible refine (H2.out wj).mono ?_
          rintro e w' ⟨rfl, hb⟩
          refine ⟨_, rfl, ?_⟩
          have hN := hF.keep hb
          refine hK.out _ _ (by exact (And.intro (hN.m.b.block _ (HM.out.lt 0 rfl)) (hN.m.b.block _ (HM.out.lt 1 rfl)))) (fun hHeld => ?_)
          exact nj (J1 () _ hN)
      intro J2
      refine join_ (σ := Unit) 3 (bt 7 27) (fun s => []) (fun s w' => Bx v.heap.size v w' [] []) ?_ ?_
      · rintro _ wj hF
        try dsimp only at hF ⊢
        refine nx ?_
        refine o1 2 12 (bt 7 31) ?_
        · intro K hK
          refine go_ Tryz.func106 #[.int .u64 a.1] ?_
          with_reducible refine (H1.out wj).mono ?_
          rintro e w' ⟨rfl, hb⟩
          refine ⟨_, rfl, ?_⟩
          have hN := hF.keep hb
          refine hK.out _ _ (by exact (And.intro (hN.m.b.block _ (HM.out.lt 0 rfl)) (hN.m.b.block _ (HM.out.lt 1 rfl)))) (fun hHeld => ?_)
          exact nj (J2 () _ hN)
      intro J3
      exact nj (J3 () _ ((Bx.start _).drew))
    rintro _ wj hF
    try dsimp only at hF ⊢
    refine nx ?_
    have hG := HM.out.join hF
    (try simp only [List.nil_append, List.cons_append, World.size_alloc, List.set_cons_zero, List.set_cons_succ, putsC, pB, pC, pD] at hG)
    have hHeld := And.intro True.intro (And.intro (hF.m.b.block _ (HM.out.lt 0 rfl)) (hF.m.b.block _ (HM.out.lt 1 rfl)))
    clear HM hF
    refine done_ (by kernel_rfl) ?_
    (try simp only [List.nil_append, List.cons_append, World.size_alloc, List.set_cons_zero, List.set_cons_succ, putsC, pB, pC, pD] at hG)
    have HM := Lib.hid hG
    clear hG hHeld
    by_cases hlt : ka < kb
    · ((try dsimp only); repeat (first | go_values | go_skip | go_guarded | go_step | go_upon))
      go_ret
      exact ⟨by rw [HR.out]; first | rfl | (rw [if_pos hlt]; rfl), HM.out.m.b⟩
    · ((try dsimp only); repeat (first | go_values | go_skip | go_guarded | go_step | go_upon))
      go_ret
      exact ⟨by rw [HR.out]; first | rfl | (rw [if_neg hlt]; rfl), HM.out.m.b⟩
set_option maxRecDepth 100000 in
theorem run_index_pairs (a b c d : Value) (w : World) : (Instr.index 263 (.agg #[a, b, c, d]) (.int .i64 0)).run Tryz.prog w = .ok (.agg #[a, b]) w ∧ (Instr.index 263 (.agg #[a, b, c, d]) (.int .i64 1)).run Tryz.prog w = .ok (.agg #[c, d]) w := ⟨by rfl, by rfl⟩
set_option maxRecDepth 100000 in
set_option maxHeartbeats 3200000 in
theorem lCompareR (a b : Pt) (w : World) (ua : PtU a) (ub : PtU b) : Calls Tryz.prog 162 #[.agg #[.int .u64 a.1, .int .u64 a.2], .agg #[.int .u64 b.1, .int .u64 b.2]] w fun e w' => e = .returned (.int .i64 (cmpPt a b)) ∧ Below w.heap.size w w' := by
  have HR : Hid (cmpPt a b = if keyP a.1 ≠ keyP b.1 then (if keyP a.1 < keyP b.1 then -1 else 1) else if keyP a.2 ≠ keyP b.2 then (if keyP a.2 < keyP b.2 then -1 else 1) else 0) := Lib.hid rfl
  have H1 := Lib.hid (fun wz => lKey a.1 wz ua.1)
  have H2 := Lib.hid (fun wz => lKey b.1 wz ub.1)
  have H3 := Lib.hid (fun wz => lKey a.2 wz ua.2)
  have H4 := Lib.hid (fun wz => lKey b.2 wz ub.2)
  have i1 : keyP a.1 = keyP b.1 ↔ a.1 = b.1 := ⟨keyP_inj ua.1 ub.1, fun h => by rw [h]⟩
  have i2 : keyP a.2 = keyP b.2 ↔ a.2 = b.2 := ⟨keyP_inj ua.2 ub.2, fun h => by rw [h]⟩
  generalize keyP a.1 = ka at *
  generalize keyP b.1 = kb at *
  generalize keyP a.2 = kc at *
  generalize keyP b.2 = kd at *
  generalize cmpPt a b = r at *
  clear ua ub
  clear i1 i2
  have hmm : Bx w.heap.size w ((w.alloc (.cells #[.int .u64 a.1, .int .u64 a.2] 38)).alloc (.cells #[.int .u64 b.1, .int .u64 b.2] 38)) _ _ := ((Bx.start w).alloc (.cells #[.int .u64 a.1, .int .u64 a.2] 38 (0, 0))).alloc (.cells #[.int .u64 b.1, .int .u64 b.2] 38 (0, 0))
  go_enter Tryz.func162, Tryz.ntmps162
  go_upto_region 1 with (fail)
  generalize (World.alloc (World.alloc w _) _) = v at *
  (try simp only [List.nil_append, List.cons_append, World.size_alloc, List.set_cons_zero, List.set_cons_succ, putsC, pB, pC, pD] at hmm)
  have HM := Lib.hid hmm
  clear hmm
  refine start_ (n := 16) (S := fun w' => w'.heap[w.heap.size]? = v.heap[w.heap.size]? ∧ w'.heap[w.heap.size + 1]? = v.heap[w.heap.size + 1]?) (ds := []) (bt 16 0) (by kernel_rfl) rfl rfl ((And.intro rfl rfl)) (fun hHeld => ?_)
  refine pv_ 0 7 ?_
  refine ld_ 1 8 ?_ hHeld ?_ ?_; rotate_left
  · rintro w' hs
    obtain ⟨q0, q1, q2, q3⟩ := rw2 ((hs.1).trans (HM.out.at 0 rfl))
    clear hs
    go_simp; with_reducible rfl
  refine pv_ 3 10 ?_
  refine ld_ 4 11 ?_ hHeld ?_ ?_; rotate_left
  · rintro w' hs
    obtain ⟨q0, q1, q2, q3⟩ := rw2 ((hs.2).trans (HM.out.at 1 rfl))
    clear hs
    go_simp; with_reducible rfl
  refine pv_ 7 14 ?_
  refine ld_ 8 15 ?_ hHeld ?_ ?_; rotate_left
  · rintro w' hs
    obtain ⟨q0, q1, q2, q3⟩ := rw2 ((hs.1).trans (HM.out.at 0 rfl))
    clear hs
    go_simp; with_reducible rfl
  refine pv_ 10 17 ?_
  refine ld_ 11 18 ?_ hHeld ?_ ?_; rotate_left
  · rintro w' hs
    obtain ⟨q0, q1, q2, q3⟩ := rw2 ((hs.2).trans (HM.out.at 1 rfl))
    clear hs
    go_simp; with_reducible rfl
  refine pv_ 15 22 ?_
  refine join_ (σ := Unit) 0 (bt 16 65535) (fun s => [(9, .int .u64 ka), (12, .int .u64 kb), (13, .agg #[.int .u64 ka, .int .u64 kb]), (16, .int .u64 kc), (19, .int .u64 kd), (20, .agg #[.int .u64 kc, .int .u64 kd]), (21, .agg #[.int .u64 ka, .int .u64 kb, .int .u64 kc, .int .u64 kd])]) (fun s w' => Bx v.heap.size v w' [] []) ?_ ?_
  rotate_left
  · intro J0
    refine join_ (σ := Unit) 1 (bt 16 49151) (fun s => [(9, .int .u64 ka), (12, .int .u64 kb), (13, .agg #[.int .u64 ka, .int .u64 kb]), (16, .int .u64 kc), (19, .int .u64 kd), (20, .agg #[.int .u64 kc, .int .u64 kd])]) (fun s w' => Bx v.heap.size v w' [] []) ?_ ?_
    · rintro _ wj hF
      try dsimp only at hF ⊢
      refine nx ?_
      refine pv_ 14 21 ?_
      exact nj (J0 () _ hF)
    intro J1
    refine join_ (σ := Unit) 2 (bt 16 40959) (fun s => [(9, .int .u64 ka), (12, .int .u64 kb), (13, .agg #[.int .u64 ka, .int .u64 kb]), (16, .int .u64 kc), (19, .int .u64 kd)]) (fun s w' => Bx v.heap.size v w' [] []) ?_ ?_
    · rintro _ wj hF
      try dsimp only at hF ⊢
      refine nx ?_
      refine pv_ 13 20 ?_
      exact nj (J1 () _ hF)
    intro J2
    refine join_ (σ := Unit) 3 (bt 16 36863) (fun s => [(9, .int .u64 ka), (12, .int .u64 kb), (13, .agg #[.int .u64 ka, .int .u64 kb]), (16, .int .u64 kc)]) (fun s w' => Bx v.heap.size v w' [] []) ?_ ?_
    · rintro _ wj hF
      try dsimp only at hF ⊢
      refine nx ?_
      refine o1 12 19 (bt 16 40959) ?_
      · intro K hK
        refine go_ Tryz.func214 #[.int .u64 b.2] ?_
        with_reducible refine (H4.out wj).mono ?_
        rintro e w' ⟨rfl, hb⟩
        refine ⟨_, rfl, ?_⟩
        have hN := hF.keep hb
        refine hK.out _ _ (by exact (And.intro (hN.m.b.block _ (HM.out.lt 0 rfl)) (hN.m.b.block _ (HM.out.lt 1 rfl)))) (fun hHeld => ?_)
        exact nj (J2 () _ hN)
    intro J3
    refine join_ (σ := Unit) 4 (bt 16 36351) (fun s => [(9, .int .u64 ka), (12, .int .u64 kb), (13, .agg #[.int .u64 ka, .int .u64 kb])]) (fun s w' => Bx v.heap.size v w' [] []) ?_ ?_
    · rintro _ wj hF
      try dsimp only at hF ⊢
      refine nx ?_
      refine o1 9 16 (bt 16 36863) ?_
      · intro K hK
        refine go_ Tryz.func214 #[.int .u64 a.2] ?_
        with_reducible refine (H3.out wj).mono ?_
        rintro e w' ⟨rfl, hb⟩
        refine ⟨_, rfl, ?_⟩
        have hN := hF.keep hb
        refine hK.out _ _ (by exact (And.intro (hN.m.b.block _ (HM.out.lt 0 rfl)) (hN.m.b.block _ (HM.out.lt 1 rfl)))) (fun hHeld => ?_)
        exact nj (J3 () _ hN)
    intro J4
    refine join_ (σ := Unit) 5 (bt 16 36287) (fun s => [(9, .int .u64 ka), (12, .int .u64 kb)]) (fun s w' => Bx v.heap.size v w' [] []) ?_ ?_
    · rintro _ wj hF
      try dsimp only at hF ⊢
      refine nx ?_
      refine pv_ 6 13 ?_
      exact nj (J4 () _ hF)
    intro J5
    refine join_ (σ := Unit) 6 (bt 16 36255) (fun s => [(9, .int .u64 ka)]) (fun s w' => Bx v.heap.size v w' [] []) ?_ ?_
    · rintro _ wj hF
      try dsimp only at hF ⊢
      refine nx ?_
      refine o1 5 12 (bt 16 36287) ?_
      · intro K hK
        refine go_ Tryz.func214 #[.int .u64 b.1] ?_
        with_reducible refine (H2.out wj).mono ?_
        rintro e w' ⟨rfl, hb⟩
        refine ⟨_, rfl, ?_⟩
        have hN := hF.keep hb
        refine hK.out _ _ (by exact (And.intro (hN.m.b.block _ (HM.out.lt 0 rfl)) (hN.m.b.block _ (HM.out.lt 1 rfl)))) (fun hHeld => ?_)
        exact nj (J5 () _ hN)
    intro J6
    refine join_ (σ := Unit) 7 (bt 16 36251) (fun s => []) (fun s w' => Bx v.heap.size v w' [] []) ?_ ?_
    · rintro _ wj hF
      try dsimp only at hF ⊢
      refine nx ?_
      refine o1 2 9 (bt 16 36255) ?_
      · intro K hK
        refine go_ Tryz.func214 #[.int .u64 a.1] ?_
        with_reducible refine (H1.out wj).mono ?_
        rintro e w' ⟨rfl, hb⟩
        refine ⟨_, rfl, ?_⟩
        have hN := hF.keep hb
        refine hK.out _ _ (by exact (And.intro (hN.m.b.block _ (HM.out.lt 0 rfl)) (hN.m.b.block _ (HM.out.lt 1 rfl)))) (fun hHeld => ?_)
        exact nj (J6 () _ hN)
    intro J7
    exact nj (J7 () _ ((Bx.start _).drew))
  rintro _ wj hF
  try dsimp only at hF ⊢
  refine nx ?_
  have hG := HM.out.join hF
  (try simp only [List.nil_append, List.cons_append, World.size_alloc, List.set_cons_zero, List.set_cons_succ, putsC, pB, pC, pD] at hG)
  have hHeld := And.intro True.intro (And.intro (hF.m.b.block _ (HM.out.lt 0 rfl)) (hF.m.b.block _ (HM.out.lt 1 rfl)))
  clear HM hF
  refine done_ (by kernel_rfl) ?_
  (try simp only [List.nil_append, List.cons_append, World.size_alloc, List.set_cons_zero, List.set_cons_succ, putsC, pB, pC, pD] at hG)
  have HM := Lib.hid hG
  clear hG hHeld
  have HB := Lib.hid HM.out.m.b
  clear HM
  ((try dsimp only); repeat (first | go_values | go_skip | go_guarded | go_step | go_upon))
  go_loopw [22] (fun i wr => ∃ k : Nat, i = .int .i64 (k : Int) ∧ k ≤ 2 ∧ (0 < k → ka = kb) ∧ (1 < k → kc = kd) ∧ Below w.heap.size w wr) (fun i _ => 2 - (intOf i).toNat)
  case atStart => exact ⟨0, rfl, by omega, fun h => absurd h (by omega), fun h => absurd h (by omega), HB.out⟩
  case round =>
    obtain ⟨k, rfl, hk, e1, e2, hB⟩ := hrel
    have HB := Lib.hid hB
    clear hB
    have HE := Lib.hid (And.intro e1 e2)
    clear e1 e2
    obtain ⟨x0, x1⟩ := run_index_pairs (.int .u64 ka) (.int .u64 kb) (.int .u64 kc) (.int .u64 kd) wr
    rcases k with _ | _ | _ | k
    · by_cases hq : ka = kb
      · have hqb : (ka == kb) = true := beq_iff_eq.2 hq
        have hqn : (ka != kb) = false := by rw [bne, hqb]; rfl
        have HQ := Lib.hid hq
        clear hq
        ((try dsimp only); repeat (first | go_values | go_skip | go_guarded | go_step | go_upon))
        exact ⟨⟨1, rfl, by omega, fun _ => HQ.out, fun h => absurd h (by omega), HB.out.alloc HB.out.size _⟩, by simp [intOf]⟩
      · have hqb : (ka == kb) = false := beq_eq_false_iff_ne.2 hq
        have hqn : (ka != kb) = true := by rw [bne, hqb]; rfl
        have HQ : Hid (ka ≠ kb) := Lib.hid hq
        clear hq
        rw [if_pos HQ.out] at HR
        by_cases hlt : ka < kb
        · ((try dsimp only); repeat (first | go_values | go_skip | go_guarded | go_step | go_upon))
          go_ret
          exact ⟨by rw [HR.out]; first | rfl | (rw [if_pos hlt]; rfl), HB.out.alloc HB.out.size _⟩
        · ((try dsimp only); repeat (first | go_values | go_skip | go_guarded | go_step | go_upon))
          go_ret
          exact ⟨by rw [HR.out]; first | rfl | (rw [if_neg hlt]; rfl), HB.out.alloc HB.out.size _⟩
    · by_cases hq : kc = kd
      · have hqb : (kc == kd) = true := beq_iff_eq.2 hq
        have hqn : (kc != kd) = false := by rw [bne, hqb]; rfl
        have HQ := Lib.hid hq
        clear hq
        ((try dsimp only); repeat (first | go_values | go_skip | go_guarded | go_step | go_upon))
        exact ⟨⟨2, rfl, by omega, fun _ => HE.out.1 (by omega), fun _ => HQ.out, HB.out.alloc HB.out.size _⟩, by simp [intOf]⟩
      · have hqb : (kc == kd) = false := beq_eq_false_iff_ne.2 hq
        have hqn : (kc != kd) = true := by rw [bne, hqb]; rfl
        have HQ : Hid (kc ≠ kd) := Lib.hid hq
        clear hq
        rw [if_neg (by simp [HE.out.1 (by omega)]), if_pos HQ.out] at HR
        by_cases hlt : kc < kd
        · ((try dsimp only); repeat (first | go_values | go_skip | go_guarded | go_step | go_upon))
          go_ret
          exact ⟨by rw [HR.out]; first | rfl | (rw [if_pos hlt]; rfl), HB.out.alloc HB.out.size _⟩
        · ((try dsimp only); repeat (first | go_values | go_skip | go_guarded | go_step | go_upon))
          go_ret
          exact ⟨by rw [HR.out]; first | rfl | (rw [if_neg hlt]; rfl), HB.out.alloc HB.out.size _⟩
    · ((try dsimp only); repeat (first | go_values | go_skip | go_guarded | go_step | go_upon))
      go_ret
      exact ⟨by rw [HR.out, if_neg (by simp [HE.out.1 (by omega)]), if_neg (by simp [HE.out.2 (by omega)])]; rfl, HB.out⟩
    · exfalso
      omega
end Go.Proofs.YtfpofmifmapmfaaGreatDoor

namespace Go.Proofs.YtfpofmifmapmfaaGreatDoor
open Go.RowKit Go.Proofs.YtfpofmifmapmfaaGreatDoorW.PrintLast
set_option linter.unusedVariables false
set_option linter.unusedSimpArgs false
theorem cmpL_drop : ∀ (k : Nat) (a b : List Pt), k ≤ a.length → k ≤ b.length → (∀ j, j < k → cmpPt (a.getD j (0, 0)) (b.getD j (0, 0)) = 0) → cmpL a b = cmpL (a.drop k) (b.drop k)
  | 0, _, _, _, _, _ => rfl
  | k + 1, [], b, h, _, _ => by simp at h
  | k + 1, _ :: _, [], _, h, _ => by simp at h
  | k + 1, x :: a, y :: b, h1, h2, h => by
    have h0 : cmpPt x y = 0 := h 0 (by omega)
    have ih := cmpL_drop k a b (by simpa using h1) (by simpa using h2) (fun j hj => h (j + 1) (by omega))
    rw [cmpL, if_neg (by omega), ih]; rfl
theorem cmpL_ne {k : Nat} {a b : List Pt} (ha : k < a.length) (hb : k < b.length) (h : ∀ j, j < k → cmpPt (a.getD j (0, 0)) (b.getD j (0, 0)) = 0) (hc : cmpPt (a.getD k (0, 0)) (b.getD k (0, 0)) ≠ 0) : cmpL a b = cmpPt (a.getD k (0, 0)) (b.getD k (0, 0)) := by
  rw [cmpL_drop k a b (by omega) (by omega) h, List.drop_eq_getElem_cons ha, List.drop_eq_getElem_cons hb]
  have e1 : a.getD k (0, 0) = a[k] := by rw [List.getD_eq_getElem?_getD, List.getElem?_eq_getElem ha]; rfl
  have e2 : b.getD k (0, 0) = b[k] := by rw [List.getD_eq_getElem?_getD, List.getElem?_eq_getElem hb]; rfl
  rw [e1, e2] at hc ⊢
  rw [cmpL, if_pos hc]
theorem cmpL_long {k : Nat} {a b : List Pt} (ha : k < a.length) (hb : k = b.length) (h : ∀ j, j < k → cmpPt (a.getD j (0, 0)) (b.getD j (0, 0)) = 0) : cmpL a b = 1 := by
  have hd : b.drop k = [] := List.drop_of_length_le (by omega)
  rw [cmpL_drop k a b (by omega) (by omega) h, List.drop_eq_getElem_cons ha, hd]; rfl
theorem cmpL_end {k : Nat} {a b : List Pt} (ha : k = a.length) (hb : k ≤ b.length) (h : ∀ j, j < k → cmpPt (a.getD j (0, 0)) (b.getD j (0, 0)) = 0) : cmpL a b = if a.length < b.length then -1 else 0 := by
  have hd : a.drop k = [] := List.drop_of_length_le (by omega)
  rw [cmpL_drop k a b (by omega) (by omega) h, hd]
  rcases Nat.lt_or_ge k b.length with g | g
  · rw [List.drop_eq_getElem_cons g, if_pos (by omega)]; rfl
  · have hd2 : b.drop k = [] := List.drop_of_length_le g
    rw [hd2, if_neg (by omega)]; rfl
set_option maxRecDepth 100000 in
set_option maxHeartbeats 3200000 in
theorem lCompareFunc (A B : Option Addr) (ca cb : Nat) (a b : List Pt) (w : World) (ha : PtsIn w A a) (hb : PtsIn w B b) (la : a.length ≤ 1000000) (lb : b.length ≤ 1000000) (ua : ∀ q ∈ a, PtU q) (ub : ∀ q ∈ b, PtU q) :
    Calls Tryz.prog 161 #[.slice A a.length ca, .slice B b.length cb, .func (.func 162) #[] #[]] w fun e w' => e = .returned (.int .i64 (cmpL a b)) ∧ Below w.heap.size w w' := by
  have HA := Lib.hid ha
  have HB := Lib.hid hb
  have HU := Lib.hid (And.intro ua ub)
  have HL := Lib.hid (And.intro la lb)
  clear ha hb ua ub la lb
  go_enter Tryz.func161, Tryz.ntmps161
  ((try dsimp only); repeat (first | go_values | go_skip | go_guarded | go_step | go_upon))
  go_loopw [13] (fun i wr => ∃ k : Nat, i = .int .i64 (k : Int) ∧ k ≤ a.length ∧ k ≤ b.length ∧ (∀ j, j < k → cmpPt (a.getD j (0, 0)) (b.getD j (0, 0)) = 0) ∧ Below w.heap.size w wr) (fun i _ => a.length - (intOf i).toNat)
  case atStart => exact ⟨0, rfl, Nat.zero_le _, Nat.zero_le _, fun j hj => absurd hj (by omega), Below.refl _ _⟩
  case round =>
    obtain ⟨k, rfl, hk, hkb, hF, hB⟩ := hrel
    have HK := Lib.hid hB
    have HF := Lib.hid hF
    clear hB hF
    by_cases h0 : k < a.length
    · obtain ⟨b1, o1, rfl, hb1, hpa⟩ := HA.out.open h0
      have hp1 := (HK.out.cell (p := ⟨b1, o1 + k * 2, none⟩) hb1).trans (hpa k h0).1
      have hp2 := (HK.out.cell (p := ⟨b1, o1 + k * 2 + 1, none⟩) hb1).trans (hpa k h0).2
      have hki : (k : Int) < (a.length : Int) := by omega
      have hsB := HK.out.size
      by_cases h1 : k < b.length
      · obtain ⟨b2, o2, rfl, hb2, hpb⟩ := HB.out.open h1
        have hb3 := HK.out.alloc hsB (.cells #[.int .u64 (a.getD k (0, 0)).1, .int .u64 (a.getD k (0, 0)).2] 38)
        have hq1 := (hb3.cell (p := ⟨b2, o2 + k * 2, none⟩) hb2).trans (hpb k h1).1
        have hq2 := (hb3.cell (p := ⟨b2, o2 + k * 2 + 1, none⟩) hb2).trans (hpb k h1).2
        have hkj : (k : Int) < (b.length : Int) := by omega
        have hkn : ¬ (b.length : Int) ≤ (k : Int) := by omega
        have hkn2 : ¬ b.length ≤ k := by omega
        have HNe := Lib.hid (cmpL_ne h0 h1 HF.out)
        have HEq : Hid (cmpPt (a.getD k (0, 0)) (b.getD k (0, 0)) = 0 → ∀ j, j < k + 1 → cmpPt (a.getD j (0, 0)) (b.getD j (0, 0)) = 0) := Lib.hid (fun h j hj => by
          rcases Nat.lt_or_ge j k with g | g
          · exact HF.out j g
          · obtain rfl : j = k := by omega
            exact h)
        have HC := Lib.hid (fun wz => lCompareR (a.getD k (0, 0)) (b.getD k (0, 0)) wz (HU.out.1 _ (getD_mem h0)) (HU.out.2 _ (getD_mem h1)))
        have HX := Lib.hid (And.intro h0 h1)
        have hw1 : wrap64 ((k : Int) + 1) = ((k + 1 : Nat) : Int) := by have := HL.out.1; clear HA HB HU HC HK HF HNe HEq; unfold wrap64; omega
        have W1 := Lib.hid hw1
        clear hpa hpb hw1 hb3
        generalize cmpPt (a.getD k (0, 0)) (b.getD k (0, 0)) = c at *
        generalize a.getD k (0, 0) = p at *
        generalize b.getD k (0, 0) = q at *
        ((try dsimp only); repeat (first | go_values | go_skip | go_guarded | go_step | go_upon))
        have hb4 := (HK.out.alloc hsB (.cells #[.int .u64 p.1, .int .u64 p.2] 38))
        have hb5 := hb4.alloc hb4.size (.cells #[.int .u64 q.1, .int .u64 q.2] 38)
        have HD := Lib.hid hb5
        clear hb4 hb5 hp1 hp2 hq1 hq2
        generalize World.alloc (World.alloc wr _) _ = w5 at *
        refine (HC.out _).mono ?_
        rintro e w6 ⟨rfl, hb6⟩
        have HE := Lib.hid (HD.out.trans (hb6.mono HD.out.size))
        clear hb6
        by_cases hc : c = 0
        · subst hc
          ((try dsimp only); repeat (first | go_values | go_skip | go_guarded | go_step | go_upon))
          refine ⟨⟨k + 1, vint W1.out, HX.out.1, HX.out.2, HEq.out rfl, HE.out⟩, ?_⟩
          show a.length - (intOf (.int .i64 (wrap64 ((k : Int) + 1)))).toNat < a.length - (intOf (.int .i64 (k : Int))).toNat
          rw [W1.out]
          have hk0 := HX.out.1
          clear HA HB HU HC HK HF HNe HEq HD HE HL W1 HX
          show a.length - (((k + 1 : Nat) : Int)).toNat < a.length - ((k : Int)).toNat
          omega
        · have hcb : (c == 0) = false := beq_eq_false_iff_ne.2 hc
          have hcn : (c != 0) = true := by rw [bne, hcb]; rfl
          ((try dsimp only); repeat (first | go_values | go_skip | go_guarded | go_step | go_upon))
          go_ret
          exact ⟨by rw [HNe.out hc]; rfl, HE.out⟩
      · have hkn : (b.length : Int) ≤ (k : Int) := by omega
        have hkn2 : b.length ≤ k := by omega
        have HR := Lib.hid (cmpL_long h0 (by omega) HF.out)
        ((try dsimp only); repeat (first | go_values | go_skip | go_guarded | go_step | go_upon))
        go_ret
        exact ⟨by rw [HR.out]; rfl, HK.out.alloc hsB _⟩
    · have hka : k = a.length := by omega
      have HR := Lib.hid (cmpL_end hka hkb HF.out)
      subst hka
      have hki : ¬ (a.length : Int) < (a.length : Int) := by omega
      by_cases h1 : a.length < b.length
      · rw [if_pos h1] at HR
        have h2 : (a.length : Int) < (b.length : Int) := by omega
        ((try dsimp only); repeat (first | go_values | go_skip | go_guarded | go_step | go_upon))
        go_ret
        exact ⟨by rw [HR.out]; rfl, HK.out⟩
      · rw [if_neg h1] at HR
        have h2 : ¬ (a.length : Int) < (b.length : Int) := by omega
        ((try dsimp only); repeat (first | go_values | go_skip | go_guarded | go_step | go_upon))
        go_ret
        exact ⟨by rw [HR.out]; rfl, HK.out⟩
set_option maxRecDepth 100000 in
set_option maxHeartbeats 3200000 in
theorem lCompareLines (A B : Option Addr) (ca cb : Nat) (a b : List Pt) (w : World) (ha : PtsIn w A a) (hb : PtsIn w B b) (la : a.length ≤ 1000000) (lb : b.length ≤ 1000000) (ua : ∀ q ∈ a, PtU q) (ub : ∀ q ∈ b, PtU q) :
    Calls Tryz.prog 77 #[.slice A a.length ca, .slice B b.length cb] w fun e w' => e = .returned (.int .i64 (cmpL a b)) ∧ Below w.heap.size w w' := by
  have HA := Lib.hid ha
  have HB := Lib.hid hb
  have HU := Lib.hid (And.intro ua ub)
  have HL := Lib.hid (And.intro la lb)
  clear ha hb ua ub la lb
  go_enter Tryz.func77, Tryz.ntmps77
  ((try dsimp only); repeat (first | go_values | go_skip | go_guarded | go_step | go_upon))
  go_loopw [5] (fun i wr => ∃ k : Nat, i = .int .i64 (k : Int) ∧ k ≤ a.length ∧ k ≤ b.length ∧ (∀ j, j < k → cmpPt (a.getD j (0, 0)) (b.getD j (0, 0)) = 0) ∧ Below w.heap.size w wr) (fun i _ => a.length - (intOf i).toNat)
  case atStart => exact ⟨0, rfl, Nat.zero_le _, Nat.zero_le _, fun j hj => absurd hj (by omega), Below.refl _ _⟩
  case round =>
    obtain ⟨k, rfl, hk, hkb, hF, hB⟩ := hrel
    have HK := Lib.hid hB
    have HF := Lib.hid hF
    clear hB hF
    by_cases h0 : k < a.length
    · have hki : (k : Int) < (a.length : Int) := by omega
      by_cases h1 : k < b.length
      · obtain ⟨b1, o1, rfl, hb1, hpa⟩ := HA.out.open h0
        obtain ⟨b2, o2, rfl, hb2, hpb⟩ := HB.out.open h1
        have HR : Hid (∀ wz : World, Below w.heap.size w wz → (wz.cell? ⟨b1, o1 + k * 2, none⟩ = some (.int .u64 (a.getD k (0, 0)).1) ∧ wz.cell? ⟨b1, o1 + k * 2 + 1, none⟩ = some (.int .u64 (a.getD k (0, 0)).2)) ∧ wz.cell? ⟨b2, o2 + k * 2, none⟩ = some (.int .u64 (b.getD k (0, 0)).1) ∧ wz.cell? ⟨b2, o2 + k * 2 + 1, none⟩ = some (.int .u64 (b.getD k (0, 0)).2)) :=
          Lib.hid (fun wz h => ⟨⟨(h.cell (p := ⟨b1, o1 + k * 2, none⟩) hb1).trans (hpa k h0).1, (h.cell (p := ⟨b1, o1 + k * 2 + 1, none⟩) hb1).trans (hpa k h0).2⟩, (h.cell (p := ⟨b2, o2 + k * 2, none⟩) hb2).trans (hpb k h1).1, (h.cell (p := ⟨b2, o2 + k * 2 + 1, none⟩) hb2).trans (hpb k h1).2⟩)
        have hkj : (k : Int) < (b.length : Int) := by omega
        have HNe := Lib.hid (cmpL_ne h0 h1 HF.out)
        have HEq : Hid (cmpPt (a.getD k (0, 0)) (b.getD k (0, 0)) = 0 → ∀ j, j < k + 1 → cmpPt (a.getD j (0, 0)) (b.getD j (0, 0)) = 0) := Lib.hid (fun h j hj => by
          rcases Nat.lt_or_ge j k with g | g
          · exact HF.out j g
          · obtain rfl : j = k := by omega
            exact h)
        have HC := Lib.hid (fun wz => lCompare24 (a.getD k (0, 0)) (b.getD k (0, 0)) wz (HU.out.1 _ (getD_mem h0)) (HU.out.2 _ (getD_mem h1)))
        have HX := Lib.hid (And.intro h0 h1)
        have hw1 : wrap64 ((k : Int) + 1) = ((k + 1 : Nat) : Int) := by have := HL.out.1; clear HA HB HU HC HK HF HNe HEq; unfold wrap64; omega
        have W1 := Lib.hid hw1
        clear hpa hpb hw1
        generalize cmpPt (a.getD k (0, 0)) (b.getD k (0, 0)) = c at *
        generalize a.getD k (0, 0) = p at *
        generalize b.getD k (0, 0) = q at *
        go_upto_region 4 with (fail)
        refine start_ (n := 10) (S := fun w' => Below wr.heap.size wr w') (ds := []) (bt 10 0) (by kernel_rfl) rfl rfl ((Below.refl _ _).drew) (fun hHeld => ?_)
        refine pv_ 0 19 ?_
        refine pv_ 1 20 ?_
        refine pv_ 2 21 ?_
        refine ld_ 3 22 ?_ hHeld ?_ ?_; rotate_left
        · rintro w' hs
          obtain ⟨⟨c0, c1⟩, c2, c3⟩ := HR.out _ (HK.out.trans (hs.mono HK.out.size))
          clear hs
          go_simp; with_reducible rfl
        refine pv_ 4 23 ?_
        refine pv_ 5 24 ?_
        refine pv_ 6 25 ?_
        refine ld_ 7 26 ?_ hHeld ?_ ?_; rotate_left
        · rintro w' hs
          obtain ⟨⟨c0, c1⟩, c2, c3⟩ := HR.out _ (HK.out.trans (hs.mono HK.out.size))
          clear hs
          go_simp; with_reducible rfl
        refine ca_ 8 27 Tryz.func46 #[.agg #[.int .u64 p.1, .int .u64 p.2], .agg #[.int .u64 q.1, .int .u64 q.2]] ?_
        with_reducible refine (HC.out _).mono ?_
        rintro e w' ⟨rfl, hb⟩
        refine ⟨_, rfl, (by exact hHeld.trans (hb.mono hHeld.size)), fun hHeld => ?_⟩
        refine nn ?_
        refine pv_ 9 6 ?_
        refine done_ (by kernel_rfl) ?_
        have HE := Lib.hid (HK.out.trans (hHeld.mono HK.out.size))
        clear hHeld hb
        by_cases hc : c = 0
        · subst hc
          ((try dsimp only); repeat (first | go_values | go_skip | go_guarded | go_step | go_upon))
          refine ⟨⟨k + 1, vint W1.out, HX.out.1, HX.out.2, HEq.out rfl, HE.out⟩, ?_⟩
          show a.length - (intOf (.int .i64 (wrap64 ((k : Int) + 1)))).toNat < a.length - (intOf (.int .i64 (k : Int))).toNat
          rw [W1.out]
          have hk0 := HX.out.1
          clear HA HB HU HC HK HF HNe HEq HR HE HL W1 HX
          show a.length - (((k + 1 : Nat) : Int)).toNat < a.length - ((k : Int)).toNat
          omega
        · have hcb : (c == 0) = false := beq_eq_false_iff_ne.2 hc
          have hcn : (c != 0) = true := by rw [bne, hcb]; rfl
          ((try dsimp only); repeat (first | go_values | go_skip | go_guarded | go_step | go_upon))
          go_ret
          exact ⟨by rw [HNe.out hc]; rfl, HE.out⟩
      · have hkn : ¬ (k : Int) < (b.length : Int) := by omega
        have hln : ¬ (a.length : Int) < (b.length : Int) := by omega
        have hlp : (b.length : Int) < (a.length : Int) := by omega
        have hln2 : ¬ a.length < b.length := by omega
        have hlp2 : b.length < a.length := by omega
        have HR := Lib.hid (cmpL_long h0 (by omega) HF.out)
        ((try dsimp only); repeat (first | go_values | go_skip | go_guarded | go_step | go_upon))
        go_ret
        exact ⟨by rw [HR.out]; rfl, HK.out⟩
    · have hka : k = a.length := by omega
      have HR := Lib.hid (cmpL_end hka hkb HF.out)
      subst hka
      have hki : ¬ (a.length : Int) < (a.length : Int) := by omega
      by_cases h1 : a.length < b.length
      · rw [if_pos h1] at HR
        have h2 : (a.length : Int) < (b.length : Int) := by omega
        ((try dsimp only); repeat (first | go_values | go_skip | go_guarded | go_step | go_upon))
        go_ret
        exact ⟨by rw [HR.out]; rfl, HK.out⟩
      · rw [if_neg h1] at HR
        have h2 : ¬ (a.length : Int) < (b.length : Int) := by omega
        have h3 : ¬ (b.length : Int) < (a.length : Int) := by omega
        have h4 : ¬ b.length < a.length := by omega
        ((try dsimp only); repeat (first | go_values | go_skip | go_guarded | go_step | go_upon))
        go_ret
        exact ⟨by rw [HR.out]; rfl, HK.out⟩
set_option maxRecDepth 100000 in
set_option maxHeartbeats 1600000 in
theorem lEq24 (A B : Option Addr) (ca cb : Nat) (a b : List Pt) (w : World) (ha : PtsIn w A a) (hb : PtsIn w B b) (la : a.length ≤ 1000000) (lb : b.length ≤ 1000000) (ua : ∀ q ∈ a, PtU q) (ub : ∀ q ∈ b, PtU q) :
    Calls Tryz.prog 24 #[.slice A a.length ca, .slice B b.length cb] w fun e w' => e = .returned (.bool (decide (a = b))) ∧ Below w.heap.size w w' := by
  have HC := Lib.hid (lCompareLines A B ca cb a b w ha hb la lb ua ub)
  have hE := cmpL_eq ua ub
  have HD : Hid (a.length ≠ b.length → decide (a = b) = false) := Lib.hid (fun h => decide_eq_false (fun e => h (by rw [e])))
  have HT : Hid (cmpL a b = 0 → decide (a = b) = true) := Lib.hid (fun h => decide_eq_true (hE.1 h))
  have HF : Hid (¬ cmpL a b = 0 → decide (a = b) = false) := Lib.hid (fun h => decide_eq_false (fun e => h (hE.2 e)))
  clear hE ha hb la lb ua ub
  generalize cmpL a b = c at *
  generalize hr : decide (a = b) = r at *
  clear hr
  by_cases h : a.length = b.length
  · have h1 : ((a.length : Int) == (b.length : Int)) = true := beq_iff_eq.2 (by omega)
    have h2 : (a.length == b.length) = true := beq_iff_eq.2 h
    clear h
    go_enter Tryz.func24, Tryz.ntmps24
    ((try dsimp only); repeat (first | go_values | go_skip | go_guarded | go_step | go_upon))
    refine HC.out.mono ?_
    rintro e w1 ⟨rfl, hb1⟩
    by_cases hc : c = 0
    · subst hc
      ((try dsimp only); repeat (first | go_values | go_skip | go_guarded | go_step | go_upon))
      go_ret
      exact ⟨by rw [HT.out rfl]; rfl, hb1⟩
    · have hcb : (c == 0) = false := beq_eq_false_iff_ne.2 hc
      ((try dsimp only); repeat (first | go_values | go_skip | go_guarded | go_step | go_upon))
      go_ret
      exact ⟨by rw [HF.out hc]; first | rfl | (show Ending.returned (.bool (c == 0)) = _; rw [hcb]), hb1⟩
  · have h1 : ((a.length : Int) == (b.length : Int)) = false := beq_eq_false_iff_ne.2 (by omega)
    have h2 : (a.length == b.length) = false := beq_eq_false_iff_ne.2 h
    go_enter Tryz.func24, Tryz.ntmps24
    ((try dsimp only); repeat (first | go_values | go_skip | go_guarded | go_step | go_upon))
    go_ret
    exact ⟨by rw [HD.out h]; rfl, Below.refl _ _⟩
end Go.Proofs.YtfpofmifmapmfaaGreatDoor
