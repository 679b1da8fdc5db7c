/- seg.Meet's answer: finite, lawful. -/
import Derived.Test.YtggfppgjabembaaGreatDoorKI
import Derived.Test.YtggfppgjabembaaGreatDoorKG
import Derived.Test.YtggfppgjabembaaGreatDoorKH
import Derived.Test.YtggfppgjabembaaGreatDoorKA
namespace Go.Proofs.YtggfppgjabembaaGreatDoor
open Go.RowKit
set_option linter.unusedVariables false
def qo (A B : Option Addr) (q : Rat) : Obj := .cells #[.bool (decide (q.num < 0)), .slice A (qn q).length (qn q).length, .slice B (qd q).length (qd q).length] 45 (0, 0)
structure Mem (n : Nat) (w0 w : World) (L : List (Nat × Obj)) (R : List (Option Addr × Option Addr × Rat)) : Prop where
  b : Below n w0 w
  z : n ≤ w.heap.size
  l : ∀ (i g : Nat) (o : Obj), L[i]? = some (g, o) → w.heap[g]? = some o
  r : ∀ (i : Nat) (A B : Option Addr) (q : Rat), R[i]? = some (A, B, q) → RatFresh n w A B q
theorem Mem.start (w : World) : Mem w.heap.size w w [] [] := ⟨Below.refl _ _, Nat.le_refl _, fun i g o h => by simp at h, fun i A B q h => by simp at h⟩
section
variable {n : Nat} {w0 w w' : World} {L : List (Nat × Obj)} {R : List (Option Addr × Option Addr × Rat)}
theorem Mem.keep (h : Mem n w0 w L R) (k : Below w.heap.size w w') : Mem n w0 w' L R :=
  ⟨h.b.trans (k.mono h.z), Nat.le_trans h.z k.size, fun i g o e => (k.block _ (heap_lt (h.l i g o e))).trans (h.l i g o e), fun i A B q e => (h.r i A B q e).keep (Keep.of k (Nat.le_refl _)) (Nat.le_refl _)⟩
theorem Mem.drewN (h : Mem n w0 w L R) (k : Nat) : Mem n w0 (w.drewN k) L R := h.keep (belowN (Below.refl _ _) k)
theorem Mem.drew (h : Mem n w0 w L R) : Mem n w0 w.drew L R := h.keep (Below.refl _ _).drew
theorem getElem?_snoc {α : Type} {l : List α} {a b : α} {i : Nat} (h : (l ++ [a])[i]? = some b) : l[i]? = some b ∨ (i = l.length ∧ b = a) := by
  by_cases hi : i < l.length
  · rw [List.getElem?_append_left hi] at h; exact Or.inl h
  · rw [List.getElem?_append_right (by omega)] at h
    have : i - l.length = 0 := by
      rcases Nat.eq_zero_or_pos (i - l.length) with e | e
      · exact e
      · rw [List.getElem?_eq_none (by simp; omega)] at h; cases h
    rw [this] at h
    simp at h
    exact Or.inr ⟨by omega, h.symm⟩
theorem Mem.alloc (h : Mem n w0 w L R) (o : Obj) : Mem n w0 (w.alloc o) (L ++ [(w.heap.size, o)]) R := by
  have k := h.keep ((Below.refl _ _).alloc (Nat.le_refl _) o)
  refine ⟨k.b, k.z, fun i g o' e => ?_, k.r⟩
  rcases getElem?_snoc e with e | ⟨_, e⟩
  · exact k.l i g o' e
  · cases e; exact alloc_new w o
theorem Mem.rat (h : Mem n w0 w L R) {lo : Nat} {A B : Option Addr} {q : Rat} (hl : n ≤ lo) (f : RatFresh lo w A B q) : Mem n w0 w L (R ++ [(A, B, q)]) := by
  refine ⟨h.b, h.z, h.l, fun i A' B' q' e => ?_⟩
  rcases getElem?_snoc e with e | ⟨_, e⟩
  · exact h.r i A' B' q' e
  · cases e; exact f.wide hl
theorem Mem.call (h : Mem n w0 w L R) {A B : Option Addr} {q : Rat} (f : RatFresh w.heap.size w' A B q) (k : Below w.heap.size w w') : Mem n w0 w' L (R ++ [(A, B, q)]) := (h.keep k).rat h.z f
theorem Mem.ins (h : Mem n w0 w L R) (i : Nat) {A B : Option Addr} {q : Rat} (e : R[i]? = some (A, B, q)) : RatIn n w.heap.size w A B q := (h.r i A B q e).ins
theorem Mem.arg (h : Mem n w0 w L R) {lo up : Nat} {A B : Option Addr} {q : Rat} (a : RatIn lo up w0 A B q) (hu : up ≤ n) : RatIn lo w.heap.size w A B q := (a.keep (Keep.of h.b hu)).wide (Nat.le_refl _) (Nat.le_trans hu h.z)
theorem Mem.qrow (h : Mem n w0 w L R) (i : Nat) {g : Nat} {A B : Option Addr} {q : Rat} (e : L[i]? = some (g, qo A B q)) :
    w.cell? ⟨g, 0, none⟩ = some (.bool (decide (q.num < 0))) ∧ w.cell? ⟨g, 1, none⟩ = some (.slice A (qn q).length (qn q).length) ∧ w.cell? ⟨g, 2, none⟩ = some (.slice B (qd q).length (qd q).length) ∧ w.frozen? ⟨g, 0, none⟩ = false ∧ w.frozen? ⟨g, 1, none⟩ = false ∧ w.frozen? ⟨g, 2, none⟩ = false := row3 (h.l i g _ e)
def po (p : Pt) : Obj := .cells #[.int .u64 p.1, .int .u64 p.2] 24 (0, 0)
theorem Mem.prow (h : Mem n w0 w L R) (i : Nat) {g : Nat} {p : Pt} (e : L[i]? = some (g, po p)) :
    w.cell? ⟨g, 0, none⟩ = some (.int .u64 p.1) ∧ w.cell? ⟨g, 1, none⟩ = some (.int .u64 p.2) ∧ w.frozen? ⟨g, 0, none⟩ = false ∧ w.frozen? ⟨g, 1, none⟩ = false := row2f (h.l i g _ e)
theorem Mem.lt (h : Mem n w0 w L R) (i : Nat) {g : Nat} {o : Obj} (e : L[i]? = some (g, o)) : g < w.heap.size := heap_lt (h.l i g o e)
theorem RatFresh.off3 {A B : Option Addr} {q : Rat} {g : Nat} {C : Array Value} {t : TypeId} {f : Nat × Nat} (h : RatFresh n w A B q) (row : w.heap[g]? = some (.cells C t f)) (ht : t ≠ 22) (x y z : Value) : RatFresh n (((w.setCell ⟨g, 0, none⟩ x).setCell ⟨g, 1, none⟩ y).setCell ⟨g, 2, none⟩ z) A B q :=
  h.off row ht (fun j hj => by rw [Below.heap_setCell _ _ _ _ hj, Below.heap_setCell _ _ _ _ hj, Below.heap_setCell _ _ _ _ hj])
theorem Mem.setOther (h : Mem n w0 w L R) (i : Nat) {g : Nat} {C : Array Value} {t : TypeId} {f : Nat × Nat} {o : Obj} {w2 : World} (e : L[i]? = some (g, .cells C t f)) (ht : t ≠ 22) (hn : n ≤ g)
    (hb : Below n w0 w2) (hz : w2.heap.size = w.heap.size) (hg : w2.heap[g]? = some o) (ho : ∀ j, j ≠ g → w2.heap[j]? = w.heap[j]?) (hd : ∀ (j : Nat) (o' : Obj), L[j]? = some (g, o') → j = i) : Mem n w0 w2 (L.set i (g, o)) R := by
  refine ⟨hb, by rw [hz]; exact h.z, fun j g' o' e' => ?_, fun j A B q e' => ?_⟩
  · by_cases hj : j = i
    · subst hj
      have hlt : j < L.length := (List.getElem?_eq_some_iff.1 e).1
      rw [List.getElem?_set_self hlt] at e'
      cases e'
      exact hg
    · rw [List.getElem?_set_ne (fun k => hj k.symm)] at e'
      by_cases hgg : g' = g
      · subst hgg; exact absurd (hd j o' e') hj
      · rw [ho g' hgg]; exact h.l j g' o' e'
  · exact (h.r j A B q e').off (h.l i g _ e) ht ho
theorem heap_three_other {g : Nat} {x y z : Value} (j : Nat) (h : j ≠ g) : (((w.setCell ⟨g, 0, none⟩ x).setCell ⟨g, 1, none⟩ y).setCell ⟨g, 2, none⟩ z).heap[j]? = w.heap[j]? := by
  rw [Below.heap_setCell _ _ _ _ h, Below.heap_setCell _ _ _ _ h, Below.heap_setCell _ _ _ _ h]
theorem setCell_size (w : World) (a : Addr) (v : Value) : (w.setCell a v).heap.size = w.heap.size := by unfold World.setCell; simp
theorem Mem.three (h : Mem n w0 w L R) (i : Nat) {g : Nat} {a b c : Value} {t : TypeId} (e : L[i]? = some (g, .cells #[a, b, c] t (0, 0))) (ht : t ≠ 22) (hn : n ≤ g) (hd : ∀ (j : Nat) (o' : Obj), L[j]? = some (g, o') → j = i) (x y z : Value) :
    Mem n w0 (((w.setCell ⟨g, 0, none⟩ x).setCell ⟨g, 1, none⟩ y).setCell ⟨g, 2, none⟩ z) (L.set i (g, .cells #[x, y, z] t (0, 0))) R :=
  h.setOther i e ht hn (((h.b.setCell hn _).setCell hn _).setCell hn _) (by rw [setCell_size, setCell_size, setCell_size]) (heap_set_three (h.l i g _ e) x y z) (fun j hj => heap_three_other j hj) hd
end
end Go.Proofs.YtggfppgjabembaaGreatDoor

namespace Go.Proofs.YtggfppgjabembaaGreatDoor
open Go.RowKit
set_option linter.unusedVariables false
theorem rw1 {w : World} {g : Nat} {x0 : Value} {t : TypeId} (h : w.heap[g]? = some (.cells #[x0] t (0, 0))) : w.cell? ⟨g, 0, none⟩ = some x0 ∧ w.frozen? ⟨g, 0, none⟩ = false :=
  ⟨(cell_of_cells h 0).trans rfl, free_of_cells h 0⟩
theorem rw2 {w : World} {g : Nat} {x0 x1 : Value} {t : TypeId} (h : w.heap[g]? = some (.cells #[x0, x1] t (0, 0))) : w.cell? ⟨g, 0, none⟩ = some x0 ∧ w.cell? ⟨g, 1, none⟩ = some x1 ∧ w.frozen? ⟨g, 0, none⟩ = false ∧ w.frozen? ⟨g, 1, none⟩ = false :=
  ⟨(cell_of_cells h 0).trans rfl, (cell_of_cells h 1).trans rfl, free_of_cells h 0, free_of_cells h 1⟩
theorem rw3 {w : World} {g : Nat} {x0 x1 x2 : Value} {t : TypeId} (h : w.heap[g]? = some (.cells #[x0, x1, x2] t (0, 0))) : w.cell? ⟨g, 0, none⟩ = some x0 ∧ w.cell? ⟨g, 1, none⟩ = some x1 ∧ w.cell? ⟨g, 2, none⟩ = some x2 ∧ w.frozen? ⟨g, 0, none⟩ = false ∧ w.frozen? ⟨g, 1, none⟩ = false ∧ w.frozen? ⟨g, 2, none⟩ = false :=
  ⟨(cell_of_cells h 0).trans rfl, (cell_of_cells h 1).trans rfl, (cell_of_cells h 2).trans rfl, free_of_cells h 0, free_of_cells h 1, free_of_cells h 2⟩
theorem rw4 {w : World} {g : Nat} {x0 x1 x2 x3 : Value} {t : TypeId} (h : w.heap[g]? = some (.cells #[x0, x1, x2, x3] t (0, 0))) : w.cell? ⟨g, 0, none⟩ = some x0 ∧ w.cell? ⟨g, 1, none⟩ = some x1 ∧ w.cell? ⟨g, 2, none⟩ = some x2 ∧ w.cell? ⟨g, 3, none⟩ = some x3 ∧ w.frozen? ⟨g, 0, none⟩ = false ∧ w.frozen? ⟨g, 1, none⟩ = false ∧ w.frozen? ⟨g, 2, none⟩ = false ∧ w.frozen? ⟨g, 3, none⟩ = false :=
  ⟨(cell_of_cells h 0).trans rfl, (cell_of_cells h 1).trans rfl, (cell_of_cells h 2).trans rfl, (cell_of_cells h 3).trans rfl, free_of_cells h 0, free_of_cells h 1, free_of_cells h 2, free_of_cells h 3⟩
theorem rw5 {w : World} {g : Nat} {x0 x1 x2 x3 x4 : Value} {t : TypeId} (h : w.heap[g]? = some (.cells #[x0, x1, x2, x3, x4] t (0, 0))) : w.cell? ⟨g, 0, none⟩ = some x0 ∧ w.cell? ⟨g, 1, none⟩ = some x1 ∧ w.cell? ⟨g, 2, none⟩ = some x2 ∧ w.cell? ⟨g, 3, none⟩ = some x3 ∧ w.cell? ⟨g, 4, none⟩ = some x4 ∧ w.frozen? ⟨g, 0, none⟩ = false ∧ w.frozen? ⟨g, 1, none⟩ = false ∧ w.frozen? ⟨g, 2, none⟩ = false ∧ w.frozen? ⟨g, 3, none⟩ = false ∧ w.frozen? ⟨g, 4, none⟩ = false :=
  ⟨(cell_of_cells h 0).trans rfl, (cell_of_cells h 1).trans rfl, (cell_of_cells h 2).trans rfl, (cell_of_cells h 3).trans rfl, (cell_of_cells h 4).trans rfl, free_of_cells h 0, free_of_cells h 1, free_of_cells h 2, free_of_cells h 3, free_of_cells h 4⟩
theorem rw6 {w : World} {g : Nat} {x0 x1 x2 x3 x4 x5 : Value} {t : TypeId} (h : w.heap[g]? = some (.cells #[x0, x1, x2, x3, x4, x5] t (0, 0))) : w.cell? ⟨g, 0, none⟩ = some x0 ∧ w.cell? ⟨g, 1, none⟩ = some x1 ∧ w.cell? ⟨g, 2, none⟩ = some x2 ∧ w.cell? ⟨g, 3, none⟩ = some x3 ∧ w.cell? ⟨g, 4, none⟩ = some x4 ∧ w.cell? ⟨g, 5, none⟩ = some x5 ∧ w.frozen? ⟨g, 0, none⟩ = false ∧ w.frozen? ⟨g, 1, none⟩ = false ∧ w.frozen? ⟨g, 2, none⟩ = false ∧ w.frozen? ⟨g, 3, none⟩ = false ∧ w.frozen? ⟨g, 4, none⟩ = false ∧ w.frozen? ⟨g, 5, none⟩ = false :=
  ⟨(cell_of_cells h 0).trans rfl, (cell_of_cells h 1).trans rfl, (cell_of_cells h 2).trans rfl, (cell_of_cells h 3).trans rfl, (cell_of_cells h 4).trans rfl, (cell_of_cells h 5).trans rfl, free_of_cells h 0, free_of_cells h 1, free_of_cells h 2, free_of_cells h 3, free_of_cells h 4, free_of_cells h 5⟩
theorem rw7 {w : World} {g : Nat} {x0 x1 x2 x3 x4 x5 x6 : Value} {t : TypeId} (h : w.heap[g]? = some (.cells #[x0, x1, x2, x3, x4, x5, x6] t (0, 0))) : w.cell? ⟨g, 0, none⟩ = some x0 ∧ w.cell? ⟨g, 1, none⟩ = some x1 ∧ w.cell? ⟨g, 2, none⟩ = some x2 ∧ w.cell? ⟨g, 3, none⟩ = some x3 ∧ w.cell? ⟨g, 4, none⟩ = some x4 ∧ w.cell? ⟨g, 5, none⟩ = some x5 ∧ w.cell? ⟨g, 6, none⟩ = some x6 ∧ w.frozen? ⟨g, 0, none⟩ = false ∧ w.frozen? ⟨g, 1, none⟩ = false ∧ w.frozen? ⟨g, 2, none⟩ = false ∧ w.frozen? ⟨g, 3, none⟩ = false ∧ w.frozen? ⟨g, 4, none⟩ = false ∧ w.frozen? ⟨g, 5, none⟩ = false ∧ w.frozen? ⟨g, 6, none⟩ = false :=
  ⟨(cell_of_cells h 0).trans rfl, (cell_of_cells h 1).trans rfl, (cell_of_cells h 2).trans rfl, (cell_of_cells h 3).trans rfl, (cell_of_cells h 4).trans rfl, (cell_of_cells h 5).trans rfl, (cell_of_cells h 6).trans rfl, free_of_cells h 0, free_of_cells h 1, free_of_cells h 2, free_of_cells h 3, free_of_cells h 4, free_of_cells h 5, free_of_cells h 6⟩
theorem rw8 {w : World} {g : Nat} {x0 x1 x2 x3 x4 x5 x6 x7 : Value} {t : TypeId} (h : w.heap[g]? = some (.cells #[x0, x1, x2, x3, x4, x5, x6, x7] t (0, 0))) : w.cell? ⟨g, 0, none⟩ = some x0 ∧ w.cell? ⟨g, 1, none⟩ = some x1 ∧ w.cell? ⟨g, 2, none⟩ = some x2 ∧ w.cell? ⟨g, 3, none⟩ = some x3 ∧ w.cell? ⟨g, 4, none⟩ = some x4 ∧ w.cell? ⟨g, 5, none⟩ = some x5 ∧ w.cell? ⟨g, 6, none⟩ = some x6 ∧ w.cell? ⟨g, 7, none⟩ = some x7 ∧ w.frozen? ⟨g, 0, none⟩ = false ∧ w.frozen? ⟨g, 1, none⟩ = false ∧ w.frozen? ⟨g, 2, none⟩ = false ∧ w.frozen? ⟨g, 3, none⟩ = false ∧ w.frozen? ⟨g, 4, none⟩ = false ∧ w.frozen? ⟨g, 5, none⟩ = false ∧ w.frozen? ⟨g, 6, none⟩ = false ∧ w.frozen? ⟨g, 7, none⟩ = false :=
  ⟨(cell_of_cells h 0).trans rfl, (cell_of_cells h 1).trans rfl, (cell_of_cells h 2).trans rfl, (cell_of_cells h 3).trans rfl, (cell_of_cells h 4).trans rfl, (cell_of_cells h 5).trans rfl, (cell_of_cells h 6).trans rfl, (cell_of_cells h 7).trans rfl, free_of_cells h 0, free_of_cells h 1, free_of_cells h 2, free_of_cells h 3, free_of_cells h 4, free_of_cells h 5, free_of_cells h 6, free_of_cells h 7⟩
theorem rw9 {w : World} {g : Nat} {x0 x1 x2 x3 x4 x5 x6 x7 x8 : Value} {t : TypeId} (h : w.heap[g]? = some (.cells #[x0, x1, x2, x3, x4, x5, x6, x7, x8] t (0, 0))) : w.cell? ⟨g, 0, none⟩ = some x0 ∧ w.cell? ⟨g, 1, none⟩ = some x1 ∧ w.cell? ⟨g, 2, none⟩ = some x2 ∧ w.cell? ⟨g, 3, none⟩ = some x3 ∧ w.cell? ⟨g, 4, none⟩ = some x4 ∧ w.cell? ⟨g, 5, none⟩ = some x5 ∧ w.cell? ⟨g, 6, none⟩ = some x6 ∧ w.cell? ⟨g, 7, none⟩ = some x7 ∧ w.cell? ⟨g, 8, none⟩ = some x8 ∧ w.frozen? ⟨g, 0, none⟩ = false ∧ w.frozen? ⟨g, 1, none⟩ = false ∧ w.frozen? ⟨g, 2, none⟩ = false ∧ w.frozen? ⟨g, 3, none⟩ = false ∧ w.frozen? ⟨g, 4, none⟩ = false ∧ w.frozen? ⟨g, 5, none⟩ = false ∧ w.frozen? ⟨g, 6, none⟩ = false ∧ w.frozen? ⟨g, 7, none⟩ = false ∧ w.frozen? ⟨g, 8, none⟩ = false :=
  ⟨(cell_of_cells h 0).trans rfl, (cell_of_cells h 1).trans rfl, (cell_of_cells h 2).trans rfl, (cell_of_cells h 3).trans rfl, (cell_of_cells h 4).trans rfl, (cell_of_cells h 5).trans rfl, (cell_of_cells h 6).trans rfl, (cell_of_cells h 7).trans rfl, (cell_of_cells h 8).trans rfl, free_of_cells h 0, free_of_cells h 1, free_of_cells h 2, free_of_cells h 3, free_of_cells h 4, free_of_cells h 5, free_of_cells h 6, free_of_cells h 7, free_of_cells h 8⟩
theorem rw10 {w : World} {g : Nat} {x0 x1 x2 x3 x4 x5 x6 x7 x8 x9 : Value} {t : TypeId} (h : w.heap[g]? = some (.cells #[x0, x1, x2, x3, x4, x5, x6, x7, x8, x9] t (0, 0))) : w.cell? ⟨g, 0, none⟩ = some x0 ∧ w.cell? ⟨g, 1, none⟩ = some x1 ∧ w.cell? ⟨g, 2, none⟩ = some x2 ∧ w.cell? ⟨g, 3, none⟩ = some x3 ∧ w.cell? ⟨g, 4, none⟩ = some x4 ∧ w.cell? ⟨g, 5, none⟩ = some x5 ∧ w.cell? ⟨g, 6, none⟩ = some x6 ∧ w.cell? ⟨g, 7, none⟩ = some x7 ∧ w.cell? ⟨g, 8, none⟩ = some x8 ∧ w.cell? ⟨g, 9, none⟩ = some x9 ∧ w.frozen? ⟨g, 0, none⟩ = false ∧ w.frozen? ⟨g, 1, none⟩ = false ∧ w.frozen? ⟨g, 2, none⟩ = false ∧ w.frozen? ⟨g, 3, none⟩ = false ∧ w.frozen? ⟨g, 4, none⟩ = false ∧ w.frozen? ⟨g, 5, none⟩ = false ∧ w.frozen? ⟨g, 6, none⟩ = false ∧ w.frozen? ⟨g, 7, none⟩ = false ∧ w.frozen? ⟨g, 8, none⟩ = false ∧ w.frozen? ⟨g, 9, none⟩ = false :=
  ⟨(cell_of_cells h 0).trans rfl, (cell_of_cells h 1).trans rfl, (cell_of_cells h 2).trans rfl, (cell_of_cells h 3).trans rfl, (cell_of_cells h 4).trans rfl, (cell_of_cells h 5).trans rfl, (cell_of_cells h 6).trans rfl, (cell_of_cells h 7).trans rfl, (cell_of_cells h 8).trans rfl, (cell_of_cells h 9).trans rfl, free_of_cells h 0, free_of_cells h 1, free_of_cells h 2, free_of_cells h 3, free_of_cells h 4, free_of_cells h 5, free_of_cells h 6, free_of_cells h 7, free_of_cells h 8, free_of_cells h 9⟩
theorem rw12 {w : World} {g : Nat} {x0 x1 x2 x3 x4 x5 x6 x7 x8 x9 x10 x11 : Value} {t : TypeId} (h : w.heap[g]? = some (.cells #[x0, x1, x2, x3, x4, x5, x6, x7, x8, x9, x10, x11] t (0, 0))) : w.cell? ⟨g, 0, none⟩ = some x0 ∧ w.cell? ⟨g, 1, none⟩ = some x1 ∧ w.cell? ⟨g, 2, none⟩ = some x2 ∧ w.cell? ⟨g, 3, none⟩ = some x3 ∧ w.cell? ⟨g, 4, none⟩ = some x4 ∧ w.cell? ⟨g, 5, none⟩ = some x5 ∧ w.cell? ⟨g, 6, none⟩ = some x6 ∧ w.cell? ⟨g, 7, none⟩ = some x7 ∧ w.cell? ⟨g, 8, none⟩ = some x8 ∧ w.cell? ⟨g, 9, none⟩ = some x9 ∧ w.cell? ⟨g, 10, none⟩ = some x10 ∧ w.cell? ⟨g, 11, none⟩ = some x11 ∧ w.frozen? ⟨g, 0, none⟩ = false ∧ w.frozen? ⟨g, 1, none⟩ = false ∧ w.frozen? ⟨g, 2, none⟩ = false ∧ w.frozen? ⟨g, 3, none⟩ = false ∧ w.frozen? ⟨g, 4, none⟩ = false ∧ w.frozen? ⟨g, 5, none⟩ = false ∧ w.frozen? ⟨g, 6, none⟩ = false ∧ w.frozen? ⟨g, 7, none⟩ = false ∧ w.frozen? ⟨g, 8, none⟩ = false ∧ w.frozen? ⟨g, 9, none⟩ = false ∧ w.frozen? ⟨g, 10, none⟩ = false ∧ w.frozen? ⟨g, 11, none⟩ = false :=
  ⟨(cell_of_cells h 0).trans rfl, (cell_of_cells h 1).trans rfl, (cell_of_cells h 2).trans rfl, (cell_of_cells h 3).trans rfl, (cell_of_cells h 4).trans rfl, (cell_of_cells h 5).trans rfl, (cell_of_cells h 6).trans rfl, (cell_of_cells h 7).trans rfl, (cell_of_cells h 8).trans rfl, (cell_of_cells h 9).trans rfl, (cell_of_cells h 10).trans rfl, (cell_of_cells h 11).trans rfl, free_of_cells h 0, free_of_cells h 1, free_of_cells h 2, free_of_cells h 3, free_of_cells h 4, free_of_cells h 5, free_of_cells h 6, free_of_cells h 7, free_of_cells h 8, free_of_cells h 9, free_of_cells h 10, free_of_cells h 11⟩
theorem results_rows2 {P : Program} {fn : Func} {p p' u : Tmp} {ty ty' : TypeId} (h : fn.results = #[.cell p ty, .cell p' ty', .tmp u]) (tmps : Array Value) (w : World) (g g' : Nat) (t : TypeId) (cs : Array Value) (fr : Nat × Nat) (d : TypeDesc) (t' : TypeId) (cs' : Array Value) (fr' : Nat × Nat) (d' : TypeDesc)
    (hp : tmps.getD p undef = .pointer (some ⟨g, 0, none⟩)) (hp' : tmps.getD p' undef = .pointer (some ⟨g', 0, none⟩)) (hg : w.heap[g]? = some (.cells cs t fr)) (hg' : w.heap[g']? = some (.cells cs' t' fr'))
    (hu : P.underlying ty = some d) (hd : (match d with | .struct _ | .array _ _ => true | _ => false) = true) (hi : (P.info? ty).map (·.size) = some cs.size)
    (hu' : P.underlying ty' = some d') (hd' : (match d' with | .struct _ | .array _ _ => true | _ => false) = true) (hi' : (P.info? ty').map (·.size) = some cs'.size) :
    (results fn tmps).run P w = .ok (.tuple #[.agg cs, .agg cs', tmps.getD u undef]) w := by
  have h1 : tmps[p]?.getD undef = .pointer (some ⟨g, 0, none⟩) := by simpa using hp
  have h2 : tmps[p']?.getD undef = .pointer (some ⟨g', 0, none⟩) := by simpa using hp'
  simp [results, h, h1, h2, asAddr, run_loadVar_row w g t ty cs fr d hg hu hd hi, run_loadVar_row w g' t' ty' cs' fr' d' hg' hu' hd' hi']
section
open Go.Proofs.YtggfppgjabembaaGreatDoorW.PrintLast
theorem nx {P : Program} {ops : Array Oper} {Q : Exit → Act → World → Prop} {md : Region.Mode} {S : World → Prop} {ds : List Nat} {a' : Act} {fuel : Nat} {l : Array Bool} {a : Act} {w : World} (h : wpAnyLast P md ops Q S ds fuel l a' w)
    (ha : a = a' := by simp only [putAll, pA, pB, pC, pD, qv, pv, pt, st]; rfl) : wpAnyLast P md ops Q S ds fuel l a w := norm_ ha h
end
def zR : Obj := .cells #[.bool false, .slice none 0 0, .slice none 0 0] 45 (0, 0)
def zV : Obj := .cells #[.bool false, .slice none 0 0, .slice none 0 0, .bool false, .slice none 0 0, .slice none 0 0] 89 (0, 0)
def zS : Obj := .cells #[.int .u64 0, .int .u64 0, .int .u64 0, .int .u64 0] 80 (0, 0)
def zP : Obj := .cells #[.int .u64 0, .int .u64 0] 77 (0, 0)
structure Bx (n : Nat) (w0 w : World) (L : List (Nat × Obj)) (R : List (Option Addr × Option Addr × Rat)) : Prop where
  m : Mem n w0 w L R
  g : ∀ (i g : Nat) (o : Obj), L[i]? = some (g, o) → n ≤ g
  d : ∀ (i j g : Nat) (o o' : Obj), L[i]? = some (g, o) → L[j]? = some (g, o') → i = j
def puts (g : Nat) : List (Nat × Value) → World → World
  | [], w => w
  | (k, v) :: r, w => puts g r (w.setCell ⟨g, k, none⟩ v)
def putsC : List (Nat × Value) → Array Value → Array Value
  | [], C => C
  | (k, v) :: r, C => putsC r (C.setIfInBounds k v)
theorem puts_size (g : Nat) : ∀ (vs : List (Nat × Value)) (w : World), (puts g vs w).heap.size = w.heap.size
  | [], w => rfl
  | (k, v) :: r, w => (puts_size g r _).trans (setCell_size _ _ _)
theorem puts_other {g j : Nat} (h : j ≠ g) : ∀ (vs : List (Nat × Value)) (w : World), (puts g vs w).heap[j]? = w.heap[j]?
  | [], w => rfl
  | (k, v) :: r, w => (puts_other h r _).trans (Below.heap_setCell _ _ _ _ h)
theorem puts_at {g : Nat} {t : TypeId} {f : Nat × Nat} : ∀ (vs : List (Nat × Value)) (w : World) (C : Array Value), w.heap[g]? = some (.cells C t f) → (puts g vs w).heap[g]? = some (.cells (putsC vs C) t f)
  | [], w, C, h => h
  | (k, v) :: r, w, C, h => puts_at r _ _ (heap_set_cell h k v)
theorem puts_below {n g : Nat} {w0 : World} (hn : n ≤ g) : ∀ (vs : List (Nat × Value)) (w : World), Below n w0 w → Below n w0 (puts g vs w)
  | [], w, h => h
  | (k, v) :: r, w, h => puts_below hn r _ (h.setCell hn _)
section
variable {n : Nat} {w0 w w' : World} {L L' : List (Nat × Obj)} {R R' : List (Option Addr × Option Addr × Rat)}
theorem Bx.start (w : World) : Bx w.heap.size w w [] [] := ⟨Mem.start w, fun i g o h => by simp at h, fun i j g o o' h => by simp at h⟩
theorem Bx.keep (h : Bx n w0 w L R) (k : Below w.heap.size w w') : Bx n w0 w' L R := ⟨h.m.keep k, h.g, h.d⟩
theorem Bx.drew (h : Bx n w0 w L R) : Bx n w0 w.drew L R := ⟨h.m.drew, h.g, h.d⟩
theorem Bx.alloc (h : Bx n w0 w L R) (o : Obj) : Bx n w0 (w.alloc o) (L ++ [(w.heap.size, o)]) R := by
  refine ⟨h.m.alloc o, fun i g o' e => ?_, fun i j g o1 o2 e1 e2 => ?_⟩
  · rcases getElem?_snoc e with e | ⟨_, e⟩
    · exact h.g i g o' e
    · cases e; exact h.m.z
  · rcases getElem?_snoc e1 with e1 | ⟨i1, e1⟩ <;> rcases getElem?_snoc e2 with e2 | ⟨i2, e2⟩
    · exact h.d i j g o1 o2 e1 e2
    · cases e2; exact absurd (heap_lt (h.m.l i _ o1 e1)) (Nat.lt_irrefl _)
    · cases e1; exact absurd (heap_lt (h.m.l j _ o2 e2)) (Nat.lt_irrefl _)
    · rw [i1, i2]
theorem Bx.rat (h : Bx n w0 w L R) {lo : Nat} {A B : Option Addr} {q : Rat} (hl : n ≤ lo) (f : RatFresh lo w A B q) : Bx n w0 w L (R ++ [(A, B, q)]) := ⟨h.m.rat hl f, h.g, h.d⟩
theorem Bx.call (h : Bx n w0 w L R) {A B : Option Addr} {q : Rat} (f : RatFresh w.heap.size w' A B q) (k : Below w.heap.size w w') : Bx n w0 w' L (R ++ [(A, B, q)]) := (h.keep k).rat h.m.z f
theorem Bx.call2 (h : Bx n w0 w L R) {A B C D : Option Addr} {x : Pl} (f : PlFresh w.heap.size w' A B C D x) (k : Below w.heap.size w w') : Bx n w0 w' L ((R ++ [(A, B, x.1)]) ++ [(C, D, x.2)]) := ((h.keep k).rat h.m.z f.h1).rat h.m.z f.h2
theorem Bx.call3 (h : Bx n w0 w L R) {A B C D : Option Addr} {x y : Rat} (f : RatFresh w.heap.size w' A B x) (f' : RatFresh w.heap.size w' C D y) (k : Below w.heap.size w w') : Bx n w0 w' L ((R ++ [(A, B, x)]) ++ [(C, D, y)]) := ((h.keep k).rat h.m.z f).rat h.m.z f'
theorem Bx.ins (h : Bx n w0 w L R) (i : Nat) {A B : Option Addr} {q : Rat} (e : R[i]? = some (A, B, q)) : RatIn 0 w.heap.size w A B q := (h.m.ins i e).wide (Nat.zero_le _) (Nat.le_refl _)
theorem Bx.arg (h : Bx n w0 w L R) {lo up : Nat} {A B : Option Addr} {q : Rat} (a : RatIn lo up w0 A B q) (hu : up ≤ n) : RatIn 0 w.heap.size w A B q := (h.m.arg a hu).wide (Nat.zero_le _) (Nat.le_refl _)
theorem Bx.fresh (h : Bx n w0 w L R) (i : Nat) {A B : Option Addr} {q : Rat} (e : R[i]? = some (A, B, q)) : RatFresh n w A B q := h.m.r i A B q e
theorem Bx.at (h : Bx n w0 w L R) (i : Nat) {g : Nat} {o : Obj} (e : L[i]? = some (g, o)) : w.heap[g]? = some o := h.m.l i g o e
theorem Bx.lt (h : Bx n w0 w L R) (i : Nat) {g : Nat} {o : Obj} (e : L[i]? = some (g, o)) : g < w.heap.size := heap_lt (h.m.l i g o e)
theorem Bx.ne (h : Bx n w0 w L R) (i j : Nat) {g g' : Nat} {o o' : Obj} (e : L[i]? = some (g, o)) (e' : L[j]? = some (g', o')) (hij : i ≠ j) : g ≠ g' := by
  rintro rfl; exact hij (h.d i j _ o o' e e')
theorem Bx.puts (h : Bx n w0 w L R) (i : Nat) {g : Nat} {C : Array Value} {t : TypeId} (e : L[i]? = some (g, .cells C t (0, 0))) (ht : t ≠ 22) (vs : List (Nat × Value)) :
    Bx n w0 (puts g vs w) (L.set i (g, .cells (putsC vs C) t (0, 0))) R := by
  refine ⟨h.m.setOther i e ht (h.g i g _ e) (puts_below (h.g i g _ e) vs w h.m.b) (puts_size g vs w) (puts_at vs w C (h.m.l i g _ e)) (fun j hj => puts_other hj vs w) (fun j o' e' => (h.d i j g _ _ e e').symm), fun j g' o' e' => ?_, fun j k g' o1 o2 e1 e2 => ?_⟩
  · by_cases hj : j = i
    · subst hj
      rw [List.getElem?_set_self (List.getElem?_eq_some_iff.1 e).1] at e'
      cases e'; exact h.g j g _ e
    · rw [List.getElem?_set_ne (fun k => hj k.symm)] at e'; exact h.g j g' o' e'
  · have key : ∀ (j g' : Nat) (o1 : Obj), (L.set i (g, Obj.cells (putsC vs C) t (0, 0)))[j]? = some (g', o1) → ∃ o2, L[j]? = some (g', o2) := by
      intro j g' o1 e1
      by_cases hj : j = i
      · subst hj
        rw [List.getElem?_set_self (List.getElem?_eq_some_iff.1 e).1] at e1
        cases e1; exact ⟨_, e⟩
      · rw [List.getElem?_set_ne (fun k => hj k.symm)] at e1; exact ⟨_, e1⟩
    obtain ⟨_, f1⟩ := key j g' o1 e1
    obtain ⟨_, f2⟩ := key k g' o2 e2
    exact h.d j k g' _ _ f1 f2
theorem getElem?_app {α : Type} {l l' : List α} {i : Nat} {a : α} (h : (l ++ l')[i]? = some a) : (i < l.length ∧ l[i]? = some a) ∨ (l.length ≤ i ∧ l'[i - l.length]? = some a) := by
  by_cases hi : i < l.length
  · left; exact ⟨hi, by rw [List.getElem?_append_left hi] at h; exact h⟩
  · right; exact ⟨by omega, by rw [List.getElem?_append_right (by omega)] at h; exact h⟩
theorem Bx.join (h : Bx n w0 w L R) (k : Bx w.heap.size w w' L' R') : Bx n w0 w' (L ++ L') (R ++ R') := by
  have hk := h.m.keep k.m.b
  refine ⟨⟨hk.b, hk.z, fun i g o e => ?_, fun i A B q e => ?_⟩, fun i g o e => ?_, fun i j g o o' e1 e2 => ?_⟩
  · rcases getElem?_app e with ⟨_, e⟩ | ⟨_, e⟩
    · exact hk.l i g o e
    · exact k.m.l _ g o e
  · rcases getElem?_app e with ⟨_, e⟩ | ⟨_, e⟩
    · exact hk.r i A B q e
    · exact (k.m.r _ A B q e).wide h.m.z
  · rcases getElem?_app e with ⟨_, e⟩ | ⟨_, e⟩
    · exact h.g i g o e
    · exact Nat.le_trans h.m.z (k.g _ g o e)
  · rcases getElem?_app e1 with ⟨_, e1⟩ | ⟨i1, e1⟩ <;> rcases getElem?_app e2 with ⟨_, e2⟩ | ⟨i2, e2⟩
    · exact h.d i j g o o' e1 e2
    · exact absurd (heap_lt (h.m.l i g o e1)) (Nat.not_lt.2 (k.g _ g o' e2))
    · exact absurd (heap_lt (h.m.l j g o' e2)) (Nat.not_lt.2 (k.g _ g o e1))
    · have := k.d _ _ g o o' e1 e2; omega
theorem Bx.pre (h : Bx n w0 w L' R') (hL : L <+: L') (hR : R <+: R') : Bx n w0 w L R := by
  have key : ∀ {α : Type} {l l' : List α} (i : Nat) (x : α), l <+: l' → l[i]? = some x → l'[i]? = some x := by
    rintro α l l' i x ⟨t, rfl⟩ e
    rw [List.getElem?_append_left (List.getElem?_eq_some_iff.1 e).1]; exact e
  exact ⟨⟨h.m.b, h.m.z, fun i g o e => h.m.l i g o (key i _ hL e), fun i A B q e => h.m.r i A B q (key i _ hR e)⟩, fun i g o e => h.g i g o (key i _ hL e), fun i j g o o' e e' => h.d i j g o o' (key i _ hL e) (key j _ hL e')⟩
theorem Bx.pack (h : Bx n w0 w L R) : ∃ Rel : World → Prop, Rel w ∧ (∀ w', Rel w' → Bx n w0 w' L R) ∧ (∀ w', Bx n w0 w' L R → Rel w') := ⟨fun w' => Bx n w0 w' L R, h, fun _ h => h, fun _ h => h⟩
theorem Bx.sel (h : Bx n w0 w L R) (f : Nat → Nat) (hL : ∀ (i : Nat) (x : Nat × Obj), L'[i]? = some x → L[f i]? = some x) (hf : ∀ i j, i < L'.length → j < L'.length → f i = f j → i = j)
    (hR : ∀ x, x ∈ R' → x ∈ R) : Bx n w0 w L' R' := by
  refine ⟨⟨h.m.b, h.m.z, fun i g o e => h.m.l (f i) g o (hL i _ e), fun i A B q e => ?_⟩, fun i g o e => h.g (f i) g o (hL i _ e), fun i j g o o' e1 e2 => ?_⟩
  · obtain ⟨j, hj⟩ := List.getElem?_of_mem (hR _ (List.mem_of_getElem? e))
    exact h.m.r j A B q hj
  · exact hf i j (List.getElem?_eq_some_iff.1 e1).1 (List.getElem?_eq_some_iff.1 e2).1 (h.d (f i) (f j) g o o' (hL i _ e1) (hL j _ e2))
end
end Go.Proofs.YtggfppgjabembaaGreatDoor

namespace Go.Proofs.YtggfppgjabembaaGreatDoor
open Go.RowKit
set_option linter.unusedVariables false
set_option linter.unusedSimpArgs false
def rk (b : Int) : Int := if 9223372036854775808 ≤ b then -(b - 9223372036854775808) else b
def mag (b : Int) : Int := fm b * 2 ^ (fx b + 1074).toNat
def smag (b : Int) : Int := if fneg b then -mag b else mag b
theorem mag_parts (b : Int) : mag b = if fe b = 0 then ff b else (4503599627370496 + ff b) * 2 ^ (fe b - 1).toNat := by
  unfold mag fm fx
  split
  · rw [show ((-1074 : Int) + 1074).toNat = 0 from rfl, Int.pow_zero, Int.mul_one]
  · rw [show fe b - 1075 + 1074 = fe b - 1 by omega]
theorem mag_lt {a b : Int} (h : fe a < fe b ∨ (fe a = fe b ∧ ff a < ff b)) : mag a < mag b := by
  rw [mag_parts, mag_parts]
  have fa := ff_range a
  have fb := ff_range b
  have ea := fe_range a
  have eb := fe_range b
  rcases h with h | ⟨h1, h2⟩
  · rw [if_neg (by omega : ¬ fe b = 0)]
    have q : (1 : Int) ≤ 2 ^ (fe b - 1).toNat := Int.pow_pos (by decide)
    have hb : 4503599627370496 * 2 ^ (fe b - 1).toNat ≤ (4503599627370496 + ff b) * 2 ^ (fe b - 1).toNat := Int.mul_le_mul_of_nonneg_right (by omega) (by omega)
    split
    · generalize (2 : Int) ^ (fe b - 1).toNat = Q at *
      omega
    · obtain ⟨k, hk⟩ : ∃ k : Nat, (fe b - 1).toNat = (fe a - 1).toNat + 1 + k := ⟨(fe b - 1).toNat - ((fe a - 1).toNat + 1), by omega⟩
      refine Int.lt_of_lt_of_le ?_ hb
      rw [hk, Int.pow_add, Int.pow_succ]
      have hP : (0 : Int) < 2 ^ (fe a - 1).toNat := Int.pow_pos (by decide)
      have hR : (1 : Int) ≤ 2 ^ k := Int.pow_pos (by decide)
      generalize (2 : Int) ^ (fe a - 1).toNat = X at *
      generalize (2 : Int) ^ k = R at *
      have h1 : (4503599627370496 + ff a) * X < 9007199254740992 * X := Int.mul_lt_mul_of_pos_right (by omega) hP
      have h2 : X * 2 * 1 ≤ X * 2 * R := Int.mul_le_mul_of_nonneg_left hR (by omega)
      generalize (4503599627370496 + ff a) * X = U at *
      generalize X * 2 * R = V at *
      omega
  · rw [h1]
    split
    · exact h2
    · exact Int.mul_lt_mul_of_pos_right (by omega) (Int.pow_pos (by decide))
theorem mag_nonneg (b : Int) : 0 ≤ mag b := Int.mul_nonneg (fm_range b).1 (Int.le_of_lt (Int.pow_pos (by decide)))
theorem fe_zero : fe 0 = 0 ∧ ff 0 = 0 := by decide
theorem mag_zero : mag 0 = 0 := by rw [mag_parts]; decide
theorem smag_rk {a b : Int} (ha : Fin64 a) (hb : Fin64 b) : (rk a < rk b → smag a < smag b) ∧ (rk a = rk b → smag a = smag b) := by
  have key : ∀ x y : Int, 0 ≤ x → 0 ≤ y → x % 9223372036854775808 < y % 9223372036854775808 → mag x < mag y := fun x y h0 h1 h => by
    apply mag_lt
    unfold fe ff
    omega
  have key0 : ∀ x y : Int, 0 ≤ x → 0 ≤ y → x % 9223372036854775808 = y % 9223372036854775808 → mag x = mag y := fun x y h0 h1 h => by
    rw [mag_parts, mag_parts]
    have e1 : fe x = fe y := by unfold fe; omega
    have e2 : ff x = ff y := by unfold ff; omega
    rw [e1, e2]
  have na := mag_nonneg a
  have nb := mag_nonneg b
  have z : ∀ x : Int, 0 ≤ x → x % 9223372036854775808 ≠ 0 → 0 < mag x := fun x h0 h => by
    have := key 0 x (by decide) h0 (by omega)
    rw [mag_zero] at this
    exact this
  have z0 : ∀ x : Int, 0 ≤ x → x % 9223372036854775808 = 0 → mag x = 0 := fun x h0 h => by
    rw [key0 x 0 h0 (by decide) (by omega), mag_zero]
  have a0 := ha.1
  have a1 := ha.2.1
  have b0 := hb.1
  have b1 := hb.2.1
  have k1 := key a b a0 b0
  have k2 := key b a b0 a0
  have k3 := key0 a b a0 b0
  have k4 := z a a0
  have k5 := z b b0
  have k6 := z0 a a0
  have k7 := z0 b b0
  clear key key0 z z0 ha hb
  unfold smag
  generalize mag a = A at *
  generalize mag b = B at *
  constructor
  · intro h
    by_cases pa : 9223372036854775808 ≤ a <;> by_cases pb : 9223372036854775808 ≤ b <;> simp only [rk, fneg, pa, pb, if_true, if_false, decide_true, decide_false, Bool.false_eq_true] at h ⊢ <;> omega
  · intro h
    by_cases pa : 9223372036854775808 ≤ a <;> by_cases pb : 9223372036854775808 ≤ b <;> simp only [rk, fneg, pa, pb, if_true, if_false, decide_true, decide_false, Bool.false_eq_true] at h ⊢ <;> omega
theorem fval_smag {b : Int} (h : Fin64 b) (D : Nat) (hD : (D : Int) = 2 ^ 1074) : fval b = mkRat (smag b) D := by
  have hD0 : D ≠ 0 := by
    intro e
    rw [e] at hD
    have : (0 : Int) < 2 ^ 1074 := Int.pow_pos (by decide)
    omega
  have pb := fden_pos b
  have rb := fnum_fden b h
  unfold fval quo smag mag
  rw [Rat.mkRat_eq_iff (by omega) hD0, hD, Int.toNat_of_nonneg (by omega)]
  split <;> simp only [Int.neg_mul, rb]
theorem mkRat_lt {s t : Int} {D : Nat} (hD : D ≠ 0) (h : s < t) : mkRat s D < mkRat t D := by
  rw [Rat.mkRat_eq_div, Rat.mkRat_eq_div]
  have hd : (0 : Rat) < (D : Rat) := by exact_mod_cast Nat.pos_of_ne_zero hD
  have h1 : (s : Rat) / (D : Rat) * (D : Rat) = s := Rat.div_mul_cancel (by grind)
  have h2 : (t : Rat) / (D : Rat) * (D : Rat) = t := Rat.div_mul_cancel (by grind)
  have hst : (s : Rat) < (t : Rat) := by exact_mod_cast h
  refine Classical.byContradiction fun hn => ?_
  have := Rat.mul_nonneg (show 0 ≤ (s : Rat) / (D : Rat) - (t : Rat) / (D : Rat) by grind) (Rat.le_of_lt hd)
  grind
theorem pow_nat (n : Nat) : ∃ D : Nat, (D : Int) = 2 ^ n := ⟨2 ^ n, by exact_mod_cast rfl⟩
theorem RT {a b : Int} (h : a = b) : Ending.returned (.tuple #[.int .i64 a, .int .i64 0]) = .returned (.tuple #[.int .i64 b, .int .i64 0]) := by rw [h]
theorem rk_lt {a b : Int} (ha : Fin64 a) (hb : Fin64 b) (h : rk a < rk b) : fval a < fval b := by
  obtain ⟨D, hD⟩ := pow_nat 1074
  rw [fval_smag ha D hD, fval_smag hb D hD]
  refine mkRat_lt (fun e => ?_) ((smag_rk ha hb).1 h)
  rw [e] at hD
  have : (0 : Int) < 2 ^ 1074 := Int.pow_pos (by decide)
  omega
theorem rk_eq {a b : Int} (ha : Fin64 a) (hb : Fin64 b) (h : rk a = rk b) : fval a = fval b := by
  obtain ⟨D, hD⟩ := pow_nat 1074
  rw [fval_smag ha D hD, fval_smag hb D hD, (smag_rk ha hb).2 h]
set_option maxRecDepth 100000 in
theorem fFinite (b : Int) (w : World) (h : Fin64 b) : Calls Tryz.prog 138 #[.int .u64 b] w fun e w' => e = .returned (.bool true) ∧ w = w' := by
  have HC := Lib.hid (fClass b w h.1 h.2.1)
  have hc := fcl_fin h
  generalize fcl b = c at *
  have h3 : ¬ c = 3 := by omega
  have h4 : ¬ c = 4 := by omega
  have h3b : (c == 3) = false := beq_eq_false_iff_ne.2 h3
  have h4b : (c == 4) = false := beq_eq_false_iff_ne.2 h4
  clear hc h3 h4
  go_enter Tryz.func138, Tryz.ntmps138
  ((try dsimp only); repeat (first | go_values | go_skip | go_guarded | go_step | go_upon))
  refine HC.out.mono ?_
  rintro e w1 ⟨rfl, rfl⟩
  go_wp2_with (fail)
  all_goals first | (go_ret; exact ⟨rfl, rfl⟩) | skip
theorem nat_low63 (a : Nat) (h : a < 2 ^ 64) : a &&& (2 ^ 64 - 1 - 2 ^ 63) = a % 2 ^ 63 := by
  rw [show (2 ^ 64 - 1 - 2 ^ 63 : Nat) = 2 ^ 63 - 1 from rfl, Nat.and_two_pow_sub_one_eq_mod]
theorem andNot63 {b : Int} (h0 : 0 ≤ b) (h1 : b ≤ 18446744073709551615) : bits .andNot .u64 b 9223372036854775808 = b % 9223372036854775808 := by
  obtain ⟨a, rfl⟩ := Int.eq_ofNat_of_zero_le h0
  rw [u64_andNot _ _ h0 (by omega) (by decide) (by decide)]
  have := nat_low63 a (by omega)
  rw [Int.toNat_natCast, show ((9223372036854775808 : Int)).toNat = 2 ^ 63 from rfl, show (18446744073709551615 - 2 ^ 63 : Nat) = 2 ^ 64 - 1 - 2 ^ 63 from rfl, this]
  omega
set_option maxRecDepth 100000 in
theorem fRank (b : Int) (w : World) (h : Fin64 b) : Calls Tryz.prog 137 #[.int .u64 b] w fun e w' => e = .returned (.tuple #[.int .i64 (rk b), .int .i64 0]) ∧ w = w' := by
  have HF := Lib.hid (fFinite b w h)
  have ht := top_neg h.1 h.2.1
  have ha := andNot63 h.1 h.2.1
  have h0 := h.1
  have h1 := h.2.1
  by_cases hn : 9223372036854775808 ≤ b
  · have HR : Hid (rk b = -(b - 9223372036854775808)) := Lib.hid (if_pos hn)
    have hfn : fneg b = true := decide_eq_true hn
    rw [hfn] at ht
    go_enter Tryz.func137, Tryz.ntmps137
    ((try dsimp only); repeat (first | go_values | go_skip | go_guarded | go_step | go_upon))
    refine HF.out.mono ?_
    rintro e w1 ⟨rfl, rfl⟩
    ((try dsimp only); repeat (first | go_values | go_skip | go_guarded | go_step | go_upon))
    go_ret2
    exact ⟨RT (by rw [HR.out]; omega), rfl⟩
  · have HR : Hid (rk b = b) := Lib.hid (if_neg hn)
    have hfn : fneg b = false := decide_eq_false hn
    rw [hfn] at ht
    go_enter Tryz.func137, Tryz.ntmps137
    ((try dsimp only); repeat (first | go_values | go_skip | go_guarded | go_step | go_upon))
    refine HF.out.mono ?_
    rintro e w1 ⟨rfl, rfl⟩
    ((try dsimp only); repeat (first | go_values | go_skip | go_guarded | go_step | go_upon))
    go_ret2
    exact ⟨RT (by rw [HR.out]; omega), rfl⟩
set_option maxRecDepth 100000 in
theorem fCmp (a b : Int) (w : World) (ha : Fin64 a) (hb : Fin64 b) : Calls Tryz.prog 124 #[.int .u64 a, .int .u64 b] w fun e w' => e = .returned (.tuple #[.int .i64 (qcmp (fval a) (fval b)), .int .i64 0]) ∧ w = w' := by
  have H1 := Lib.hid (fRank a w ha)
  have H2 := Lib.hid (fRank b w hb)
  have hl := rk_lt ha hb
  have hg := rk_lt hb ha
  have he := rk_eq ha hb
  have hq : (rk a < rk b ∧ qcmp (fval a) (fval b) = -1) ∨ (rk a = rk b ∧ qcmp (fval a) (fval b) = 0) ∨ (rk b < rk a ∧ qcmp (fval a) (fval b) = 1) := by
    rcases Int.lt_trichotomy (rk a) (rk b) with h | h | h
    · exact Or.inl ⟨h, qcmp_lt.2 (hl h)⟩
    · exact Or.inr (Or.inl ⟨h, qcmp_eq.2 (he h)⟩)
    · exact Or.inr (Or.inr ⟨h, qcmp_gt.2 (hg h)⟩)
  clear hl hg he
  generalize rk a = r at *
  generalize rk b = s at *
  generalize qcmp (fval a) (fval b) = q at *
  go_enter Tryz.func124, Tryz.ntmps124
  ((try dsimp only); repeat (first | go_values | go_skip | go_guarded | go_step | go_upon))
  refine H1.out.mono ?_
  rintro e w1 ⟨rfl, rfl⟩
  ((try dsimp only); repeat (first | go_values | go_skip | go_guarded | go_step | go_upon))
  refine H2.out.mono ?_
  rintro e w1 ⟨rfl, rfl⟩
  rcases hq with ⟨h, rfl⟩ | ⟨h, rfl⟩ | ⟨h, rfl⟩
  · ((try dsimp only); repeat (first | go_values | go_skip | go_guarded | go_step | go_upon))
    go_ret2
    exact ⟨rfl, rfl⟩
  · have h1 : ¬ r < s := by omega
    have h2 : ¬ s < r := by omega
    ((try dsimp only); repeat (first | go_values | go_skip | go_guarded | go_step | go_upon))
    go_ret2
    exact ⟨rfl, rfl⟩
  · have h1 : ¬ r < s := by omega
    ((try dsimp only); repeat (first | go_values | go_skip | go_guarded | go_step | go_upon))
    go_ret2
    exact ⟨rfl, rfl⟩
end Go.Proofs.YtggfppgjabembaaGreatDoor

namespace Go.Proofs.YtggfppgjabembaaGreatDoor
open Go.RowKit Go.Proofs.YtggfppgjabembaaGreatDoorW.PrintLast
set_option linter.unusedVariables false
set_option linter.unusedSimpArgs false
def outB (a b c d : Rat) : Bool := decide (qcmp a c < 0 ∧ qcmp a d < 0 ∧ qcmp b c < 0 ∧ qcmp b d < 0) || decide (0 < qcmp a c ∧ 0 < qcmp a d ∧ 0 < qcmp b c ∧ 0 < qcmp b d)
def mx (x y : Int) : Int := if y > x then y else x
def mn (x y : Int) : Int := if y < x then y else x
theorem run_max4 {P : Program} (ts : Array TypeId) (t : TypeId) (p q r s : Int) (w : World) : (Builtin.max_ ts t #[.int .i64 p, .int .i64 q, .int .i64 r, .int .i64 s]).run P w = .ok (.int .i64 (mx (mx (mx p q) r) s)) w := rfl
theorem run_min4 {P : Program} (ts : Array TypeId) (t : TypeId) (p q r s : Int) (w : World) : (Builtin.min_ ts t #[.int .i64 p, .int .i64 q, .int .i64 r, .int .i64 s]).run P w = .ok (.int .i64 (mn (mn (mn p q) r) s)) w := rfl
theorem mx_lt {x y : Int} : mx x y < 0 ↔ x < 0 ∧ y < 0 := by unfold mx; split <;> omega
theorem mn_gt {x y : Int} : 0 < mn x y ↔ 0 < x ∧ 0 < y := by unfold mn; split <;> omega
set_option maxRecDepth 100000 in
set_option maxHeartbeats 1600000 in
theorem sOutside (a b c d : Int) (w : World) (fa : Fin64 a) (fb : Fin64 b) (fc : Fin64 c) (fd : Fin64 d) :
    Calls Tryz.prog 109 #[.int .u64 a, .int .u64 b, .int .u64 c, .int .u64 d] w fun e w' => e = .returned (.bool (outB (fval a) (fval b) (fval c) (fval d))) ∧ w = w' := by
  have H1 := Lib.hid (fCmp a c w fa fc)
  have H2 := Lib.hid (fCmp a d w fa fd)
  have H3 := Lib.hid (fCmp b c w fb fc)
  have H4 := Lib.hid (fCmp b d w fb fd)
  have HO : Hid (outB (fval a) (fval b) (fval c) (fval d) = (decide (qcmp (fval a) (fval c) < 0 ∧ qcmp (fval a) (fval d) < 0 ∧ qcmp (fval b) (fval c) < 0 ∧ qcmp (fval b) (fval d) < 0) || decide (0 < qcmp (fval a) (fval c) ∧ 0 < qcmp (fval a) (fval d) ∧ 0 < qcmp (fval b) (fval c) ∧ 0 < qcmp (fval b) (fval d)))) := Lib.hid rfl
  generalize outB (fval a) (fval b) (fval c) (fval d) = O at *
  generalize qcmp (fval a) (fval c) = p at *
  generalize qcmp (fval a) (fval d) = q at *
  generalize qcmp (fval b) (fval c) = r at *
  generalize qcmp (fval b) (fval d) = s at *
  go_enter Tryz.func109, Tryz.ntmps109
  ((try dsimp only); repeat (first | go_values | go_skip | go_guarded | go_step | go_upon))
  refine H1.out.mono ?_
  rintro e w1 ⟨rfl, rfl⟩
  ((try dsimp only); repeat (first | go_values | go_skip | go_guarded | go_step | go_upon))
  refine H2.out.mono ?_
  rintro e w1 ⟨rfl, rfl⟩
  ((try dsimp only); repeat (first | go_values | go_skip | go_guarded | go_step | go_upon))
  refine H3.out.mono ?_
  rintro e w1 ⟨rfl, rfl⟩
  ((try dsimp only); repeat (first | go_values | go_skip | go_guarded | go_step | go_upon))
  refine H4.out.mono ?_
  rintro e w1 ⟨rfl, rfl⟩
  have hM := fun ts t w => run_max4 (P := Tryz.prog) ts t p q r s w
  have hN := fun ts t w => run_min4 (P := Tryz.prog) ts t p q r s w
  have eM : mx (mx (mx p q) r) s < 0 ↔ p < 0 ∧ q < 0 ∧ r < 0 ∧ s < 0 := by rw [mx_lt, mx_lt, mx_lt]; simp only [and_assoc]
  have eN : 0 < mn (mn (mn p q) r) s ↔ 0 < p ∧ 0 < q ∧ 0 < r ∧ 0 < s := by rw [mn_gt, mn_gt, mn_gt]; simp only [and_assoc]
  have HQ : Hid (O = (decide (mx (mx (mx p q) r) s < 0) || decide (0 < mn (mn (mn p q) r) s))) := Lib.hid (by rw [HO.out, decide_eq_decide.2 eM, decide_eq_decide.2 eN])
  clear eM eN HO
  generalize mx (mx (mx p q) r) s = M at *
  generalize mn (mn (mn p q) r) s = N at *
  by_cases h1 : M < 0
  · ((try dsimp only); repeat (first | go_values | go_skip | go_guarded | go_step | go_upon))
    go_ret
    exact ⟨by rw [HQ.out, decide_eq_true h1]; rfl, rfl⟩
  · by_cases h2 : 0 < N
    · ((try dsimp only); repeat (first | go_values | go_skip | go_guarded | go_step | go_upon))
      go_ret
      exact ⟨by rw [HQ.out, decide_eq_false h1, decide_eq_true h2]; rfl, rfl⟩
    · ((try dsimp only); repeat (first | go_values | go_skip | go_guarded | go_step | go_upon))
      go_ret
      exact ⟨by rw [HQ.out, decide_eq_false h1, decide_eq_false h2]; rfl, rfl⟩
theorem calls_b {f : FuncId} {args : Array Value} {w : World} {v : Value} (h : Calls Tryz.prog f args w fun e w' => e = .returned v ∧ w = w') : Calls Tryz.prog f args w fun e w' => e = .returned v ∧ Below w.heap.size w w' :=
  h.mono fun e w' h => ⟨h.1, by rw [← h.2]; exact Below.refl _ _⟩
def apB (s0 s1 t0 t1 : Pl) : Bool := outB s0.1 s1.1 t0.1 t1.1 || outB s0.2 s1.2 t0.2 t1.2
set_option maxRecDepth 100000 in
set_option maxHeartbeats 1600000 in
theorem sApart (s0 s1 t0 t1 : Pt) (w : World) (f0 : FinP s0) (f1 : FinP s1) (f2 : FinP t0) (f3 : FinP t1) :
    Calls Tryz.prog 66 #[st s0 s1, st t0 t1] w fun e w' => e = .returned (.bool (apB (pl s0) (pl s1) (pl t0) (pl t1))) ∧ Below w.heap.size w w' := by
  have H1 := Lib.hid (fun wz => calls_b (sOutside s0.1 s1.1 t0.1 t1.1 wz f0.1 f1.1 f2.1 f3.1))
  have H2 := Lib.hid (fun wz => calls_b (sOutside s0.2 s1.2 t0.2 t1.2 wz f0.2 f1.2 f2.2 f3.2))
  have HA : Hid (apB (pl s0) (pl s1) (pl t0) (pl t1) = (outB (fval s0.1) (fval s1.1) (fval t0.1) (fval t1.1) || outB (fval s0.2) (fval s1.2) (fval t0.2) (fval t1.2))) := Lib.hid rfl
  rw [HA.out]
  clear HA
  generalize outB (fval s0.1) (fval s1.1) (fval t0.1) (fval t1.1) = o1 at *
  generalize outB (fval s0.2) (fval s1.2) (fval t0.2) (fval t1.2) = o2 at *
  unfold st
  have hmm : Bx w.heap.size w ((w.alloc (.cells #[.int .u64 s0.1, .int .u64 s0.2, .int .u64 s1.1, .int .u64 s1.2] 80)).alloc (.cells #[.int .u64 t0.1, .int .u64 t0.2, .int .u64 t1.1, .int .u64 t1.2] 80)) _ _ := ((Bx.start w).alloc (.cells #[.int .u64 s0.1, .int .u64 s0.2, .int .u64 s1.1, .int .u64 s1.2] 80 (0, 0))).alloc (.cells #[.int .u64 t0.1, .int .u64 t0.2, .int .u64 t1.1, .int .u64 t1.2] 80 (0, 0))
  go_enter Tryz.func66, Tryz.ntmps66
  go_upto_region 1 with (fail)
  generalize (World.alloc (World.alloc w _) _) = v at *
  (try simp only [List.nil_append, List.cons_append, World.size_alloc, List.set_cons_zero, List.set_cons_succ, putsC, pB, pC, pD] at hmm)
  have HM := Lib.hid hmm
  clear hmm
  cases o1
  · obtain ⟨c0_0, c0_1, c0_2, c0_3, c0_4, c0_5, c0_6, c0_7⟩ := rw4 (HM.out.at 0 rfl)
    obtain ⟨c1_0, c1_1, c1_2, c1_3, c1_4, c1_5, c1_6, c1_7⟩ := rw4 (HM.out.at 1 rfl)
    have HK := Lib.hid (H1.out v)
    ((try dsimp only); repeat (first | go_values | go_skip | go_guarded | go_step | go_upon))
    refine HK.out.mono ?_
    rintro e w0 ⟨rfl, hb⟩
    have hm := (HM.out.keep hb)
    clear HK HM hb c0_0 c0_1 c0_2 c0_3 c0_4 c0_5 c0_6 c0_7 c1_0 c1_1 c1_2 c1_3 c1_4 c1_5 c1_6 c1_7
    (try simp only [List.nil_append, List.cons_append, World.size_alloc, List.set_cons_zero, List.set_cons_succ, putsC, pB, pC, pD] at hm)
    have HM := Lib.hid hm
    clear hm
    obtain ⟨c0_0, c0_1, c0_2, c0_3, c0_4, c0_5, c0_6, c0_7⟩ := rw4 (HM.out.at 0 rfl)
    obtain ⟨c1_0, c1_1, c1_2, c1_3, c1_4, c1_5, c1_6, c1_7⟩ := rw4 (HM.out.at 1 rfl)
    have HK := Lib.hid (H2.out w0)
    ((try dsimp only); repeat (first | go_values | go_skip | go_guarded | go_step | go_upon))
    refine HK.out.mono ?_
    rintro e w1 ⟨rfl, hb⟩
    have hm := (HM.out.keep hb)
    clear HK HM hb c0_0 c0_1 c0_2 c0_3 c0_4 c0_5 c0_6 c0_7 c1_0 c1_1 c1_2 c1_3 c1_4 c1_5 c1_6 c1_7
    (try simp only [List.nil_append, List.cons_append, World.size_alloc, List.set_cons_zero, List.set_cons_succ, putsC, pB, pC, pD] at hm)
    have HM := Lib.hid hm
    clear hm
    ((try dsimp only); repeat (first | go_values | go_skip | go_guarded | go_step | go_upon))
    go_ret
    exact ⟨rfl, HM.out.m.b⟩
  · obtain ⟨c0_0, c0_1, c0_2, c0_3, c0_4, c0_5, c0_6, c0_7⟩ := rw4 (HM.out.at 0 rfl)
    obtain ⟨c1_0, c1_1, c1_2, c1_3, c1_4, c1_5, c1_6, c1_7⟩ := rw4 (HM.out.at 1 rfl)
    have HK := Lib.hid (H1.out v)
    ((try dsimp only); repeat (first | go_values | go_skip | go_guarded | go_step | go_upon))
    refine HK.out.mono ?_
    rintro e w0 ⟨rfl, hb⟩
    have hm := (HM.out.keep hb)
    clear HK HM hb c0_0 c0_1 c0_2 c0_3 c0_4 c0_5 c0_6 c0_7 c1_0 c1_1 c1_2 c1_3 c1_4 c1_5 c1_6 c1_7
    (try simp only [List.nil_append, List.cons_append, World.size_alloc, List.set_cons_zero, List.set_cons_succ, putsC, pB, pC, pD] at hm)
    have HM := Lib.hid hm
    clear hm
    ((try dsimp only); repeat (first | go_values | go_skip | go_guarded | go_step | go_upon))
    go_ret
    exact ⟨rfl, HM.out.m.b⟩
end Go.Proofs.YtggfppgjabembaaGreatDoor

namespace Go.Proofs.YtggfppgjabembaaGreatDoor
open Go.RowKit Go.Proofs.YtggfppgjabembaaGreatDoorW.PrintLast
set_option linter.unusedVariables false
set_option linter.unusedSimpArgs false
def PtsIn (w : World) (A : Option Addr) (ps : List Pt) : Prop := ps = [] ∨ ∃ b o, A = some ⟨b, o, none⟩ ∧ b < w.heap.size ∧ PtsAt w b o ps
theorem PtsIn.keep {w w' : World} {A : Option Addr} {ps : List Pt} (h : PtsIn w A ps) (k : Below w.heap.size w w') : PtsIn w' A ps := by
  rcases h with rfl | ⟨b, o, rfl, hb, hp⟩
  · exact Or.inl rfl
  · exact Or.inr ⟨b, o, rfl, Nat.lt_of_lt_of_le hb k.size, fun i hi => ⟨(k.cell (p := ⟨b, o + i * 2, none⟩) hb).trans (hp i hi).1, (k.cell (p := ⟨b, o + i * 2 + 1, none⟩) hb).trans (hp i hi).2⟩⟩
theorem PtsIn.open {w : World} {A : Option Addr} {ps : List Pt} (h : PtsIn w A ps) {k : Nat} (hk : k < ps.length) : ∃ b o, A = some ⟨b, o, none⟩ ∧ b < w.heap.size ∧ PtsAt w b o ps := by
  rcases h with rfl | h
  · simp at hk
  · exact h
theorem getD_mem {ps : List Pt} {k : Nat} (h : k < ps.length) : ps.getD k (0, 0) ∈ ps := by rw [List.getD_eq_getElem?_getD, List.getElem?_eq_getElem h]; exact List.getElem_mem h
theorem ownsRow_keep {w w' : World} {base : Nat} {e : TypeId} {size : Nat} {v : Value} {n : Nat} {xs : List Value} (h : w.ownsRow base e size v n xs) (k : Below w.heap.size w w') : w'.ownsRow base e size v n xs := by
  refine ⟨h.1, ?_⟩
  rcases h.2 with h | ⟨g, cap, cur, h1, h2, h3, h4⟩
  · exact Or.inl h
  · exact Or.inr ⟨g, cap, cur, h1, h2, (k.block g (heap_lt h3)).trans h3, h4⟩
theorem ownsRow_below {w0 w w' : World} {base : Nat} {e : TypeId} {size : Nat} {v : Value} {n : Nat} {xs : List Value} (h : w.ownsRow base e size v n xs) (k : Below base w0 w) (hb : base ≤ w.heap.size) (g : w.grownBy w' v.ownBlock) : Below base w0 w' :=
  k.grown g hb (fun j e => (h.lt j e).1)
set_option maxRecDepth 100000 in
set_option maxHeartbeats 1600000 in
theorem sFiniteC (A : Option Addr) (c : Nat) (ps : List Pt) (w : World) (hp : PtsIn w A ps) (hl : ps.length ≤ 1000000) (hf : ∀ p ∈ ps, FinP p) :
    Calls Tryz.prog 34 #[.slice A ps.length c] w fun e w' => e = .returned (.bool true) ∧ Below w.heap.size w w' := by
  have HP := Lib.hid hp
  have HF := Lib.hid hf
  clear hp hf
  go_enter Tryz.func34, Tryz.ntmps34
  ((try dsimp only); repeat (first | go_values | go_skip | go_guarded | go_step | go_upon))
  go_loopw [7] (fun i wr => ∃ k : Nat, i = .int .i64 k ∧ k ≤ ps.length ∧ Below w.heap.size w wr) (fun i _ => ps.length - (intOf i).toNat)
  case atStart => exact ⟨0, rfl, Nat.zero_le _, Below.refl _ _⟩
  case round =>
    obtain ⟨k, rfl, hk, hB⟩ := hrel
    have sB := hB.size
    by_cases h0 : k < ps.length
    · obtain ⟨b, o, rfl, hb, hpa⟩ := HP.out.open h0
      have hpk := (hpa k h0)
      have hp1 := (hB.cell (p := ⟨b, o + k * 2, none⟩) hb).trans hpk.1
      have hp2 := (hB.cell (p := ⟨b, o + k * 2 + 1, none⟩) hb).trans hpk.2
      have hfk := HF.out _ (getD_mem h0)
      have HD := Lib.hid hB
      clear hpk hB hpa
      generalize ps.getD k (0, 0) = pt at *
      have e1 := fcl_fin hfk.1
      have e2 := fcl_fin hfk.2
      have HC := Lib.hid (fun wz => And.intro (fClass pt.1 wz hfk.1.1 hfk.1.2.1) (fClass pt.2 wz hfk.2.1 hfk.2.2.1))
      clear hfk
      generalize fcl pt.1 = c1 at *
      generalize fcl pt.2 = c2 at *
      ((try dsimp only); repeat (first | go_values | go_skip | go_guarded | go_step | go_upon))
      refine (HC.out _).1.mono ?_
      rintro e w1 ⟨rfl, rfl⟩
      ((try dsimp only); repeat (first | go_values | go_skip | go_guarded | go_step | go_upon))
      refine (HC.out _).2.mono ?_
      rintro e w1 ⟨rfl, rfl⟩
      ((try dsimp only); repeat (first | go_values | go_skip | go_guarded | go_step | go_upon))
      exact ⟨⟨k + 1, vint (by omega), by omega, HD.out.alloc (by omega) _⟩, by simp [intOf]; omega⟩
    · obtain rfl : k = ps.length := by omega
      have HD := Lib.hid hB
      clear hB
      ((try dsimp only); repeat (first | go_values | go_skip | go_guarded | go_step | go_upon))
      go_ret
      exact ⟨rfl, HD.out⟩
def stc (p q : Pt) : List Value := [.int .u64 p.1, .int .u64 p.2, .int .u64 q.1, .int .u64 q.2]
theorem info_st : (Tryz.prog.info? 80).map (fun i => (i.zero, i.size, i.bytes)) = some (some (.agg #[.int .u64 0, .int .u64 0, .int .u64 0, .int .u64 0]), 4, 32) := by kernel_rfl
theorem info_two : (Tryz.prog.info? 69).map (fun i => (i.zero, i.size, i.bytes)) = some (some (.agg #[.int .i64 0, .int .i64 0]), 2, 16) := by kernel_rfl
theorem cells_row {w : World} {g : Nat} {cs : List Value} {t : TypeId} (h : w.heap[g]? = some (.cells cs.toArray t (0, 0))) (j : Nat) (u : Value) (hu : cs[j]? = some u) : w.cell? ((⟨g, 0, none⟩ : Addr).add j) = some u := by
  have e : (⟨g, 0, none⟩ : Addr).add j = ⟨g, j, none⟩ := by
    unfold Addr.add
    split
    · rename_i h; simp [h]
    · simp
  rw [e, cell_of_cells h, List.getElem?_toArray]
  exact hu
theorem wp_app_st {w : World} {o : Oper} {a : Act} {K : Act → World → Prop} {Q : Exit → Act → World → Prop} (s x : Operand) (ho : o.op = .call { callee := .builtin .append, args := #[s, x], argTypes := #[113, 113] })
    (base n : Nat) (v : Value) (xs : List Value) (hs : a.eval s = v) (hown : w.ownsRow base 80 4 v n xs) (g c : Nat) (p q : Pt) (hx : a.eval x = .slice (some ⟨g, 0, none⟩) 1 c)
    (hg : w.heap[g]? = some (.cells #[.int .u64 p.1, .int .u64 p.2, .int .u64 q.1, .int .u64 q.2] 80 (0, 0))) (hn : n ≤ 1000) (hbase : base ≤ w.heap.size)
    (h : ∀ v' w', w'.ownsRow base 80 4 v' (n + 1) (xs ++ stc p q) → w.grownBy w' v.ownBlock → K (a.put o.dst v') w') : o.wp Tryz.prog a w K Q := by
  obtain ⟨i, hi, h1, h2, h3⟩ := info_parts info_st
  exact wp_append_own w s x 113 ho base 80 i _ 4 32 Tryz.underlying113 hi h1 h2 h3 rfl (by decide) v n xs hs hown ⟨g, 0, none⟩ 1 c (stc p q) hx rfl (cells_row hg)
    (by intro u hu; simp [stc] at hu; rcases hu with rfl | rfl | rfl | rfl <;> rfl) (by simp only [maxLen]; omega) (by omega) hbase (fun v' w' h1 h2 _ => h v' w' h1 h2)
theorem wp_app_two {w : World} {o : Oper} {a : Act} {K : Act → World → Prop} {Q : Exit → Act → World → Prop} (s x : Operand) (ho : o.op = .call { callee := .builtin .append, args := #[s, x], argTypes := #[66, 66] })
    (base n : Nat) (v : Value) (xs : List Value) (hs : a.eval s = v) (hown : w.ownsRow base 69 2 v n xs) (g c : Nat) (p q : Int) (hx : a.eval x = .slice (some ⟨g, 0, none⟩) 1 c)
    (hg : w.heap[g]? = some (.cells #[.int .i64 p, .int .i64 q] 69 (0, 0))) (hn : n ≤ 1000000) (hbase : base ≤ w.heap.size)
    (h : ∀ v' w', w'.ownsRow base 69 2 v' (n + 1) (xs ++ [.int .i64 p, .int .i64 q]) → w.grownBy w' v.ownBlock → K (a.put o.dst v') w') : o.wp Tryz.prog a w K Q := by
  obtain ⟨i, hi, h1, h2, h3⟩ := info_parts info_two
  exact wp_append_own w s x 66 ho base 69 i _ 2 16 Tryz.underlying66 hi h1 h2 h3 rfl (by decide) v n xs hs hown ⟨g, 0, none⟩ 1 c [.int .i64 p, .int .i64 q] hx rfl (cells_row hg)
    (by intro u hu; simp at hu; rcases hu with rfl | rfl <;> rfl) (by simp only [maxLen]; omega) (by omega) hbase (fun v' w' h1 h2 _ => h v' w' h1 h2)
theorem wpList_app_two {w : World} {ops : Array Oper} {rest : List Oper} {o : Oper} {a : Act} {Q : Exit → Act → World → Prop} (hgd : o.guard = none) (s x : Operand) (ho : o.op = .call { callee := .builtin .append, args := #[s, x], argTypes := #[66, 66] })
    (base n : Nat) (v : Value) (xs : List Value) (hs : a.eval s = v) (hown : w.ownsRow base 69 2 v n xs) (g c : Nat) (p q : Int) (hx : a.eval x = .slice (some ⟨g, 0, none⟩) 1 c)
    (hg : w.heap[g]? = some (.cells #[.int .i64 p, .int .i64 q] 69 (0, 0))) (hn : n ≤ 1000000) (hbase : base ≤ w.heap.size)
    (h : ∀ v' w', w'.ownsRow base 69 2 v' (n + 1) (xs ++ [.int .i64 p, .int .i64 q]) → w.grownBy w' v.ownBlock → wpList Tryz.prog ops Q rest (a.put o.dst v') w') : wpList Tryz.prog ops Q (o :: rest) a w :=
  wpList_plain hgd fun _ hK => wp_app_two s x ho base n v xs hs hown g c p q hx hg hn hbase fun v' w' h2 h3 => hK _ _ (h v' w' h2 h3)
def allC (ps : List Pt) : Nat → List Value
  | 0 => []
  | k + 1 => allC ps k ++ stc (zp (ps.getD k (0, 0))) (zp (ps.getD (k + 1) (0, 0)))
theorem allC_len (ps : List Pt) : ∀ k, (allC ps k).length = k * 4
  | 0 => rfl
  | k + 1 => by rw [allC, List.length_append, allC_len ps k]; simp [stc]; omega
theorem allC_get (ps : List Pt) : ∀ (n i j : Nat), i < n → j < 4 → (allC ps n)[i * 4 + j]? = (stc (zp (ps.getD i (0, 0))) (zp (ps.getD (i + 1) (0, 0))))[j]?
  | n + 1, i, j, hi, hj => by
    rw [allC]
    by_cases h : i < n
    · rw [List.getElem?_append_left (by rw [allC_len]; omega)]
      exact allC_get ps n i j h hj
    · obtain rfl : i = n := by omega
      rw [List.getElem?_append_right (by rw [allC_len]; omega), allC_len, show i * 4 + j - i * 4 = j by omega]
theorem own_stretch {w : World} {base n g c i : Nat} {ps : List Pt} (h : w.ownsRow base 80 4 (.slice (some ⟨g, 0, none⟩) n c) n (allC ps n)) (hi : i < n) :
    w.cell? ⟨g, i * 4, none⟩ = some (.int .u64 (zp (ps.getD i (0, 0))).1) ∧ w.cell? ⟨g, i * 4 + 1, none⟩ = some (.int .u64 (zp (ps.getD i (0, 0))).2) ∧ w.cell? ⟨g, i * 4 + 2, none⟩ = some (.int .u64 (zp (ps.getD (i + 1) (0, 0))).1) ∧ w.cell? ⟨g, i * 4 + 3, none⟩ = some (.int .u64 (zp (ps.getD (i + 1) (0, 0))).2) := by
  have key : ∀ j, j < 4 → ∀ u, (stc (zp (ps.getD i (0, 0))) (zp (ps.getD (i + 1) (0, 0))))[j]? = some u → w.cell? ⟨g, i * 4 + j, none⟩ = some u := fun j hj u hu => by
    have := h.cells rfl (i * 4 + j) u (by rw [allC_get ps n i j hi hj]; exact hu)
    have e : (⟨g, 0, none⟩ : Addr).add (i * 4 + j) = ⟨g, i * 4 + j, none⟩ := by
      unfold Addr.add
      split
      · rename_i h; simp [h]
      · simp
    rw [e] at this
    exact this
  exact ⟨key 0 (by decide) _ rfl, key 1 (by decide) _ rfl, key 2 (by decide) _ rfl, key 3 (by decide) _ rfl⟩
theorem ite_pl {w : World} (p q : Pt) : (if p.1 = q.1 then if p.2 = q.2 then Result.ok (Next.value (Value.bool true)) w else Result.ok (Next.value (Value.bool false)) w else Result.ok (Next.value (Value.bool false)) w) = Result.ok (Next.value (Value.bool (decide (p = q)))) w := by
  obtain ⟨a, b⟩ := p
  obtain ⟨c, d⟩ := q
  by_cases h1 : a = c <;> by_cases h2 : b = d <;> simp [h1, h2]
theorem own_form {w : World} {base : Nat} {e : TypeId} {size n : Nat} {v : Value} {xs : List Value} (h : w.ownsRow base e size v n xs) : ∃ A c, v = .slice A n c := by
  rcases h.2 with ⟨rfl, rfl⟩ | ⟨g, cap, cur, h1, h2, h3, h4, h5⟩
  · exact ⟨_, _, rfl⟩
  · exact ⟨_, _, h1⟩
theorem own_value {w : World} {base : Nat} {e : TypeId} {size n : Nat} {v : Value} {xs : List Value} (h : w.ownsRow base e size v n xs) (hn : 0 < n) : ∃ g c, v = .slice (some ⟨g, 0, none⟩) n c ∧ base ≤ g ∧ g < w.heap.size ∧ n ≤ c := by
  rcases h.2 with ⟨_, h⟩ | ⟨g, cap, cur, h1, h2, h3, h4, h5⟩
  · omega
  · exact ⟨g, cap, h1, h2, heap_lt h3, h4⟩
end Go.Proofs.YtggfppgjabembaaGreatDoor

namespace Go.Proofs.YtggfppgjabembaaGreatDoor
open Go.RowKit
set_option linter.unusedVariables false
theorem dvd_two_pow : ∀ {j d : Nat}, d ∣ 2 ^ j → ∃ i, d = 2 ^ i
  | 0, d, h => ⟨0, by simpa using h⟩
  | j + 1, d, h => by
    rcases Nat.mod_two_eq_zero_or_one d with e | e
    · obtain ⟨c, rfl⟩ := Nat.dvd_of_mod_eq_zero e
      rw [Nat.pow_succ, Nat.mul_comm (2 ^ j)] at h
      obtain ⟨i, hi⟩ := dvd_two_pow (Nat.dvd_of_mul_dvd_mul_left (by decide) h)
      exact ⟨i + 1, by rw [hi, Nat.pow_succ, Nat.mul_comm]⟩
    · have hc : Nat.Coprime d 2 := by
        rw [Nat.coprime_iff_gcd_eq_one, Nat.gcd_comm, Nat.gcd_rec, e]
        decide
      rw [Nat.pow_succ] at h
      exact dvd_two_pow (hc.dvd_of_dvd_mul_right h)
theorem blen_two_pow (k : Nat) : blen ((2:Int) ^ k) = k + 1 := blen_unique (Int.le_refl _) (ipow_lt (Nat.lt_succ_self _))
theorem pos_of_mul {X P : Int} (hP : 0 < P) (h : 0 < X * P) : 0 < X := by
  rcases Int.lt_trichotomy X 0 with e | e | e
  · have := Int.mul_neg_of_neg_of_pos e hP; omega
  · rw [e, Int.zero_mul] at h; omega
  · exact e
theorem finR_whole {neg : Bool} {m x : Int} (h0 : 0 < m) (h1 : m < 9007199254740992) (hx : -1074 ≤ x) (hx1 : x ≤ 971) (hc : 4503599627370496 ≤ m ∨ x = -1074) :
    finR neg (m * 2 ^ (63 - blen m).toNat) (blen m + x - 63) false = (jn neg m x, 0) := by
  have n1 := blen_pos h0
  have n2 : blen m ≤ 53 := blen_le_of_lt (n := 53) (by show m < 9007199254740992; omega)
  have n3 : 4503599627370496 ≤ m → (52 : Int) < blen m := fun h => blen_gt_of_le (n := 52) h
  obtain ⟨k, hk⟩ : ∃ k : Nat, 63 - blen m = k := ⟨(63 - blen m).toNat, by omega⟩
  rw [hk, Int.toNat_natCast]
  have hb : blen (m * 2 ^ k) = 63 := by rw [blen_mul_pow k h0]; omega
  have p := ipow_pos k
  have hM : m * 2 ^ k ≠ 0 := fun e => by rcases Int.mul_eq_zero.1 e with e | e <;> omega
  have hM0 : 0 ≤ m * 2 ^ k := Int.mul_nonneg (by omega) (by omega)
  have hM1 : m * 2 ^ k ≤ 18446744073709551615 := by
    have := blen_lt (m * 2 ^ k)
    rw [hb] at this
    have e : (2:Int) ^ (63:Int).toNat = 9223372036854775808 := by decide
    omega
  have hL : lastR (m * 2 ^ k) (blen m + x - 63) = x := by
    unfold lastR
    rw [if_neg hM, hb]
    rcases hc with hc | hc
    · have := n3 hc
      rw [if_neg (by omega)]; omega
    · by_cases h : blen m + x - 63 + 63 - 53 < -1074
      · rw [if_pos h]; omega
      · rw [if_neg h]; omega
  have hS : stepR (m * 2 ^ k) (blen m + x - 63) = (m, 0) := by
    have e1 : (stepR (m * 2 ^ k) (blen m + x - 63)) = cutR (m * 2 ^ k) k := by
      unfold stepR
      rw [hL, if_pos (by omega)]
      congr 1
      omega
    rw [e1]
    have hd : (m * 2 ^ k) % 2 ^ ((k : Int)).toNat = 0 := by rw [Int.toNat_natCast]; exact Int.mul_emod_left _ _
    have f1 := cutR_fst hM0 hM1 (show (0 : Int) < k by omega)
    have f2 := cutR_exact hM0 (show (0 : Int) < k by omega) (by omega) hd
    rw [Int.toNat_natCast, Int.mul_ediv_cancel _ (by omega)] at f1
    exact Prod.ext f1 f2
  have hF : finM (m * 2 ^ k) (blen m + x - 63) false = (m, x) := by
    unfold finM
    rw [hS, hL]
    have hr : roundR m (tailR 0 false) = m := by
      have : tailR 0 false = 0 := by decide
      rw [this]
      unfold roundR upR
      simp
    rw [show (m, (0:Int)).1 = m from rfl, show (m, (0:Int)).2 = 0 from rfl, hr, if_neg (by omega)]
  unfold finR
  rw [hF, if_neg (show ¬ 971 < (m, x).2 by show ¬ 971 < x; omega)]
theorem quotR_whole {neg : Bool} {X m x : Int} {k a c : Nat} (h0 : 0 < m) (h1 : m < 9007199254740992) (hx : -1074 ≤ x) (hx1 : x ≤ 971) (hc : 4503599627370496 ≤ m ∨ x = -1074) (hac : (a : Int) - c = x)
    (hX : X * 2 ^ c = m * 2 ^ a * 2 ^ k) : quotR neg X (2 ^ k) = (jn neg m x, 0) := by
  have n1 := blen_pos h0
  have n2 : blen m ≤ 53 := blen_le_of_lt (n := 53) (by show m < 9007199254740992; omega)
  have hpos : 0 < X := by
    have := Int.mul_pos (Int.mul_pos h0 (ipow_pos a)) (ipow_pos k)
    rw [← hX] at this
    exact pos_of_mul (ipow_pos c) this
  have hb : blen X + c = blen m + a + k := by
    rw [← blen_mul_pow c hpos, hX, blen_mul_pow k (Int.mul_pos h0 (ipow_pos a)), blen_mul_pow a h0]
  have hs : blen X - blen ((2:Int) ^ k) = blen m + x - 1 := by rw [blen_two_pow]; omega
  have hq : ∀ (e : Nat), (e : Int) = 63 - blen m → X * 2 ^ c = m * 2 ^ a * 2 ^ k := fun _ _ => hX
  obtain ⟨d, hd⟩ : ∃ d : Nat, 63 - blen m = d := ⟨(63 - blen m).toNat, by omega⟩
  have hf := finR_whole (neg := neg) h0 h1 hx hx1 hc
  rw [hd, Int.toNat_natCast] at hf
  unfold quotR
  rw [if_neg (by omega), hs, if_neg (by omega), if_neg (by omega)]
  have eE : blen m + x - 1 - 62 = blen m + x - 63 := by omega
  rw [eE]
  by_cases he : 0 < blen m + x - 63
  · obtain ⟨e, hee⟩ : ∃ e : Nat, blen m + x - 63 = e := ⟨(blen m + x - 63).toNat, by omega⟩
    rw [if_pos he, hee, Int.toNat_natCast]
    have hval : X = m * 2 ^ d * (2 ^ k * 2 ^ e) := by
      have h2 : X * 2 ^ c = m * 2 ^ d * (2 ^ k * 2 ^ e) * 2 ^ c := by
        rw [hX]
        have : (2:Int) ^ a = 2 ^ d * 2 ^ e * 2 ^ c := by rw [← Int.pow_add, ← Int.pow_add]; congr 1; omega
        rw [this]
        generalize (2:Int) ^ d = D
        generalize (2:Int) ^ e = E
        generalize (2:Int) ^ c = C
        generalize (2:Int) ^ k = K
        grind
      exact Int.eq_of_mul_eq_mul_right (Int.ne_of_gt (ipow_pos c)) h2
    have hp : (0:Int) < 2 ^ k * 2 ^ e := Int.mul_pos (ipow_pos k) (ipow_pos e)
    rw [hval, Int.mul_ediv_cancel _ (by omega), Int.mul_emod_left]
    rw [hee] at hf
    simpa using hf
  · obtain ⟨e, hee⟩ : ∃ e : Nat, -(blen m + x - 63) = e := ⟨(-(blen m + x - 63)).toNat, by omega⟩
    rw [if_neg he, hee, Int.toNat_natCast]
    have hval : X * 2 ^ e = m * 2 ^ d * 2 ^ k := by
      have h2 : X * 2 ^ e * 2 ^ c = m * 2 ^ d * 2 ^ k * 2 ^ c := by
        have e1 : X * 2 ^ e * 2 ^ c = X * 2 ^ c * 2 ^ e := by
          generalize (2:Int) ^ e = E
          generalize (2:Int) ^ c = C
          grind
        have e2 : (2:Int) ^ a * 2 ^ e = 2 ^ d * 2 ^ c := by rw [← Int.pow_add, ← Int.pow_add]; congr 1; omega
        rw [e1, hX]
        have e3 : m * 2 ^ a * 2 ^ k * 2 ^ e = m * 2 ^ k * (2 ^ a * 2 ^ e) := by
          generalize (2:Int) ^ e = E
          generalize (2:Int) ^ a = A
          generalize (2:Int) ^ k = K
          grind
        rw [e3, e2]
        generalize (2:Int) ^ d = D
        generalize (2:Int) ^ c = C
        generalize (2:Int) ^ k = K
        grind
      exact Int.eq_of_mul_eq_mul_right (Int.ne_of_gt (ipow_pos c)) h2
    rw [hval, Int.mul_ediv_cancel _ (Int.ne_of_gt (ipow_pos k)), Int.mul_emod_left]
    simpa using hf
theorem jn_back {b : Int} (h : Fin64 b) : jn (fneg b) (fm b) (fx b) = b := by
  obtain ⟨h0, h1, h2⟩ := h
  unfold jn fneg fm fx fe ff at *
  by_cases e : b / 4503599627370496 % 2048 = 0
  · rw [if_pos e, if_pos e]
    by_cases n : 9223372036854775808 ≤ b
    · rw [decide_eq_true n]; simp only [if_true]; omega
    · rw [decide_eq_false n]; simp only [Bool.false_eq_true, if_false]; omega
  · rw [if_neg e, if_neg e]
    by_cases n : 9223372036854775808 ≤ b
    · rw [decide_eq_true n]; simp only [if_true]; omega
    · rw [decide_eq_false n]; simp only [Bool.false_eq_true, if_false]; omega
theorem fm_zero {b : Int} (h : Fin64 b) (hz : fm b = 0) (hn : b ≠ 9223372036854775808) : b = 0 := by
  obtain ⟨h0, h1, h2⟩ := h
  unfold fm fe ff at *
  split at hz <;> omega
theorem fm_norm {b : Int} : 4503599627370496 ≤ fm b ∨ fx b = -1074 := by
  have := ff_range b
  unfold fm fx
  split
  · exact Or.inr rfl
  · exact Or.inl (by omega)
theorem nearR_fval {b : Int} (h : Fin64 b) (hn : b ≠ 9223372036854775808) : nearR (fval b) = (b, 0) := by
  have hr := fm_range b
  have hxr := fx_range h
  by_cases hz : fm b = 0
  · rw [fval_of_fm hz, fm_zero h hz hn]
    decide +kernel
  · obtain ⟨p1, p2, p3⟩ := quo_parts (fneg b) (fnum_nonneg b) (fden_pos b)
    have hm0 : 0 < fm b := by omega
    have hnp : 0 < fnum b := Int.mul_pos hm0 (ipow_pos _)
    have hg : (0 : Int) < (Int.gcd (fnum b) (fden b) : Nat) := by
      have := Int.gcd_pos_of_ne_zero_right (fnum b) (show fden b ≠ 0 by have := fden_pos b; omega)
      omega
    have d1 : ((Int.gcd (fnum b) (fden b) : Nat) : Int) ∣ fnum b := Int.gcd_dvd_left ..
    have d2 : ((Int.gcd (fnum b) (fden b) : Nat) : Int) ∣ fden b := Int.gcd_dvd_right ..
    have hY : ∃ k : Nat, (((fval b).den : Nat) : Int) = 2 ^ k := by
      have hdv : (((fval b).den : Nat) : Int) ∣ fden b := by
        show (((quo (fneg b) (fnum b) (fden b)).den : Nat) : Int) ∣ fden b
        rw [p2]
        exact Int.ediv_dvd_of_dvd d2
      have e : fden b = ((2 ^ (-(fx b)).toNat : Nat) : Int) := by unfold fden; rw [ipow_cast]
      rw [e] at hdv
      obtain ⟨i, hi⟩ := dvd_two_pow (Int.natCast_dvd_natCast.1 hdv)
      exact ⟨i, by rw [hi, ipow_cast]⟩
    obtain ⟨k, hk⟩ := hY
    have hX : (((fval b).num.natAbs : Nat) : Int) * 2 ^ (-(fx b)).toNat = fm b * 2 ^ (fx b).toNat * 2 ^ k := by
      rw [← hk]
      show (((quo (fneg b) (fnum b) (fden b)).num.natAbs : Nat) : Int) * fden b = fnum b * (((quo (fneg b) (fnum b) (fden b)).den : Nat) : Int)
      rw [p1, p2]
      generalize ((Int.gcd (fnum b) (fden b) : Nat) : Int) = g at *
      obtain ⟨u, hu⟩ := d1
      obtain ⟨v, hv⟩ := d2
      rw [hu, hv, Int.mul_ediv_cancel_left _ (by omega), Int.mul_ediv_cancel_left _ (by omega)]
      grind
    have hs : decide ((fval b).num < 0) = fneg b := by
      show decide ((quo (fneg b) (fnum b) (fden b)).num < 0) = fneg b
      rw [p3]
      have hpos : 0 < fnum b / ((Int.gcd (fnum b) (fden b) : Nat) : Int) := by
        refine pos_of_mul hg ?_
        rw [Int.ediv_mul_cancel d1]
        exact hnp
      have := limbs_len_zero (Int.le_of_lt hpos)
      rw [decide_eq_true (show 0 < (limbs (fnum b / ((Int.gcd (fnum b) (fden b) : Nat) : Int))).length by omega), Bool.and_true]
    unfold nearR
    rw [hs, hk, quotR_whole (a := (fx b).toNat) (c := (-(fx b)).toNat) hm0 hr.2 hxr.1 hxr.2 fm_norm (by omega) hX, jn_back h]
end Go.Proofs.YtggfppgjabembaaGreatDoor

namespace Go.Proofs.YtggfppgjabembaaGreatDoor
open Go.RowKit Go.Proofs.YtggfppgjabembaaGreatDoorW.PrintLast
set_option linter.unusedVariables false
set_option linter.unusedSimpArgs false
def CL (n : Nat) (a b c d : Pt) : List (Nat × Obj) := [(n, po a), (n + 1, po b), (n + 1 + 1, po c), (n + 1 + 1 + 1, po d), (n + 1 + 1 + 1 + 1, .cells #[.bool false, .slice none 0 0, .slice none 0 0] 45 (0, 0)), (n + 1 + 1 + 1 + 1 + 1, .cells #[.bool false, .slice none 0 0, .slice none 0 0] 45 (0, 0))]
def z4 : Obj := .cells #[.int .u64 0, .int .u64 0, .int .u64 0, .int .u64 0] 80 (0, 0)
structure CsI (w0 : World) (n : Nat) (a b c d : Pt) (o1 o2 : Option Nat) (w : World) : Prop where
  h : Mem n w0 w (CL n a b c d) []
  r1 : ∀ g, o1 = some g → n + 6 ≤ g ∧ w.heap[g]? = some z4
  r2 : ∀ g, o2 = some g → n + 6 ≤ g ∧ w.heap[g]? = some z4
  d : ∀ g g', o1 = some g → o2 = some g' → g ≠ g'
theorem CL_size {w0 w : World} {n : Nat} {a b c d : Pt} {R : List (Option Addr × Option Addr × Rat)} (h : Mem n w0 w (CL n a b c d) R) : n + 6 ≤ w.heap.size := h.lt 5 rfl
section
variable {w0 w w' : World} {n : Nat} {a b c d : Pt} {o1 o2 : Option Nat}
theorem CsI.keep (h : CsI w0 n a b c d o1 o2 w) (k : Below w.heap.size w w') : CsI w0 n a b c d o1 o2 w' :=
  ⟨h.h.keep k, fun g e => ⟨(h.r1 g e).1, (k.block _ (heap_lt (h.r1 g e).2)).trans (h.r1 g e).2⟩, fun g e => ⟨(h.r2 g e).1, (k.block _ (heap_lt (h.r2 g e).2)).trans (h.r2 g e).2⟩, h.d⟩
theorem Mem.bare {L : List (Nat × Obj)} {R : List (Option Addr × Option Addr × Rat)} (h : Mem n w0 w L R) (o : Obj) : Mem n w0 (w.alloc o) L R := h.keep ((Below.refl _ _).alloc (Nat.le_refl _) o)
theorem CsI.box1 (h : CsI w0 n a b c d o1 o2 w) : CsI w0 n a b c d (some w.heap.size) o2 (w.alloc (.cells #[.int .u64 0, .int .u64 0, .int .u64 0, .int .u64 0] 80)) :=
  have q := h.keep ((Below.refl _ _).alloc (Nat.le_refl _) (.cells #[.int .u64 0, .int .u64 0, .int .u64 0, .int .u64 0] 80))
  ⟨q.h, fun g e => by cases e; exact ⟨CL_size h.h, alloc_new _ _⟩, q.r2, fun g g' e e' => by cases e; exact (Nat.ne_of_lt (heap_lt (h.r2 g' e').2)).symm⟩
theorem CsI.box2 (h : CsI w0 n a b c d o1 o2 w) : CsI w0 n a b c d o1 (some w.heap.size) (w.alloc (.cells #[.int .u64 0, .int .u64 0, .int .u64 0, .int .u64 0] 80)) :=
  have q := h.keep ((Below.refl _ _).alloc (Nat.le_refl _) (.cells #[.int .u64 0, .int .u64 0, .int .u64 0, .int .u64 0] 80))
  ⟨q.h, q.r1, fun g e => by cases e; exact ⟨CL_size h.h, alloc_new _ _⟩, fun g g' e e' => by cases e'; exact Nat.ne_of_lt (heap_lt (h.r1 g e).2)⟩
theorem CsI.all {g1 g2 : Nat} (h : CsI w0 n a b c d (some g1) (some g2) w) : Mem n w0 w (CL n a b c d ++ [(g1, z4), (g2, z4)]) [] ∧ n + 6 ≤ g1 ∧ n + 6 ≤ g2 ∧ g1 ≠ g2 := by
  refine ⟨⟨h.h.b, h.h.z, fun i g o e => ?_, h.h.r⟩, (h.r1 _ rfl).1, (h.r2 _ rfl).1, h.d _ _ rfl rfl⟩
  match i, e with
  | 0, e => exact h.h.l 0 g o e
  | 1, e => exact h.h.l 1 g o e
  | 2, e => exact h.h.l 2 g o e
  | 3, e => exact h.h.l 3 g o e
  | 4, e => exact h.h.l 4 g o e
  | 5, e => exact h.h.l 5 g o e
  | 6, e => cases e; exact (h.r1 _ rfl).2
  | 7, e => cases e; exact (h.r2 _ rfl).2
def setFour (g : Nat) (x y z u : Value) (w : World) : World := (((w.setCell ⟨g, 0, none⟩ x).setCell ⟨g, 1, none⟩ y).setCell ⟨g, 2, none⟩ z).setCell ⟨g, 3, none⟩ u
theorem four_at {g : Nat} {p q r s : Value} {t : TypeId} (h : w.heap[g]? = some (.cells #[p, q, r, s] t (0, 0))) (x y z u : Value) : (setFour g x y z u w).heap[g]? = some (.cells #[x, y, z, u] t (0, 0)) :=
  heap_set_cell (heap_set_cell (heap_set_cell (heap_set_cell h 0 x) 1 y) 2 z) 3 u
theorem Mem.four {L : List (Nat × Obj)} {R : List (Option Addr × Option Addr × Rat)} (h : Mem n w0 w L R) (i : Nat) {g : Nat} {p q r s : Value} {t : TypeId} (e : L[i]? = some (g, .cells #[p, q, r, s] t (0, 0))) (ht : t ≠ 22) (hn : n ≤ g) (hd : ∀ (j : Nat) (o' : Obj), L[j]? = some (g, o') → j = i) (x y z u : Value) :
    Mem n w0 (setFour g x y z u w) (L.set i (g, .cells #[x, y, z, u] t (0, 0))) R :=
  h.setOther i e ht hn ((((h.b.setCell hn _).setCell hn _).setCell hn _).setCell hn _) (by unfold setFour; rw [setCell_size, setCell_size, setCell_size, setCell_size]) (four_at (h.l i g _ e) x y z u)
    (fun j hj => by unfold setFour; rw [Below.heap_setCell _ _ _ _ hj, Below.heap_setCell _ _ _ _ hj, Below.heap_setCell _ _ _ _ hj, Below.heap_setCell _ _ _ _ hj]) hd
theorem idx8 {g1 g2 : Nat} {o0 o1 o2 o3 o4 o5 o6 o7 : Obj} (h1 : n + 6 ≤ g1) (h2 : n + 6 ≤ g2) (h3 : g1 ≠ g2) (i j : Nat) (g : Nat) (o o' : Obj) (e : [(n, o0), (n + 1, o1), (n + 1 + 1, o2), (n + 1 + 1 + 1, o3), (n + 1 + 1 + 1 + 1, o4), (n + 1 + 1 + 1 + 1 + 1, o5), (g1, o6), (g2, o7)][i]? = some (g, o))
    (e' : [(n, o0), (n + 1, o1), (n + 1 + 1, o2), (n + 1 + 1 + 1, o3), (n + 1 + 1 + 1 + 1, o4), (n + 1 + 1 + 1 + 1 + 1, o5), (g1, o6), (g2, o7)][j]? = some (g, o')) : j = i := by
  have hi : i < 8 := (List.getElem?_eq_some_iff.1 e).1
  have hj : j < 8 := (List.getElem?_eq_some_iff.1 e').1
  match i, hi, e with
  | 0, _, e => cases e; match j, hj, e' with | 0, _, _ => rfl | 1, _, e' | 2, _, e' | 3, _, e' | 4, _, e' | 5, _, e' | 6, _, e' | 7, _, e' => first | (simp at e'; done) | (simp at e'; omega)
  | 1, _, e => cases e; match j, hj, e' with | 1, _, _ => rfl | 0, _, e' | 2, _, e' | 3, _, e' | 4, _, e' | 5, _, e' | 6, _, e' | 7, _, e' => first | (simp at e'; done) | (simp at e'; omega)
  | 2, _, e => cases e; match j, hj, e' with | 2, _, _ => rfl | 0, _, e' | 1, _, e' | 3, _, e' | 4, _, e' | 5, _, e' | 6, _, e' | 7, _, e' => first | (simp at e'; done) | (simp at e'; omega)
  | 3, _, e => cases e; match j, hj, e' with | 3, _, _ => rfl | 0, _, e' | 1, _, e' | 2, _, e' | 4, _, e' | 5, _, e' | 6, _, e' | 7, _, e' => first | (simp at e'; done) | (simp at e'; omega)
  | 4, _, e => cases e; match j, hj, e' with | 4, _, _ => rfl | 0, _, e' | 1, _, e' | 2, _, e' | 3, _, e' | 5, _, e' | 6, _, e' | 7, _, e' => first | (simp at e'; done) | (simp at e'; omega)
  | 5, _, e => cases e; match j, hj, e' with | 5, _, _ => rfl | 0, _, e' | 1, _, e' | 2, _, e' | 3, _, e' | 4, _, e' | 6, _, e' | 7, _, e' => first | (simp at e'; done) | (simp at e'; omega)
  | 6, _, e => cases e; match j, hj, e' with | 6, _, _ => rfl | 0, _, e' | 1, _, e' | 2, _, e' | 3, _, e' | 4, _, e' | 5, _, e' | 7, _, e' => first | (simp at e'; done) | (simp at e'; omega)
  | 7, _, e => cases e; match j, hj, e' with | 7, _, _ => rfl | 0, _, e' | 1, _, e' | 2, _, e' | 3, _, e' | 4, _, e' | 5, _, e' | 6, _, e' => first | (simp at e'; done) | (simp at e'; omega)
end
theorem results_rows_tmp {P : Program} {fn : Func} {p p' u : Tmp} {ty ty' : TypeId} (h : fn.results = #[.cell p ty, .cell p' ty', .tmp u]) (tmps : Array Value) (w : World) (g g' : Nat) (t : TypeId) (cs : Array Value) (fr : Nat × Nat) (d : TypeDesc) (t' : TypeId) (cs' : Array Value) (fr' : Nat × Nat) (d' : TypeDesc)
    (hp : tmps.getD p undef = .pointer (some ⟨g, 0, none⟩)) (hp' : tmps.getD p' undef = .pointer (some ⟨g', 0, none⟩)) (hg : w.heap[g]? = some (.cells cs t fr)) (hg' : w.heap[g']? = some (.cells cs' t' fr'))
    (hu : P.underlying ty = some d) (hd : (match d with | .struct _ | .array _ _ => true | _ => false) = true) (hi : (P.info? ty).map (·.size) = some cs.size)
    (hu' : P.underlying ty' = some d') (hd' : (match d' with | .struct _ | .array _ _ => true | _ => false) = true) (hi' : (P.info? ty').map (·.size) = some cs'.size) :
    (results fn tmps).run P w = .ok (.tuple #[.agg cs, .agg cs', tmps.getD u undef]) w := by
  have h1 : tmps[p]?.getD undef = .pointer (some ⟨g, 0, none⟩) := by simpa using hp
  have h2 : tmps[p']?.getD undef = .pointer (some ⟨g', 0, none⟩) := by simpa using hp'
  simp [results, h, h1, h2, asAddr, run_loadVar_row w g t ty cs fr d hg hu hd hi, run_loadVar_row w g' t' ty' cs' fr' d' hg' hu' hd' hi']
def CsL (n : Nat) (a b c d : Pt) (g1 g2 : Nat) : List (Nat × Obj) := [(n, po a), (n + 1, po b), (n + 1 + 1, po c), (n + 1 + 1 + 1, po d), (n + 1 + 1 + 1 + 1, .cells #[.bool false, .slice none 0 0, .slice none 0 0] 45 (0, 0)), (n + 1 + 1 + 1 + 1 + 1, .cells #[.bool false, .slice none 0 0, .slice none 0 0] 45 (0, 0)), (g1, .cells #[.int .u64 (zp a).1, .int .u64 (zp a).2, .int .u64 (zp b).1, .int .u64 (zp b).2] 80 (0, 0)), (g2, .cells #[.int .u64 (zp c).1, .int .u64 (zp c).2, .int .u64 (zp d).1, .int .u64 (zp d).2] 80 (0, 0))]
def CkL (n : Nat) (a b c d : Pt) (g : Nat) (E1 F1 E2 F2 : Option Addr) (C : Pl) : List (Nat × Obj) := [(n, po a), (n + 1, po b), (n + 1 + 1, po c), (n + 1 + 1 + 1, po d), (n + 1 + 1 + 1 + 1, .cells #[.bool false, .slice none 0 0, .slice none 0 0] 45 (0, 0)), (n + 1 + 1 + 1 + 1 + 1, .cells #[.bool false, .slice none 0 0, .slice none 0 0] 45 (0, 0)), (g, qo E1 F1 C.1), (g + 1, qo E2 F2 C.2)]
set_option maxRecDepth 100000 in
set_option maxHeartbeats 6400000 in
theorem lCrossIn (a b c d : Pt) (w : World) (fa : FinP a) (fb : FinP b) (fc : FinP c) (fd : FinP d) :
    Calls Tryz.prog 17 #[pt a, pt b, pt c, pt d] w fun e w' => (turnR (pl a) (pl b) (pl c) (pl d) = 0 → e = .returned (.tuple #[.agg #[.bool false, .slice none 0 0, .slice none 0 0], .agg #[.bool false, .slice none 0 0, .slice none 0 0], .int .i64 230])) ∧
      (turnR (pl a) (pl b) (pl c) (pl d) ≠ 0 → ∃ A B C D, e = .returned (.tuple #[qv A B (crR (pl a) (pl b) (pl c) (pl d)).1, qv C D (crR (pl a) (pl b) (pl c) (pl d)).2, .int .i64 0]) ∧ RatFresh w.heap.size w' A B (crR (pl a) (pl b) (pl c) (pl d)).1 ∧ RatFresh w.heap.size w' C D (crR (pl a) (pl b) (pl c) (pl d)).2 ∧ Sz 30000 (crR (pl a) (pl b) (pl c) (pl d)).1 ∧ Sz 30000 (crR (pl a) (pl b) (pl c) (pl d)).2) ∧ Below w.heap.size w w' := by
  have HA := Lib.hid (fun (p : Pt) wz => sAt p wz)
  have z : ∀ p : Pt, FinP p → FinP (zp p) := fun p h => ⟨zed_fin h.1, zed_fin h.2⟩
  have HW1 := Lib.hid (fun wz => sWay (zp a) (zp b) wz (z _ fa) (z _ fb))
  have HW2 := Lib.hid (fun wz => sWay (zp c) (zp d) wz (z _ fc) (z _ fd))
  have HX := Lib.hid (fun wz => crossC (zp a) (zp b) (zp c) (zp d) wz (z _ fa) (z _ fb) (z _ fc) (z _ fd))
  rw [pl_zp, pl_zp] at HW1 HW2
  rw [pl_zp, pl_zp, pl_zp, pl_zp] at HX
  have hfi : ∀ p ∈ [a, b, c, d], FinP p := by intro p h; simp at h; rcases h with rfl | rfl | rfl | rfl <;> assumption
  have HFI := Lib.hid (fun wz g hp hb => sFinite g 0 [a, b, c, d] wz hp hb (by simp) hfi)
  have s2 := (pl_sz fb).sub (pl_sz fa)
  have s3 := (pl_sz fd).sub (pl_sz fc)
  have s9 := turn_sz s2 s3
  have HT := Lib.hid (fun A B C D A2 B2 C2 D2 wz hu hv => vTurn A B C D A2 B2 C2 D2 0 wz.heap.size (1075 + 1075 + 1) (1075 + 1075 + 1) ((pl b).1 - (pl a).1, (pl b).2 - (pl a).2) ((pl d).1 - (pl c).1, (pl d).2 - (pl c).2) wz hu hv (Nat.le_refl _) s2 s3 (by omega))
  have HS := Lib.hid (fun A B wz hu => rSignQ A B 0 wz.heap.size _ wz hu (Nat.le_refl _) (s9.lens (by omega)).1)
  have eT : ((pl b).1 - (pl a).1) * ((pl d).2 - (pl c).2) - ((pl b).2 - (pl a).2) * ((pl d).1 - (pl c).1) = turnR (pl a) (pl b) (pl c) (pl d) := rfl
  simp only [eT] at HT HS
  clear s2 s3 s9 eT z
  generalize ((pl b).1 - (pl a).1, (pl b).2 - (pl a).2) = X1 at *
  generalize ((pl d).1 - (pl c).1, (pl d).2 - (pl c).2) = X2 at *
  generalize turnR (pl a) (pl b) (pl c) (pl d) = T at *
  generalize crR (pl a) (pl b) (pl c) (pl d) = C at *
  have hm0 := ((((((Mem.start w).alloc (po a)).alloc (po b)).alloc (po c)).alloc (po d)).alloc (.cells #[.bool false, .slice none 0 0, .slice none 0 0] 45 (0, 0))).alloc (.cells #[.bool false, .slice none 0 0, .slice none 0 0] 45 (0, 0))
  simp only [World.size_alloc] at hm0
  have hm1 : Mem w.heap.size w ((((((w.alloc (.cells #[.int .u64 a.1, .int .u64 a.2] 24)).alloc (.cells #[.int .u64 b.1, .int .u64 b.2] 24)).alloc (.cells #[.int .u64 c.1, .int .u64 c.2] 24)).alloc (.cells #[.int .u64 d.1, .int .u64 d.2] 24)).alloc (.cells #[.bool false, .slice none 0 0, .slice none 0 0] 45)).alloc (.cells #[.bool false, .slice none 0 0, .slice none 0 0] 45)) (CL w.heap.size a b c d) [] := hm0
  have HM := Lib.hid hm1
  clear hm0 hm1
  unfold pt st at *
  go_enter Tryz.func17, Tryz.ntmps17
  go_upto_region 1 with (fail)
  generalize (World.alloc (World.alloc (World.alloc (World.alloc (World.alloc (World.alloc w _) _) _) _) _) _) = v at *
  obtain ⟨c00, c01, _⟩ := HM.out.prow 0 rfl
  obtain ⟨c10, c11, _⟩ := HM.out.prow 1 rfl
  obtain ⟨c20, c21, _⟩ := HM.out.prow 2 rfl
  obtain ⟨c30, c31, _⟩ := HM.out.prow 3 rfl
  ((try dsimp only); repeat (first | go_values | go_skip | go_guarded | go_step | go_upon))
  have hm := HM.out.alloc (.cells #[.int .u64 a.1, .int .u64 a.2, .int .u64 b.1, .int .u64 b.2, .int .u64 c.1, .int .u64 c.2, .int .u64 d.1, .int .u64 d.2] 24)
  have hb0 := HM.out.bare (.cells #[.int .u64 a.1, .int .u64 a.2, .int .u64 b.1, .int .u64 b.2, .int .u64 c.1, .int .u64 c.2, .int .u64 d.1, .int .u64 d.2] 24)
  have hp := pts4 (hm.l 6 _ _ rfl)
  have hlt := hm.lt 6 rfl
  clear hm HM c00 c01 c10 c11 c20 c21 c30 c31
  generalize (World.alloc v _) = v1 at *
  refine (HFI.out _ _ hp hlt).mono ?_
  rintro e wb ⟨rfl, hb⟩
  have HM := Lib.hid (hb0.keep hb)
  clear hb0 hb hp hlt HFI
  go_upto_region 3 with (fail)
  have hSd := HM.out.drew
  clear HM
  refine start_ (n := 14) (S := fun w' => Mem w.heap.size w w' (CL w.heap.size a b c d) []) (ds := [12, 13]) (bt 14 0) (by kernel_rfl) rfl rfl (hSd) (fun hHeld => ?_)
  refine ld_ 0 24 ?_ hHeld ?_ ?_; rotate_left
  · rintro w' hs
    obtain ⟨q0, q1, _⟩ := hs.prow 0 rfl
    obtain ⟨q2, q3, _⟩ := hs.prow 1 rfl
    obtain ⟨q4, q5, _⟩ := hs.prow 2 rfl
    obtain ⟨q6, q7, _⟩ := hs.prow 3 rfl
    clear hs
    go_simp; with_reducible rfl
  refine ld_ 2 26 ?_ hHeld ?_ ?_; rotate_left
  · rintro w' hs
    obtain ⟨q0, q1, _⟩ := hs.prow 0 rfl
    obtain ⟨q2, q3, _⟩ := hs.prow 1 rfl
    obtain ⟨q4, q5, _⟩ := hs.prow 2 rfl
    obtain ⟨q6, q7, _⟩ := hs.prow 3 rfl
    clear hs
    go_simp; with_reducible rfl
  refine ld_ 5 29 ?_ hHeld ?_ ?_; rotate_left
  · rintro w' hs
    obtain ⟨q0, q1, _⟩ := hs.prow 0 rfl
    obtain ⟨q2, q3, _⟩ := hs.prow 1 rfl
    obtain ⟨q4, q5, _⟩ := hs.prow 2 rfl
    obtain ⟨q6, q7, _⟩ := hs.prow 3 rfl
    clear hs
    go_simp; with_reducible rfl
  refine ld_ 7 31 ?_ hHeld ?_ ?_; rotate_left
  · rintro w' hs
    obtain ⟨q0, q1, _⟩ := hs.prow 0 rfl
    obtain ⟨q2, q3, _⟩ := hs.prow 1 rfl
    obtain ⟨q4, q5, _⟩ := hs.prow 2 rfl
    obtain ⟨q6, q7, _⟩ := hs.prow 3 rfl
    clear hs
    go_simp; with_reducible rfl
  refine join_ (σ := Nat × Nat) 2 (bt 14 4095) (fun s => [(25, .agg #[.int .u64 (zp a).1, .int .u64 (zp a).2]), (27, .agg #[.int .u64 (zp b).1, .int .u64 (zp b).2]), (28, .agg #[.int .u64 (zp a).1, .int .u64 (zp a).2, .int .u64 (zp b).1, .int .u64 (zp b).2]), (30, .agg #[.int .u64 (zp c).1, .int .u64 (zp c).2]), (32, .agg #[.int .u64 (zp d).1, .int .u64 (zp d).2]), (33, .agg #[.int .u64 (zp c).1, .int .u64 (zp c).2, .int .u64 (zp d).1, .int .u64 (zp d).2]), (11, .pointer (some ⟨s.1, 0, none⟩)), (12, .pointer (some ⟨s.2, 0, none⟩))]) (fun s w' => CsI w w.heap.size a b c d (some s.1) (some s.2) w') ?_ ?_
  rotate_left
  · intro J0
    refine join_ (σ := Nat × Nat) 3 (bt 14 2047) (fun s => [(25, .agg #[.int .u64 (zp a).1, .int .u64 (zp a).2]), (27, .agg #[.int .u64 (zp b).1, .int .u64 (zp b).2]), (28, .agg #[.int .u64 (zp a).1, .int .u64 (zp a).2, .int .u64 (zp b).1, .int .u64 (zp b).2]), (30, .agg #[.int .u64 (zp c).1, .int .u64 (zp c).2]), (32, .agg #[.int .u64 (zp d).1, .int .u64 (zp d).2]), (33, .agg #[.int .u64 (zp c).1, .int .u64 (zp c).2, .int .u64 (zp d).1, .int .u64 (zp d).2]), (11, .pointer (some ⟨s.1, 0, none⟩))]) (fun s w' => CsI w w.heap.size a b c d (some s.1) none w') ?_ ?_
    · rintro ⟨g1, g2⟩ wj hF
      try dsimp only at hF ⊢
      refine na ?_
      refine o1 11 12 (bt 14 4095) ?_
      · intro K hK
        refine al_ (.cells #[.int .u64 0, .int .u64 0, .int .u64 0, .int .u64 0] 80) ?_
        have hN := hF.box2
        refine hK.out _ _ (by exact hN.h) (fun hHeld => ?_)
        exact nj (J0 (g1, wj.heap.size) _ hN)
    intro J1
    refine join_ (σ := Nat × Nat) 3 (bt 14 3071) (fun s => [(25, .agg #[.int .u64 (zp a).1, .int .u64 (zp a).2]), (27, .agg #[.int .u64 (zp b).1, .int .u64 (zp b).2]), (28, .agg #[.int .u64 (zp a).1, .int .u64 (zp a).2, .int .u64 (zp b).1, .int .u64 (zp b).2]), (30, .agg #[.int .u64 (zp c).1, .int .u64 (zp c).2]), (32, .agg #[.int .u64 (zp d).1, .int .u64 (zp d).2]), (33, .agg #[.int .u64 (zp c).1, .int .u64 (zp c).2, .int .u64 (zp d).1, .int .u64 (zp d).2]), (12, .pointer (some ⟨s.2, 0, none⟩))]) (fun s w' => CsI w w.heap.size a b c d none (some s.2) w') ?_ ?_
    · rintro ⟨g1, g2⟩ wj hF
      try dsimp only at hF ⊢
      refine na ?_
      refine o1 10 11 (bt 14 4095) ?_
      · intro K hK
        refine al_ (.cells #[.int .u64 0, .int .u64 0, .int .u64 0, .int .u64 0] 80) ?_
        have hN := hF.box1
        refine hK.out _ _ (by exact hN.h) (fun hHeld => ?_)
        exact nj (J0 (wj.heap.size, g2) _ hN)
    intro J2
    refine join_ (σ := Nat × Nat) 3 (bt 14 3583) (fun s => [(25, .agg #[.int .u64 (zp a).1, .int .u64 (zp a).2]), (27, .agg #[.int .u64 (zp b).1, .int .u64 (zp b).2]), (28, .agg #[.int .u64 (zp a).1, .int .u64 (zp a).2, .int .u64 (zp b).1, .int .u64 (zp b).2]), (30, .agg #[.int .u64 (zp c).1, .int .u64 (zp c).2]), (32, .agg #[.int .u64 (zp d).1, .int .u64 (zp d).2]), (11, .pointer (some ⟨s.1, 0, none⟩)), (12, .pointer (some ⟨s.2, 0, none⟩))]) (fun s w' => CsI w w.heap.size a b c d (some s.1) (some s.2) w') ?_ ?_
    · rintro ⟨g1, g2⟩ wj hF
      try dsimp only at hF ⊢
      refine na ?_
      refine pv_ 9 33 ?_
      exact nj (J0 (g1, g2) _ hF)
    intro J3
    refine join_ (σ := Nat × Nat) 4 (bt 14 1023) (fun s => [(25, .agg #[.int .u64 (zp a).1, .int .u64 (zp a).2]), (27, .agg #[.int .u64 (zp b).1, .int .u64 (zp b).2]), (28, .agg #[.int .u64 (zp a).1, .int .u64 (zp a).2, .int .u64 (zp b).1, .int .u64 (zp b).2]), (30, .agg #[.int .u64 (zp c).1, .int .u64 (zp c).2]), (32, .agg #[.int .u64 (zp d).1, .int .u64 (zp d).2]), (33, .agg #[.int .u64 (zp c).1, .int .u64 (zp c).2, .int .u64 (zp d).1, .int .u64 (zp d).2])]) (fun s w' => CsI w w.heap.size a b c d none none w') ?_ ?_
    · rintro ⟨g1, g2⟩ wj hF
      try dsimp only at hF ⊢
      refine na ?_
      refine o2 10 11 11 12 (bt 14 2047) (bt 14 3071) ?_ ?_
      · intro K hK
        refine al_ (.cells #[.int .u64 0, .int .u64 0, .int .u64 0, .int .u64 0] 80) ?_
        have hN := hF.box1
        refine hK.out _ _ (by exact hN.h) (fun hHeld => ?_)
        exact nj (J1 (wj.heap.size, g2) _ hN)
      · intro K hK
        refine al_ (.cells #[.int .u64 0, .int .u64 0, .int .u64 0, .int .u64 0] 80) ?_
        have hN := hF.box2
        refine hK.out _ _ (by exact hN.h) (fun hHeld => ?_)
        exact nj (J2 (g1, wj.heap.size) _ hN)
    intro J4
    refine join_ (σ := Nat × Nat) 4 (bt 14 1535) (fun s => [(25, .agg #[.int .u64 (zp a).1, .int .u64 (zp a).2]), (27, .agg #[.int .u64 (zp b).1, .int .u64 (zp b).2]), (28, .agg #[.int .u64 (zp a).1, .int .u64 (zp a).2, .int .u64 (zp b).1, .int .u64 (zp b).2]), (30, .agg #[.int .u64 (zp c).1, .int .u64 (zp c).2]), (32, .agg #[.int .u64 (zp d).1, .int .u64 (zp d).2]), (11, .pointer (some ⟨s.1, 0, none⟩))]) (fun s w' => CsI w w.heap.size a b c d (some s.1) none w') ?_ ?_
    · rintro ⟨g1, g2⟩ wj hF
      try dsimp only at hF ⊢
      refine na ?_
      refine pv_ 9 33 ?_
      exact nj (J1 (g1, g2) _ hF)
    intro J5
    refine join_ (σ := Nat × Nat) 4 (bt 14 2559) (fun s => [(25, .agg #[.int .u64 (zp a).1, .int .u64 (zp a).2]), (27, .agg #[.int .u64 (zp b).1, .int .u64 (zp b).2]), (28, .agg #[.int .u64 (zp a).1, .int .u64 (zp a).2, .int .u64 (zp b).1, .int .u64 (zp b).2]), (30, .agg #[.int .u64 (zp c).1, .int .u64 (zp c).2]), (32, .agg #[.int .u64 (zp d).1, .int .u64 (zp d).2]), (12, .pointer (some ⟨s.2, 0, none⟩))]) (fun s w' => CsI w w.heap.size a b c d none (some s.2) w') ?_ ?_
    · rintro ⟨g1, g2⟩ wj hF
      try dsimp only at hF ⊢
      refine na ?_
      refine pv_ 9 33 ?_
      exact nj (J2 (g1, g2) _ hF)
    intro J6
    refine join_ (σ := Nat × Nat) 4 (bt 14 3327) (fun s => [(25, .agg #[.int .u64 (zp a).1, .int .u64 (zp a).2]), (27, .agg #[.int .u64 (zp b).1, .int .u64 (zp b).2]), (28, .agg #[.int .u64 (zp a).1, .int .u64 (zp a).2, .int .u64 (zp b).1, .int .u64 (zp b).2]), (30, .agg #[.int .u64 (zp c).1, .int .u64 (zp c).2]), (11, .pointer (some ⟨s.1, 0, none⟩)), (12, .pointer (some ⟨s.2, 0, none⟩))]) (fun s w' => CsI w w.heap.size a b c d (some s.1) (some s.2) w') ?_ ?_
    · rintro ⟨g1, g2⟩ wj hF
      try dsimp only at hF ⊢
      refine na ?_
      refine o1 8 32 (bt 14 3583) ?_
      · intro K hK
        refine go_ Tryz.func36 #[.agg #[.int .u64 d.1, .int .u64 d.2]] ?_
        with_reducible refine (HA.out d _).mono ?_
        rintro e w' ⟨rfl, hb⟩
        refine ⟨_, rfl, ?_⟩
        have hN := hF.keep hb
        refine hK.out _ _ (by exact hN.h) (fun hHeld => ?_)
        exact nj (J3 (g1, g2) _ hN)
    intro J7
    refine join_ (σ := Nat × Nat) 5 (bt 14 511) (fun s => [(25, .agg #[.int .u64 (zp a).1, .int .u64 (zp a).2]), (27, .agg #[.int .u64 (zp b).1, .int .u64 (zp b).2]), (28, .agg #[.int .u64 (zp a).1, .int .u64 (zp a).2, .int .u64 (zp b).1, .int .u64 (zp b).2]), (30, .agg #[.int .u64 (zp c).1, .int .u64 (zp c).2]), (32, .agg #[.int .u64 (zp d).1, .int .u64 (zp d).2])]) (fun s w' => CsI w w.heap.size a b c d none none w') ?_ ?_
    · rintro ⟨g1, g2⟩ wj hF
      try dsimp only at hF ⊢
      refine na ?_
      refine pv_ 9 33 ?_
      exact nj (J4 (g1, g2) _ hF)
    intro J8
    refine join_ (σ := Nat × Nat) 5 (bt 14 1279) (fun s => [(25, .agg #[.int .u64 (zp a).1, .int .u64 (zp a).2]), (27, .agg #[.int .u64 (zp b).1, .int .u64 (zp b).2]), (28, .agg #[.int .u64 (zp a).1, .int .u64 (zp a).2, .int .u64 (zp b).1, .int .u64 (zp b).2]), (30, .agg #[.int .u64 (zp c).1, .int .u64 (zp c).2]), (11, .pointer (some ⟨s.1, 0, none⟩))]) (fun s w' => CsI w w.heap.size a b c d (some s.1) none w') ?_ ?_
    · rintro ⟨g1, g2⟩ wj hF
      try dsimp only at hF ⊢
      refine na ?_
      refine o2 8 32 11 12 (bt 14 1535) (bt 14 3327) ?_ ?_
      · intro K hK
        refine go_ Tryz.func36 #[.agg #[.int .u64 d.1, .int .u64 d.2]] ?_
        with_reducible refine (HA.out d _).mono ?_
        rintro e w' ⟨rfl, hb⟩
        refine ⟨_, rfl, ?_⟩
        have hN := hF.keep hb
        refine hK.out _ _ (by exact hN.h) (fun hHeld => ?_)
        exact nj (J5 (g1, g2) _ hN)
      · intro K hK
        refine al_ (.cells #[.int .u64 0, .int .u64 0, .int .u64 0, .int .u64 0] 80) ?_
        have hN := hF.box2
        refine hK.out _ _ (by exact hN.h) (fun hHeld => ?_)
        exact nj (J7 (g1, wj.heap.size) _ hN)
    intro J9
    refine join_ (σ := Nat × Nat) 5 (bt 14 2303) (fun s => [(25, .agg #[.int .u64 (zp a).1, .int .u64 (zp a).2]), (27, .agg #[.int .u64 (zp b).1, .int .u64 (zp b).2]), (28, .agg #[.int .u64 (zp a).1, .int .u64 (zp a).2, .int .u64 (zp b).1, .int .u64 (zp b).2]), (30, .agg #[.int .u64 (zp c).1, .int .u64 (zp c).2]), (12, .pointer (some ⟨s.2, 0, none⟩))]) (fun s w' => CsI w w.heap.size a b c d none (some s.2) w') ?_ ?_
    · rintro ⟨g1, g2⟩ wj hF
      try dsimp only at hF ⊢
      refine na ?_
      refine o2 8 32 10 11 (bt 14 2559) (bt 14 3327) ?_ ?_
      · intro K hK
        refine go_ Tryz.func36 #[.agg #[.int .u64 d.1, .int .u64 d.2]] ?_
        with_reducible refine (HA.out d _).mono ?_
        rintro e w' ⟨rfl, hb⟩
        refine ⟨_, rfl, ?_⟩
        have hN := hF.keep hb
        refine hK.out _ _ (by exact hN.h) (fun hHeld => ?_)
        exact nj (J6 (g1, g2) _ hN)
      · intro K hK
        refine al_ (.cells #[.int .u64 0, .int .u64 0, .int .u64 0, .int .u64 0] 80) ?_
        have hN := hF.box1
        refine hK.out _ _ (by exact hN.h) (fun hHeld => ?_)
        exact nj (J7 (wj.heap.size, g2) _ hN)
    intro J10
    refine join_ (σ := Nat × Nat) 5 (bt 14 3263) (fun s => [(25, .agg #[.int .u64 (zp a).1, .int .u64 (zp a).2]), (27, .agg #[.int .u64 (zp b).1, .int .u64 (zp b).2]), (28, .agg #[.int .u64 (zp a).1, .int .u64 (zp a).2, .int .u64 (zp b).1, .int .u64 (zp b).2]), (11, .pointer (some ⟨s.1, 0, none⟩)), (12, .pointer (some ⟨s.2, 0, none⟩))]) (fun s w' => CsI w w.heap.size a b c d (some s.1) (some s.2) w') ?_ ?_
    · rintro ⟨g1, g2⟩ wj hF
      try dsimp only at hF ⊢
      refine na ?_
      refine o1 6 30 (bt 14 3327) ?_
      · intro K hK
        refine go_ Tryz.func36 #[.agg #[.int .u64 c.1, .int .u64 c.2]] ?_
        with_reducible refine (HA.out c _).mono ?_
        rintro e w' ⟨rfl, hb⟩
        refine ⟨_, rfl, ?_⟩
        have hN := hF.keep hb
        refine hK.out _ _ (by exact hN.h) (fun hHeld => ?_)
        exact nj (J7 (g1, g2) _ hN)
    intro J11
    refine join_ (σ := Nat × Nat) 6 (bt 14 255) (fun s => [(25, .agg #[.int .u64 (zp a).1, .int .u64 (zp a).2]), (27, .agg #[.int .u64 (zp b).1, .int .u64 (zp b).2]), (28, .agg #[.int .u64 (zp a).1, .int .u64 (zp a).2, .int .u64 (zp b).1, .int .u64 (zp b).2]), (30, .agg #[.int .u64 (zp c).1, .int .u64 (zp c).2])]) (fun s w' => CsI w w.heap.size a b c d none none w') ?_ ?_
    · rintro ⟨g1, g2⟩ wj hF
      try dsimp only at hF ⊢
      refine na ?_
      refine o3 8 32 10 11 11 12 (bt 14 511) (bt 14 1279) (bt 14 2303) ?_ ?_ ?_
      · intro K hK
        refine go_ Tryz.func36 #[.agg #[.int .u64 d.1, .int .u64 d.2]] ?_
        with_reducible refine (HA.out d _).mono ?_
        rintro e w' ⟨rfl, hb⟩
        refine ⟨_, rfl, ?_⟩
        have hN := hF.keep hb
        refine hK.out _ _ (by exact hN.h) (fun hHeld => ?_)
        exact nj (J8 (g1, g2) _ hN)
      · intro K hK
        refine al_ (.cells #[.int .u64 0, .int .u64 0, .int .u64 0, .int .u64 0] 80) ?_
        have hN := hF.box1
        refine hK.out _ _ (by exact hN.h) (fun hHeld => ?_)
        exact nj (J9 (wj.heap.size, g2) _ hN)
      · intro K hK
        refine al_ (.cells #[.int .u64 0, .int .u64 0, .int .u64 0, .int .u64 0] 80) ?_
        have hN := hF.box2
        refine hK.out _ _ (by exact hN.h) (fun hHeld => ?_)
        exact nj (J10 (g1, wj.heap.size) _ hN)
    intro J12
    refine join_ (σ := Nat × Nat) 6 (bt 14 1215) (fun s => [(25, .agg #[.int .u64 (zp a).1, .int .u64 (zp a).2]), (27, .agg #[.int .u64 (zp b).1, .int .u64 (zp b).2]), (28, .agg #[.int .u64 (zp a).1, .int .u64 (zp a).2, .int .u64 (zp b).1, .int .u64 (zp b).2]), (11, .pointer (some ⟨s.1, 0, none⟩))]) (fun s w' => CsI w w.heap.size a b c d (some s.1) none w') ?_ ?_
    · rintro ⟨g1, g2⟩ wj hF
      try dsimp only at hF ⊢
      refine na ?_
      refine o2 6 30 11 12 (bt 14 1279) (bt 14 3263) ?_ ?_
      · intro K hK
        refine go_ Tryz.func36 #[.agg #[.int .u64 c.1, .int .u64 c.2]] ?_
        with_reducible refine (HA.out c _).mono ?_
        rintro e w' ⟨rfl, hb⟩
        refine ⟨_, rfl, ?_⟩
        have hN := hF.keep hb
        refine hK.out _ _ (by exact hN.h) (fun hHeld => ?_)
        exact nj (J9 (g1, g2) _ hN)
      · intro K hK
        refine al_ (.cells #[.int .u64 0, .int .u64 0, .int .u64 0, .int .u64 0] 80) ?_
        have hN := hF.box2
        refine hK.out _ _ (by exact hN.h) (fun hHeld => ?_)
        exact nj (J11 (g1, wj.heap.size) _ hN)
    intro J13
    refine join_ (σ := Nat × Nat) 6 (bt 14 2239) (fun s => [(25, .agg #[.int .u64 (zp a).1, .int .u64 (zp a).2]), (27, .agg #[.int .u64 (zp b).1, .int .u64 (zp b).2]), (28, .agg #[.int .u64 (zp a).1, .int .u64 (zp a).2, .int .u64 (zp b).1, .int .u64 (zp b).2]), (12, .pointer (some ⟨s.2, 0, none⟩))]) (fun s w' => CsI w w.heap.size a b c d none (some s.2) w') ?_ ?_
    · rintro ⟨g1, g2⟩ wj hF
      try dsimp only at hF ⊢
      refine na ?_
      refine o2 6 30 10 11 (bt 14 2303) (bt 14 3263) ?_ ?_
      · intro K hK
        refine go_ Tryz.func36 #[.agg #[.int .u64 c.1, .int .u64 c.2]] ?_
        with_reducible refine (HA.out c _).mono ?_
        rintro e w' ⟨rfl, hb⟩
        refine ⟨_, rfl, ?_⟩
        have hN := hF.keep hb
        refine hK.out _ _ (by exact hN.h) (fun hHeld => ?_)
        exact nj (J10 (g1, g2) _ hN)
      · intro K hK
        refine al_ (.cells #[.int .u64 0, .int .u64 0, .int .u64 0, .int .u64 0] 80) ?_
        have hN := hF.box1
        refine hK.out _ _ (by exact hN.h) (fun hHeld => ?_)
        exact nj (J11 (wj.heap.size, g2) _ hN)
    intro J14
    refine join_ (σ := Nat × Nat) 6 (bt 14 3247) (fun s => [(25, .agg #[.int .u64 (zp a).1, .int .u64 (zp a).2]), (27, .agg #[.int .u64 (zp b).1, .int .u64 (zp b).2]), (11, .pointer (some ⟨s.1, 0, none⟩)), (12, .pointer (some ⟨s.2, 0, none⟩))]) (fun s w' => CsI w w.heap.size a b c d (some s.1) (some s.2) w') ?_ ?_
    · rintro ⟨g1, g2⟩ wj hF
      try dsimp only at hF ⊢
      refine na ?_
      refine pv_ 4 28 ?_
      exact nj (J11 (g1, g2) _ hF)
    intro J15
    refine join_ (σ := Nat × Nat) 7 (bt 14 191) (fun s => [(25, .agg #[.int .u64 (zp a).1, .int .u64 (zp a).2]), (27, .agg #[.int .u64 (zp b).1, .int .u64 (zp b).2]), (28, .agg #[.int .u64 (zp a).1, .int .u64 (zp a).2, .int .u64 (zp b).1, .int .u64 (zp b).2])]) (fun s w' => CsI w w.heap.size a b c d none none w') ?_ ?_
    · rintro ⟨g1, g2⟩ wj hF
      try dsimp only at hF ⊢
      refine na ?_
      refine o3 6 30 10 11 11 12 (bt 14 255) (bt 14 1215) (bt 14 2239) ?_ ?_ ?_
      · intro K hK
        refine go_ Tryz.func36 #[.agg #[.int .u64 c.1, .int .u64 c.2]] ?_
        with_reducible refine (HA.out c _).mono ?_
        rintro e w' ⟨rfl, hb⟩
        refine ⟨_, rfl, ?_⟩
        have hN := hF.keep hb
        refine hK.out _ _ (by exact hN.h) (fun hHeld => ?_)
        exact nj (J12 (g1, g2) _ hN)
      · intro K hK
        refine al_ (.cells #[.int .u64 0, .int .u64 0, .int .u64 0, .int .u64 0] 80) ?_
        have hN := hF.box1
        refine hK.out _ _ (by exact hN.h) (fun hHeld => ?_)
        exact nj (J13 (wj.heap.size, g2) _ hN)
      · intro K hK
        refine al_ (.cells #[.int .u64 0, .int .u64 0, .int .u64 0, .int .u64 0] 80) ?_
        have hN := hF.box2
        refine hK.out _ _ (by exact hN.h) (fun hHeld => ?_)
        exact nj (J14 (g1, wj.heap.size) _ hN)
    intro J16
    refine join_ (σ := Nat × Nat) 7 (bt 14 1199) (fun s => [(25, .agg #[.int .u64 (zp a).1, .int .u64 (zp a).2]), (27, .agg #[.int .u64 (zp b).1, .int .u64 (zp b).2]), (11, .pointer (some ⟨s.1, 0, none⟩))]) (fun s w' => CsI w w.heap.size a b c d (some s.1) none w') ?_ ?_
    · rintro ⟨g1, g2⟩ wj hF
      try dsimp only at hF ⊢
      refine na ?_
      refine pv_ 4 28 ?_
      exact nj (J13 (g1, g2) _ hF)
    intro J17
    refine join_ (σ := Nat × Nat) 7 (bt 14 2223) (fun s => [(25, .agg #[.int .u64 (zp a).1, .int .u64 (zp a).2]), (27, .agg #[.int .u64 (zp b).1, .int .u64 (zp b).2]), (12, .pointer (some ⟨s.2, 0, none⟩))]) (fun s w' => CsI w w.heap.size a b c d none (some s.2) w') ?_ ?_
    · rintro ⟨g1, g2⟩ wj hF
      try dsimp only at hF ⊢
      refine na ?_
      refine pv_ 4 28 ?_
      exact nj (J14 (g1, g2) _ hF)
    intro J18
    refine join_ (σ := Nat × Nat) 7 (bt 14 3239) (fun s => [(25, .agg #[.int .u64 (zp a).1, .int .u64 (zp a).2]), (11, .pointer (some ⟨s.1, 0, none⟩)), (12, .pointer (some ⟨s.2, 0, none⟩))]) (fun s w' => CsI w w.heap.size a b c d (some s.1) (some s.2) w') ?_ ?_
    · rintro ⟨g1, g2⟩ wj hF
      try dsimp only at hF ⊢
      refine na ?_
      refine o1 3 27 (bt 14 3247) ?_
      · intro K hK
        refine go_ Tryz.func36 #[.agg #[.int .u64 b.1, .int .u64 b.2]] ?_
        with_reducible refine (HA.out b _).mono ?_
        rintro e w' ⟨rfl, hb⟩
        refine ⟨_, rfl, ?_⟩
        have hN := hF.keep hb
        refine hK.out _ _ (by exact hN.h) (fun hHeld => ?_)
        exact nj (J15 (g1, g2) _ hN)
    intro J19
    refine join_ (σ := Nat × Nat) 8 (bt 14 175) (fun s => [(25, .agg #[.int .u64 (zp a).1, .int .u64 (zp a).2]), (27, .agg #[.int .u64 (zp b).1, .int .u64 (zp b).2])]) (fun s w' => CsI w w.heap.size a b c d none none w') ?_ ?_
    · rintro ⟨g1, g2⟩ wj hF
      try dsimp only at hF ⊢
      refine na ?_
      refine pv_ 4 28 ?_
      exact nj (J16 (g1, g2) _ hF)
    intro J20
    refine join_ (σ := Nat × Nat) 8 (bt 14 1191) (fun s => [(25, .agg #[.int .u64 (zp a).1, .int .u64 (zp a).2]), (11, .pointer (some ⟨s.1, 0, none⟩))]) (fun s w' => CsI w w.heap.size a b c d (some s.1) none w') ?_ ?_
    · rintro ⟨g1, g2⟩ wj hF
      try dsimp only at hF ⊢
      refine na ?_
      refine o2 3 27 11 12 (bt 14 1199) (bt 14 3239) ?_ ?_
      · intro K hK
        refine go_ Tryz.func36 #[.agg #[.int .u64 b.1, .int .u64 b.2]] ?_
        with_reducible refine (HA.out b _).mono ?_
        rintro e w' ⟨rfl, hb⟩
        refine ⟨_, rfl, ?_⟩
        have hN := hF.keep hb
        refine hK.out _ _ (by exact hN.h) (fun hHeld => ?_)
        exact nj (J17 (g1, g2) _ hN)
      · intro K hK
        refine al_ (.cells #[.int .u64 0, .int .u64 0, .int .u64 0, .int .u64 0] 80) ?_
        have hN := hF.box2
        refine hK.out _ _ (by exact hN.h) (fun hHeld => ?_)
        exact nj (J19 (g1, wj.heap.size) _ hN)
    intro J21
    refine join_ (σ := Nat × Nat) 8 (bt 14 2215) (fun s => [(25, .agg #[.int .u64 (zp a).1, .int .u64 (zp a).2]), (12, .pointer (some ⟨s.2, 0, none⟩))]) (fun s w' => CsI w w.heap.size a b c d none (some s.2) w') ?_ ?_
    · rintro ⟨g1, g2⟩ wj hF
      try dsimp only at hF ⊢
      refine na ?_
      refine o2 3 27 10 11 (bt 14 2223) (bt 14 3239) ?_ ?_
      · intro K hK
        refine go_ Tryz.func36 #[.agg #[.int .u64 b.1, .int .u64 b.2]] ?_
        with_reducible refine (HA.out b _).mono ?_
        rintro e w' ⟨rfl, hb⟩
        refine ⟨_, rfl, ?_⟩
        have hN := hF.keep hb
        refine hK.out _ _ (by exact hN.h) (fun hHeld => ?_)
        exact nj (J18 (g1, g2) _ hN)
      · intro K hK
        refine al_ (.cells #[.int .u64 0, .int .u64 0, .int .u64 0, .int .u64 0] 80) ?_
        have hN := hF.box1
        refine hK.out _ _ (by exact hN.h) (fun hHeld => ?_)
        exact nj (J19 (wj.heap.size, g2) _ hN)
    intro J22
    refine join_ (σ := Nat × Nat) 8 (bt 14 3237) (fun s => [(11, .pointer (some ⟨s.1, 0, none⟩)), (12, .pointer (some ⟨s.2, 0, none⟩))]) (fun s w' => CsI w w.heap.size a b c d (some s.1) (some s.2) w') ?_ ?_
    · rintro ⟨g1, g2⟩ wj hF
      try dsimp only at hF ⊢
      refine na ?_
      refine o1 1 25 (bt 14 3239) ?_
      · intro K hK
        refine go_ Tryz.func36 #[.agg #[.int .u64 a.1, .int .u64 a.2]] ?_
        with_reducible refine (HA.out a _).mono ?_
        rintro e w' ⟨rfl, hb⟩
        refine ⟨_, rfl, ?_⟩
        have hN := hF.keep hb
        refine hK.out _ _ (by exact hN.h) (fun hHeld => ?_)
        exact nj (J19 (g1, g2) _ hN)
    intro J23
    refine join_ (σ := Nat × Nat) 9 (bt 14 167) (fun s => [(25, .agg #[.int .u64 (zp a).1, .int .u64 (zp a).2])]) (fun s w' => CsI w w.heap.size a b c d none none w') ?_ ?_
    · rintro ⟨g1, g2⟩ wj hF
      try dsimp only at hF ⊢
      refine na ?_
      refine o3 3 27 10 11 11 12 (bt 14 175) (bt 14 1191) (bt 14 2215) ?_ ?_ ?_
      · intro K hK
        refine go_ Tryz.func36 #[.agg #[.int .u64 b.1, .int .u64 b.2]] ?_
        with_reducible refine (HA.out b _).mono ?_
        rintro e w' ⟨rfl, hb⟩
        refine ⟨_, rfl, ?_⟩
        have hN := hF.keep hb
        refine hK.out _ _ (by exact hN.h) (fun hHeld => ?_)
        exact nj (J20 (g1, g2) _ hN)
      · intro K hK
        refine al_ (.cells #[.int .u64 0, .int .u64 0, .int .u64 0, .int .u64 0] 80) ?_
        have hN := hF.box1
        refine hK.out _ _ (by exact hN.h) (fun hHeld => ?_)
        exact nj (J21 (wj.heap.size, g2) _ hN)
      · intro K hK
        refine al_ (.cells #[.int .u64 0, .int .u64 0, .int .u64 0, .int .u64 0] 80) ?_
        have hN := hF.box2
        refine hK.out _ _ (by exact hN.h) (fun hHeld => ?_)
        exact nj (J22 (g1, wj.heap.size) _ hN)
    intro J24
    refine join_ (σ := Nat × Nat) 9 (bt 14 1189) (fun s => [(11, .pointer (some ⟨s.1, 0, none⟩))]) (fun s w' => CsI w w.heap.size a b c d (some s.1) none w') ?_ ?_
    · rintro ⟨g1, g2⟩ wj hF
      try dsimp only at hF ⊢
      refine na ?_
      refine o2 1 25 11 12 (bt 14 1191) (bt 14 3237) ?_ ?_
      · intro K hK
        refine go_ Tryz.func36 #[.agg #[.int .u64 a.1, .int .u64 a.2]] ?_
        with_reducible refine (HA.out a _).mono ?_
        rintro e w' ⟨rfl, hb⟩
        refine ⟨_, rfl, ?_⟩
        have hN := hF.keep hb
        refine hK.out _ _ (by exact hN.h) (fun hHeld => ?_)
        exact nj (J21 (g1, g2) _ hN)
      · intro K hK
        refine al_ (.cells #[.int .u64 0, .int .u64 0, .int .u64 0, .int .u64 0] 80) ?_
        have hN := hF.box2
        refine hK.out _ _ (by exact hN.h) (fun hHeld => ?_)
        exact nj (J23 (g1, wj.heap.size) _ hN)
    intro J25
    refine join_ (σ := Nat × Nat) 9 (bt 14 2213) (fun s => [(12, .pointer (some ⟨s.2, 0, none⟩))]) (fun s w' => CsI w w.heap.size a b c d none (some s.2) w') ?_ ?_
    · rintro ⟨g1, g2⟩ wj hF
      try dsimp only at hF ⊢
      refine na ?_
      refine o2 1 25 10 11 (bt 14 2215) (bt 14 3237) ?_ ?_
      · intro K hK
        refine go_ Tryz.func36 #[.agg #[.int .u64 a.1, .int .u64 a.2]] ?_
        with_reducible refine (HA.out a _).mono ?_
        rintro e w' ⟨rfl, hb⟩
        refine ⟨_, rfl, ?_⟩
        have hN := hF.keep hb
        refine hK.out _ _ (by exact hN.h) (fun hHeld => ?_)
        exact nj (J22 (g1, g2) _ hN)
      · intro K hK
        refine al_ (.cells #[.int .u64 0, .int .u64 0, .int .u64 0, .int .u64 0] 80) ?_
        have hN := hF.box1
        refine hK.out _ _ (by exact hN.h) (fun hHeld => ?_)
        exact nj (J23 (wj.heap.size, g2) _ hN)
    intro J26
    refine join_ (σ := Nat × Nat) 10 (bt 14 165) (fun s => []) (fun s w' => CsI w w.heap.size a b c d none none w') ?_ ?_
    · rintro ⟨g1, g2⟩ wj hF
      try dsimp only at hF ⊢
      refine na ?_
      refine o3 1 25 10 11 11 12 (bt 14 167) (bt 14 1189) (bt 14 2213) ?_ ?_ ?_
      · intro K hK
        refine go_ Tryz.func36 #[.agg #[.int .u64 a.1, .int .u64 a.2]] ?_
        with_reducible refine (HA.out a _).mono ?_
        rintro e w' ⟨rfl, hb⟩
        refine ⟨_, rfl, ?_⟩
        have hN := hF.keep hb
        refine hK.out _ _ (by exact hN.h) (fun hHeld => ?_)
        exact nj (J24 (g1, g2) _ hN)
      · intro K hK
        refine al_ (.cells #[.int .u64 0, .int .u64 0, .int .u64 0, .int .u64 0] 80) ?_
        have hN := hF.box1
        refine hK.out _ _ (by exact hN.h) (fun hHeld => ?_)
        exact nj (J25 (wj.heap.size, g2) _ hN)
      · intro K hK
        refine al_ (.cells #[.int .u64 0, .int .u64 0, .int .u64 0, .int .u64 0] 80) ?_
        have hN := hF.box2
        refine hK.out _ _ (by exact hN.h) (fun hHeld => ?_)
        exact nj (J26 (g1, wj.heap.size) _ hN)
    intro J27
    exact nj (J27 (0, 0) _ ⟨hHeld, nofun, nofun, nofun⟩)
  rintro ⟨g1, g2⟩ wj hF
  obtain ⟨hF, hg1, hg2, hg12⟩ := hF.all
  dsimp only at hF hg1 hg2 hg12 ⊢
  clear hSd hHeld
  refine na ?_
  refine last_ (i := 12) (N := none) (bt 14 8191) rfl rfl (by kernel_rfl) (by decide) (fun K hK => ?_)
  obtain ⟨y0, y1, y2, y3, z0, z1, z2, z3⟩ := row4f (hF.l 6 _ _ rfl)
  refine skip_ (w1 := setFour g1 (.int .u64 (zp a).1) (.int .u64 (zp a).2) (.int .u64 (zp b).1) (.int .u64 (zp b).2) wj) (by rfl) rfl ?_ ?_
  · go_simp
    rfl
  refine hK.out _ _ ?_
  clear hK K
  replace hF := hF.four 6 rfl (by decide) (by omega) (fun j o e => idx8 hg1 hg2 hg12 6 j _ _ _ rfl e) (.int .u64 (zp a).1) (.int .u64 (zp a).2) (.int .u64 (zp b).1) (.int .u64 (zp b).2)
  clear y0 y1 y2 y3 z0 z1 z2 z3
  generalize setFour g1 _ _ _ _ wj = wk at *
  refine last_ (i := 13) (N := none) (bt 14 16383) rfl rfl (by kernel_rfl) (by decide) (fun K hK => ?_)
  obtain ⟨y0, y1, y2, y3, z0, z1, z2, z3⟩ := row4f (hF.l 7 _ _ rfl)
  refine skip_ (w1 := setFour g2 (.int .u64 (zp c).1) (.int .u64 (zp c).2) (.int .u64 (zp d).1) (.int .u64 (zp d).2) wk) (by rfl) rfl ?_ ?_
  · go_simp
    rfl
  refine hK.out _ _ ?_
  clear hK K
  replace hF := hF.four 7 rfl (by decide) (by omega) (fun j o e => idx8 hg1 hg2 hg12 7 j _ _ _ rfl e) (.int .u64 (zp c).1) (.int .u64 (zp c).2) (.int .u64 (zp d).1) (.int .u64 (zp d).2)
  clear y0 y1 y2 y3 z0 z1 z2 z3
  generalize setFour g2 _ _ _ _ wk = wl at *
  refine done_ (by kernel_rfl) ?_
  have hG : Mem w.heap.size w wl (CsL w.heap.size a b c d g1 g2) [] := hF
  clear hF
  go_upto_region 4 with (fail)
  have hSd := hG.drew
  clear hG
  by_cases hT : T = 0
  · have hq : (qsgn T == 0) = true := beq_iff_eq.2 (qsgn_zero.2 hT)
    as_aux_lemma =>
    refine start_ (n := 7) (S := fun w' => Mem w.heap.size w w' (CsL w.heap.size a b c d g1 g2) []) (ds := []) (bt 7 0) (by kernel_rfl) rfl rfl (hSd) (fun hHeld => ?_)
    refine ld_ 0 34 ?_ hHeld ?_ ?_; rotate_left
    · rintro w' hs
      obtain ⟨q0, q1, q2, q3, _⟩ := row4f (hs.l 6 _ _ rfl)
      obtain ⟨q4, q5, q6, q7, _⟩ := row4f (hs.l 7 _ _ rfl)
      clear hs
      go_simp; with_reducible rfl
    refine ld_ 2 36 ?_ hHeld ?_ ?_; rotate_left
    · rintro w' hs
      obtain ⟨q0, q1, q2, q3, _⟩ := row4f (hs.l 6 _ _ rfl)
      obtain ⟨q4, q5, q6, q7, _⟩ := row4f (hs.l 7 _ _ rfl)
      clear hs
      go_simp; with_reducible rfl
    refine ca_ 1 35 Tryz.func40 #[.agg #[.int .u64 (zp a).1, .int .u64 (zp a).2, .int .u64 (zp b).1, .int .u64 (zp b).2]] ?_
    with_reducible refine (HW1.out _).mono ?_
    rintro e w' ⟨E1, F1, G1, I1, rfl, hf1, hb1⟩
    refine ⟨_, rfl, (by first | exact hHeld.keep hb4 | exact hHeld.keep hb3 | exact hHeld.keep hb2 | exact hHeld.keep hb1), fun hHeld => ?_⟩
    refine nn ?_
    refine ca_ 3 37 Tryz.func40 #[.agg #[.int .u64 (zp c).1, .int .u64 (zp c).2, .int .u64 (zp d).1, .int .u64 (zp d).2]] ?_
    with_reducible refine (HW2.out _).mono ?_
    rintro e w' ⟨E2, F2, G2, I2, rfl, hf2, hb2⟩
    replace hf1 := hf1.keep (Keep.of hb2 (Nat.le_refl _)) (Nat.le_refl _)
    refine ⟨_, rfl, (by first | exact hHeld.keep hb4 | exact hHeld.keep hb3 | exact hHeld.keep hb2 | exact hHeld.keep hb1), fun hHeld => ?_⟩
    refine nn ?_
    refine ca_ 4 38 Tryz.func41 #[pv E1 F1 G1 I1 X1, pv E2 F2 G2 I2 X2] ?_
    with_reducible refine (HT.out E1 F1 G1 I1 E2 F2 G2 I2 _ (hf1.ins.wide (Nat.zero_le _) (Nat.le_refl _)) (hf2.ins.wide (Nat.zero_le _) (Nat.le_refl _))).mono ?_
    rintro e w' ⟨E3, F3, rfl, hf3, hb3⟩
    refine ⟨_, rfl, (by first | exact hHeld.keep hb4 | exact hHeld.keep hb3 | exact hHeld.keep hb2 | exact hHeld.keep hb1), fun hHeld => ?_⟩
    refine nn ?_
    refine ca_ 5 39 Tryz.func21 #[qv E3 F3 T] ?_
    with_reducible refine (HS.out E3 F3 _ (hf3.ins.wide (Nat.zero_le _) (Nat.le_refl _))).mono ?_
    rintro e w' ⟨rfl, hb4⟩
    refine ⟨_, rfl, (by first | exact hHeld.keep hb4 | exact hHeld.keep hb3 | exact hHeld.keep hb2 | exact hHeld.keep hb1), fun hHeld => ?_⟩
    refine nn ?_
    refine pv_ 6 40 ?_
    refine done_ (by kernel_rfl) ?_
    have hU := hHeld
    clear hHeld hSd hf1 hf2 hf3 hb1 hb2 hb3 hb4
    generalize w' = wm at *
    obtain ⟨y0, y1, y2, y3, y4, y5⟩ := row3 (hU.l 4 _ _ rfl)
    obtain ⟨z0, z1, z2, z3, z4, z5⟩ := row3 (hU.l 5 _ _ rfl)
    have HU := Lib.hid hU
    clear hU
    ((try dsimp only); repeat (first | go_values | go_skip | go_guarded | go_step | go_upon))
    have hV := (HU.out.three 4 rfl (by decide) (by omega) (fun j o e => idx8 hg1 hg2 hg12 4 j _ _ _ rfl e) (.bool false) (.slice none 0 0) (.slice none 0 0)).three 5 rfl (by decide) (by omega) (fun j o e => idx8 hg1 hg2 hg12 5 j _ _ _ rfl e) (.bool false) (.slice none 0 0) (.slice none 0 0)
    refine bodyPost_ret (results_rows_tmp rfl _ _ (w.heap.size + 1 + 1 + 1 + 1) (w.heap.size + 1 + 1 + 1 + 1 + 1) _ _ _ _ _ _ _ _ rfl rfl (hV.l 4 _ _ rfl) (hV.l 5 _ _ rfl) rfl rfl rfl rfl rfl rfl) rfl ?_
    exact ⟨fun _ => rfl, fun h => absurd hT h, hV.b⟩
  · have hq : (qsgn T == 0) = false := beq_eq_false_iff_ne.2 fun h => hT (qsgn_zero.1 h)
    as_aux_lemma =>
    refine start_ (n := 7) (S := fun w' => Mem w.heap.size w w' (CsL w.heap.size a b c d g1 g2) []) (ds := []) (bt 7 0) (by kernel_rfl) rfl rfl (hSd) (fun hHeld => ?_)
    refine ld_ 0 34 ?_ hHeld ?_ ?_; rotate_left
    · rintro w' hs
      obtain ⟨q0, q1, q2, q3, _⟩ := row4f (hs.l 6 _ _ rfl)
      obtain ⟨q4, q5, q6, q7, _⟩ := row4f (hs.l 7 _ _ rfl)
      clear hs
      go_simp; with_reducible rfl
    refine ld_ 2 36 ?_ hHeld ?_ ?_; rotate_left
    · rintro w' hs
      obtain ⟨q0, q1, q2, q3, _⟩ := row4f (hs.l 6 _ _ rfl)
      obtain ⟨q4, q5, q6, q7, _⟩ := row4f (hs.l 7 _ _ rfl)
      clear hs
      go_simp; with_reducible rfl
    refine ca_ 1 35 Tryz.func40 #[.agg #[.int .u64 (zp a).1, .int .u64 (zp a).2, .int .u64 (zp b).1, .int .u64 (zp b).2]] ?_
    with_reducible refine (HW1.out _).mono ?_
    rintro e w' ⟨E1, F1, G1, I1, rfl, hf1, hb1⟩
    refine ⟨_, rfl, (by first | exact hHeld.keep hb4 | exact hHeld.keep hb3 | exact hHeld.keep hb2 | exact hHeld.keep hb1), fun hHeld => ?_⟩
    refine nn ?_
    refine ca_ 3 37 Tryz.func40 #[.agg #[.int .u64 (zp c).1, .int .u64 (zp c).2, .int .u64 (zp d).1, .int .u64 (zp d).2]] ?_
    with_reducible refine (HW2.out _).mono ?_
    rintro e w' ⟨E2, F2, G2, I2, rfl, hf2, hb2⟩
    replace hf1 := hf1.keep (Keep.of hb2 (Nat.le_refl _)) (Nat.le_refl _)
    refine ⟨_, rfl, (by first | exact hHeld.keep hb4 | exact hHeld.keep hb3 | exact hHeld.keep hb2 | exact hHeld.keep hb1), fun hHeld => ?_⟩
    refine nn ?_
    refine ca_ 4 38 Tryz.func41 #[pv E1 F1 G1 I1 X1, pv E2 F2 G2 I2 X2] ?_
    with_reducible refine (HT.out E1 F1 G1 I1 E2 F2 G2 I2 _ (hf1.ins.wide (Nat.zero_le _) (Nat.le_refl _)) (hf2.ins.wide (Nat.zero_le _) (Nat.le_refl _))).mono ?_
    rintro e w' ⟨E3, F3, rfl, hf3, hb3⟩
    refine ⟨_, rfl, (by first | exact hHeld.keep hb4 | exact hHeld.keep hb3 | exact hHeld.keep hb2 | exact hHeld.keep hb1), fun hHeld => ?_⟩
    refine nn ?_
    refine ca_ 5 39 Tryz.func21 #[qv E3 F3 T] ?_
    with_reducible refine (HS.out E3 F3 _ (hf3.ins.wide (Nat.zero_le _) (Nat.le_refl _))).mono ?_
    rintro e w' ⟨rfl, hb4⟩
    refine ⟨_, rfl, (by first | exact hHeld.keep hb4 | exact hHeld.keep hb3 | exact hHeld.keep hb2 | exact hHeld.keep hb1), fun hHeld => ?_⟩
    refine nn ?_
    refine pv_ 6 40 ?_
    refine done_ (by kernel_rfl) ?_
    have hU := hHeld
    clear hHeld hSd hf1 hf2 hf3 hb1 hb2 hb3 hb4
    generalize w' = wm at *
    obtain ⟨y0, y1, y2, y3, _⟩ := row4f (hU.l 6 _ _ rfl)
    obtain ⟨z0, z1, z2, z3, _⟩ := row4f (hU.l 7 _ _ rfl)
    have HU := Lib.hid hU
    have HK := Lib.hid (HX.out wm hT)
    clear hU HX
    unfold qv at HK
    ((try dsimp only); repeat (first | go_values | go_skip | go_guarded | go_step | go_upon))
    refine HK.out.mono ?_
    rintro e wn ⟨E1, F1, E2, F2, rfl, hf1, hf2, sx, sy, hb⟩
    have hz := HU.out.z
    have hm : Mem w.heap.size w ((wn.alloc (.cells #[.bool (decide (C.1.num < 0)), .slice E1 (qn C.1).length (qn C.1).length, .slice F1 (qd C.1).length (qd C.1).length] 45)).alloc (.cells #[.bool (decide (C.2.num < 0)), .slice E2 (qn C.2).length (qn C.2).length, .slice F2 (qd C.2).length (qd C.2).length] 45)) _ _ := ((((HU.out.keep hb).rat hz hf1).rat hz hf2).alloc (qo E1 F1 C.1)).alloc (qo E2 F2 C.2)
    rw [World.size_alloc] at hm
    have hgz := HU.out.lt 7 rfl
    have hgy := HU.out.lt 6 rfl
    have hbs := hb.size
    clear HK HU hb hf1 hf2 y0 y1 y2 y3 z0 z1 z2 z3 hz
    have HSZ := Lib.hid (And.intro sx sy)
    clear sx sy
    go_upto_region 7 with (fail)
    generalize (World.alloc (World.alloc wn _) _) = wo at *
    have hSd := hm.drew
    clear hm
    have hSk : Mem w.heap.size w wo.drew (CkL w.heap.size a b c d wn.heap.size E1 F1 E2 F2 C) [(E1, F1, C.1), (E2, F2, C.2)] :=
      ⟨hSd.b, hSd.z, fun i g o e => match i, e with | 0, e => hSd.l 0 g o e | 1, e => hSd.l 1 g o e | 2, e => hSd.l 2 g o e | 3, e => hSd.l 3 g o e | 4, e => hSd.l 4 g o e | 5, e => hSd.l 5 g o e | 6, e => hSd.l 8 g o e | 7, e => hSd.l 9 g o e, hSd.r⟩
    clear hSd
    have hn1 : w.heap.size + 6 ≤ wn.heap.size := by omega
    have hn2 : w.heap.size + 6 ≤ wn.heap.size + 1 := by omega
    have hn3 : wn.heap.size ≠ wn.heap.size + 1 := by omega
    refine start_ (n := 5) (S := fun w' => w'.heap[wn.heap.size]? = some (qo E1 F1 C.1) ∧ w'.heap[wn.heap.size + 1]? = some (qo E2 F2 C.2)) (ds := [3]) (bt 5 0) (by kernel_rfl) rfl rfl (⟨hSk.l 6 _ _ rfl, hSk.l 7 _ _ rfl⟩) (fun hHeld => ?_)
    refine ld_ 0 49 ?_ hHeld ?_ ?_; rotate_left
    · rintro w' ⟨hs1, hs2⟩
      obtain ⟨q0, q1, q2, _⟩ := row3 hs1
      obtain ⟨q4, q5, q6, _⟩ := row3 hs2
      clear hs1 hs2
      go_simp; with_reducible rfl
    refine ld_ 1 50 ?_ hHeld ?_ ?_; rotate_left
    · rintro w' ⟨hs1, hs2⟩
      obtain ⟨q0, q1, q2, _⟩ := row3 hs1
      obtain ⟨q4, q5, q6, _⟩ := row3 hs2
      clear hs1 hs2
      go_simp; with_reducible rfl
    generalize wo.drew = wq at *
    obtain ⟨y0, y1, y2, y3, y4, y5⟩ := row3 (hSk.l 4 _ _ rfl)
    refine one_ (i := 2) (N := none) (bt 5 7) rfl rfl (by kernel_rfl) (by decide) (fun K hK => ?_)
    refine skip_ (w1 := triSet (w.heap.size + 1 + 1 + 1 + 1) (.bool (decide (C.1.num < 0))) (.slice E1 (qn C.1).length (qn C.1).length) (.slice F1 (qd C.1).length (qd C.1).length) wq) (by rfl) rfl ?_ ?_
    · go_simp
      rfl
    refine hK.out _ _ (by exact ⟨(triSet_other _ (by omega)).trans hHeld.1, (triSet_other _ (by omega)).trans hHeld.2⟩) (fun hHeld => ?_)
    clear hK K
    have hG : Mem w.heap.size w (triSet (w.heap.size + 1 + 1 + 1 + 1) (.bool (decide (C.1.num < 0))) (.slice E1 (qn C.1).length (qn C.1).length) (.slice F1 (qd C.1).length (qd C.1).length) wq) _ _ := hSk.three 4 rfl (by decide) (by omega) (fun j o e => idx8 hn1 hn2 hn3 4 j _ _ _ rfl e) (.bool (decide (C.1.num < 0))) (.slice E1 (qn C.1).length (qn C.1).length) (.slice F1 (qd C.1).length (qd C.1).length)
    clear y0 y1 y2 y3 y4 y5 hSk
    generalize triSet _ _ _ _ wq = wr at *
    obtain ⟨y0, y1, y2, y3, y4, y5⟩ := row3 (hG.l 5 _ _ rfl)
    refine last_ (i := 3) (N := none) (bt 5 15) rfl rfl (by kernel_rfl) (by decide) (fun K hK => ?_)
    refine skip_ (w1 := triSet (w.heap.size + 1 + 1 + 1 + 1 + 1) (.bool (decide (C.2.num < 0))) (.slice E2 (qn C.2).length (qn C.2).length) (.slice F2 (qd C.2).length (qd C.2).length) wr) (by rfl) rfl ?_ ?_
    · go_simp
      rfl
    refine hK.out _ _ ?_
    clear hK K
    replace hG : Mem w.heap.size w (triSet (w.heap.size + 1 + 1 + 1 + 1 + 1) (.bool (decide (C.2.num < 0))) (.slice E2 (qn C.2).length (qn C.2).length) (.slice F2 (qd C.2).length (qd C.2).length) wr) _ _ := hG.three 5 rfl (by decide) (by omega) (fun j o e => idx8 hn1 hn2 hn3 5 j _ _ _ rfl e) (.bool (decide (C.2.num < 0))) (.slice E2 (qn C.2).length (qn C.2).length) (.slice F2 (qd C.2).length (qd C.2).length)
    clear y0 y1 y2 y3 y4 y5
    generalize triSet _ _ _ _ wr = ws at *
    refine pv_ 4 10 ?_
    refine done_ (by kernel_rfl) ?_
    have HG := Lib.hid hG
    clear hG
    ((try dsimp only); repeat (first | go_values | go_skip | go_guarded | go_step | go_upon))
    refine bodyPost_ret (results_rows_tmp rfl _ _ (w.heap.size + 1 + 1 + 1 + 1) (w.heap.size + 1 + 1 + 1 + 1 + 1) _ _ _ _ _ _ _ _ rfl rfl (HG.out.l 4 _ _ rfl) (HG.out.l 5 _ _ rfl) rfl rfl rfl rfl rfl rfl) rfl ?_
    exact ⟨fun h => absurd h hT, fun _ => ⟨E1, F1, E2, F2, rfl, HG.out.r 0 _ _ _ rfl, HG.out.r 1 _ _ _ rfl, HSZ.out.1, HSZ.out.2⟩, HG.out.b⟩
end Go.Proofs.YtggfppgjabembaaGreatDoor

namespace Go.Proofs.YtggfppgjabembaaGreatDoor
open Go.RowKit
set_option linter.unusedVariables false
theorem area_diff (a b c d : Pl) : area2 a b d - area2 a b c = turnR a b c d := by unfold area2 turnR; grind
theorem cross_on1 (a b c d : Pl) : area2 a b (crR a b c d) = 0 := by
  unfold area2 crR
  generalize crK a b c d = k
  grind
theorem crK_turn {a b c d : Pl} (h : turnR a b c d ≠ 0) : crK a b c d * turnR a b c d = (c.1 - a.1) * (d.2 - c.2) - (c.2 - a.2) * (d.1 - c.1) := Rat.div_mul_cancel h
theorem cross_on2 {a b c d : Pl} (h : turnR a b c d ≠ 0) : area2 c d (crR a b c d) = 0 := by
  have e := crK_turn h
  unfold area2 crR
  generalize crK a b c d = k at *
  unfold turnR at e
  grind
theorem cross_one {a b c d p : Pl} (h : turnR a b c d ≠ 0) (h1 : area2 a b p = 0) (h2 : area2 c d p = 0) : crR a b c d = p := by
  have e := crK_turn h
  have g1 : ((crR a b c d).1 - p.1) * turnR a b c d = 0 := by
    unfold crR
    generalize crK a b c d = k at *
    unfold area2 at h1 h2
    unfold turnR at *
    grind
  have g2 : ((crR a b c d).2 - p.2) * turnR a b c d = 0 := by
    unfold crR
    generalize crK a b c d = k at *
    unfold area2 at h1 h2
    unfold turnR at *
    grind
  refine Prod.ext ?_ ?_
  · rcases Rat.mul_eq_zero.1 g1 with g | g
    · grind
    · exact absurd g h
  · rcases Rat.mul_eq_zero.1 g2 with g | g
    · grind
    · exact absurd g h
theorem cross_sz {a b c d : Pt} (fa : FinP a) (fb : FinP b) (fc : FinP c) (fd : FinP d) (ht : turnR (pl a) (pl b) (pl c) (pl d) ≠ 0) : Sz 30000 (crR (pl a) (pl b) (pl c) (pl d)).1 ∧ Sz 30000 (crR (pl a) (pl b) (pl c) (pl d)).2 := by
  have s1 := pl_sz fa
  have s2 := (pl_sz fb).sub (pl_sz fa)
  have s3 := (pl_sz fd).sub (pl_sz fc)
  have s4 := (pl_sz fc).sub (pl_sz fa)
  have s6 := turn_sz s4 s3
  have s9 := turn_sz s2 s3
  have hq : (turnR (pl a) (pl b) (pl c) (pl d)).num ≠ 0 := fun h => ht (Rat.num_eq_zero.1 h)
  have s10 : Sz 17210 (crK (pl a) (pl b) (pl c) (pl d)) := (s6.div s9 hq).mono (by omega)
  exact ⟨(s1.1.add (s10.mul s2.1)).mono (by omega), (s1.2.add (s10.mul s2.2)).mono (by omega)⟩
theorem meetM_proper {a b c d : Pt} (fa : FinP a) (fb : FinP b) (fc : FinP c) (fd : FinP d) (h : (meetM a b c d).proper = true) : turnR (pl a) (pl b) (pl c) (pl d) ≠ 0 := by
  have hz : ∀ p, pl (zp p) = pl p := pl_zp
  have h0 : (loops (zp a) (zp b) (zp c) (zp d)).proper = false := by unfold loops touch apartM; (repeat' split) <;> rfl
  have h1 : ∀ r0 r1 q0 q1, (alongR r0 r1 q0 q1).proper = false := by intro r0 r1 q0 q1; unfold alongR touch apartM; (repeat' split) <;> rfl
  unfold meetM meetR at h
  split at h
  · rw [h0] at h; cases h
  · split at h
    · rw [h1] at h; cases h
    · split at h
      · rename_i hh
        have := turn_ne hh.1
        rw [hz, hz, hz, hz] at this
        exact this
      · rw [h0] at h; cases h
theorem meetM_kinds (a b c d : Pt) : (meetM a b c d).kind = 0 ∨ (meetM a b c d).kind = 1 ∨ (meetM a b c d).kind = 2 := by
  have h0 : (loops (zp a) (zp b) (zp c) (zp d)).kind = 0 ∨ (loops (zp a) (zp b) (zp c) (zp d)).kind = 1 ∨ (loops (zp a) (zp b) (zp c) (zp d)).kind = 2 := by unfold loops touch apartM; (repeat' split) <;> simp
  have h1 : ∀ r0 r1 q0 q1, (alongR r0 r1 q0 q1).kind = 0 ∨ (alongR r0 r1 q0 q1).kind = 1 ∨ (alongR r0 r1 q0 q1).kind = 2 := by intro r0 r1 q0 q1; unfold alongR touch apartM; (repeat' split) <;> simp
  unfold meetM meetR
  split
  · exact h0
  · split
    · exact h1 _ _ _ _
    · split
      · simp
      · exact h0
theorem meetM_properP {a b c d : Pt} (h : (meetM a b c d).proper = true) : (meetM a b c d).P = meetX (zp a) (zp b) (zp c) (zp d) ∧ sideP a b c * sideP a b d < 0 ∧ sideP c d a * sideP c d b < 0 := by
  have h0 : (loops (zp a) (zp b) (zp c) (zp d)).proper = false := by unfold loops touch apartM; (repeat' split) <;> rfl
  have h1 : ∀ r0 r1 q0 q1, (alongR r0 r1 q0 q1).proper = false := by intro r0 r1 q0 q1; unfold alongR touch apartM; (repeat' split) <;> rfl
  unfold meetM meetR at h ⊢
  split at h
  · rw [h0] at h; cases h
  · rename_i k1
    split at h
    · rw [h1] at h; cases h
    · rename_i k2
      split at h
      · rename_i hh
        rw [if_neg k1, if_neg k2, if_pos hh]
        refine ⟨rfl, ?_⟩
        unfold sideP at hh ⊢
        simp only [pl_zp] at hh
        exact hh
      · rw [h0] at h; cases h
theorem touch_law {a b c d p : Pt} (fp : FinP p) (ht : turnR (pl a) (pl b) (pl c) (pl d) ≠ 0) (h1 : area2 (pl a) (pl b) (pl p) = 0) (h2 : area2 (pl c) (pl d) (pl p) = 0) :
    FitQ (crR (pl a) (pl b) (pl c) (pl d)).1 ∧ FitQ (crR (pl a) (pl b) (pl c) (pl d)).2 ∧ zp p = ((nearR (crR (pl a) (pl b) (pl c) (pl d)).1).1, (nearR (crR (pl a) (pl b) (pl c) (pl d)).2).1) := by
  rw [cross_one ht h1 h2]
  refine ⟨fval_fit fp.1, fval_fit fp.2, ?_⟩
  have g := good_zp fp.1 fp.2
  have e1 := nearR_fval g.f1 g.n1
  have e2 := nearR_fval g.f2 g.n2
  have p1 : fval (zp p).1 = (pl p).1 := fval_zed _
  have p2 : fval (zp p).2 = (pl p).2 := fval_zed _
  rw [p1] at e1
  rw [p2] at e2
  rw [e1, e2]
theorem area_ends (a b : Pl) : area2 a b a = 0 ∧ area2 a b b = 0 := by unfold area2; exact ⟨by grind, by grind⟩
theorem btwP_area {a b p : Pt} (h : btwP a b p = true) : area2 (pl a) (pl b) (pl p) = 0 := qsgn_zero.1 (btw_side h)
theorem meetM_point_law {a b c d : Pt} (fa : FinP a) (fb : FinP b) (fc : FinP c) (fd : FinP d) (ht : turnR (pl a) (pl b) (pl c) (pl d) ≠ 0) (hk : (meetM a b c d).kind ≠ 0) :
    (meetM a b c d).kind = 1 ∧ FitQ (crR (pl a) (pl b) (pl c) (pl d)).1 ∧ FitQ (crR (pl a) (pl b) (pl c) (pl d)).2 ∧ (meetM a b c d).P = ((nearR (crR (pl a) (pl b) (pl c) (pl d)).1).1, (nearR (crR (pl a) (pl b) (pl c) (pl d)).2).1) := by
  have ML : MeetLaw (meetM a b c d) (zp a) (zp b) (zp c) (zp d) := meet_law (good_zp fa.1 fa.2) (good_zp fb.1 fb.2) (good_zp fc.1 fc.2) (good_zp fd.1 fd.2)
  obtain ⟨l1, l2, l3, l4, l5⟩ := ML
  have sz : ∀ p q r : Pt, sideP (zp p) (zp q) (zp r) = sideP p q r := fun p q r => by unfold sideP; rw [pl_zp, pl_zp, pl_zp]
  have bz : ∀ p q r : Pt, btwP (zp p) (zp q) (zp r) = btwP p q r := fun p q r => by unfold btwP; rw [pl_zp, pl_zp, pl_zp]
  simp only [sz, bz] at l1 l2 l3 l4 l5
  have k1 : (meetM a b c d).kind = 1 := by
    rcases meetM_kinds a b c d with k | k | k
    · exact absurd k hk
    · exact k
    · obtain ⟨_, _, _, _, _, s3, s4⟩ := l5 k
      have e1 := qsgn_zero.1 s3
      have e2 := qsgn_zero.1 s4
      have := area_diff (pl a) (pl b) (pl c) (pl d)
      rw [e1, e2] at this
      exact absurd (by grind) ht
  refine ⟨k1, ?_⟩
  cases hp : (meetM a b c d).proper
  · have hs : (btwP a b c || btwP a b d || btwP c d a || btwP c d b) = true := by
      cases hx : (btwP a b c || btwP a b d || btwP c d a || btwP c d b)
      · exact absurd (l3 hx hp) hk
      · rfl
    obtain ⟨_, hP, _⟩ := l4 hs
    rcases hP with ⟨g, gp⟩ | ⟨g, gp⟩ | ⟨g, gp⟩ | ⟨g, gp⟩ <;> rw [gp]
    · exact touch_law fc ht (btwP_area g) (area_ends _ _).1
    · exact touch_law fd ht (btwP_area g) (area_ends _ _).2
    · exact touch_law fa ht (area_ends _ _).1 (btwP_area g)
    · exact touch_law fb ht (area_ends _ _).2 (btwP_area g)
  · obtain ⟨hP, s1, s2⟩ := meetM_properP hp
    obtain ⟨f1, f2⟩ := crossFit a b c d fa fb fc fd s1 s2
    refine ⟨f1, f2, ?_⟩
    rw [hP]
    unfold meetX
    rw [pl_zp, pl_zp, pl_zp, pl_zp]
end Go.Proofs.YtggfppgjabembaaGreatDoor

namespace Go.Proofs.YtggfppgjabembaaGreatDoor
open Go.RowKit
set_option linter.unusedVariables false
set_option linter.unusedSimpArgs false
theorem meetR_pts (X s0 s1 t0 t1 : Pt) (P : Pt → Prop) (h0 : P (0, 0)) (h1 : P s0) (h2 : P s1) (h3 : P t0) (h4 : P t1) (hX : sideP s0 s1 t0 * sideP s0 s1 t1 < 0 → sideP t0 t1 s0 * sideP t0 t1 s1 < 0 → P X) :
    P (meetR X s0 s1 t0 t1).P ∧ P (meetR X s0 s1 t0 t1).Q := by
  have hl : P (loops s0 s1 t0 t1).P ∧ P (loops s0 s1 t0 t1).Q := by
    unfold loops touch apartM
    (repeat' split) <;> exact ⟨by assumption, by assumption⟩
  have hr : ∀ a b : Pt, P a → P b → P (riseR a b).1 ∧ P (riseR a b).2 := by
    intro a b ha hb
    unfold riseR; split
    · exact ⟨hb, ha⟩
    · exact ⟨ha, hb⟩
  have ha : ∀ r0 r1 q0 q1 : Pt, P r0 → P r1 → P q0 → P q1 → P (alongR r0 r1 q0 q1).P ∧ P (alongR r0 r1 q0 q1).Q := by
    intro r0 r1 q0 q1 a1 a2 a3 a4
    have l : P (lowR r0 q0) := by unfold lowR; split <;> assumption
    have u : P (highR r1 q1) := by unfold highR; split <;> assumption
    unfold alongR touch apartM
    (repeat' split) <;> exact ⟨by assumption, by assumption⟩
  unfold meetR
  split
  · exact hl
  · split
    · exact ha _ _ _ _ (hr _ _ h1 h2).1 (hr _ _ h1 h2).2 (hr _ _ h3 h4).1 (hr _ _ h3 h4).2
    · split
      · rename_i h; exact ⟨hX h.1 h.2, h0⟩
      · exact hl
theorem meetM_fin {a b c d : Pt} (fa : FinP a) (fb : FinP b) (fc : FinP c) (fd : FinP d) : FinP (meetM a b c d).P ∧ FinP (meetM a b c d).Q := by
  have z : ∀ p : Pt, FinP p → FinP (zp p) := fun p h => ⟨zed_fin h.1, zed_fin h.2⟩
  refine meetR_pts _ _ _ _ _ FinP (fin_of 0 0 (by decide)) (z _ fa) (z _ fb) (z _ fc) (z _ fd) (fun h1 h2 => ?_)
  obtain ⟨g1, g2⟩ := crossFit (zp a) (zp b) (zp c) (zp d) (z _ fa) (z _ fb) (z _ fc) (z _ fd) h1 h2
  exact ⟨(nearR_ok g1).2, (nearR_ok g2).2⟩
theorem meetM_law {a b c d : Pt} (fa : FinP a) (fb : FinP b) (fc : FinP c) (fd : FinP d) : MeetLaw (meetM a b c d) (zp a) (zp b) (zp c) (zp d) :=
  meet_law (good_zp fa.1 fa.2) (good_zp fb.1 fb.2) (good_zp fc.1 fc.2) (good_zp fd.1 fd.2)
theorem sideP_zp (a b c : Pt) : sideP (zp a) (zp b) (zp c) = sideP a b c := by unfold sideP; rw [pl_zp, pl_zp, pl_zp]
theorem btwP_zp (a b c : Pt) : btwP (zp a) (zp b) (zp c) = btwP a b c := by unfold btwP; rw [pl_zp, pl_zp, pl_zp]
theorem placeB_zp (a b : Pt) : placeB (zp a) b = placeB a b := by unfold placeB; rw [pl_zp]
theorem placeB_self (a : Pt) : placeB a a = true := decide_eq_true rfl
theorem meetM_point (f t e : Pt) (hf : FinP f) (ht : FinP t) (he : FinP e) : meetM f t e e = if btwP f t e = true then ⟨1, false, zp e, (0, 0)⟩ else ⟨0, false, (0, 0), (0, 0)⟩ := by
  have := meet_point (meetX (zp f) (zp t) (zp e) (zp e)) (zp f) (zp t) (zp e) (good_zp hf.1 hf.2) (good_zp ht.1 ht.2) (good_zp he.1 he.2)
  unfold meetM
  rw [this, btwP_zp]
  rfl
end Go.Proofs.YtggfppgjabembaaGreatDoor
