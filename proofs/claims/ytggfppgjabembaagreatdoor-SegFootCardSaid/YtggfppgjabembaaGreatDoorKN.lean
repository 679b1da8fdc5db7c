/- Package seg: foot of a stretch (printed by gen_foot4.py). -/
import Derived.Test.YtggfppgjabembaaGreatDoorKI
import Derived.Test.YtggfppgjabembaaGreatDoorKG
import Derived.Test.YtggfppgjabembaaGreatDoorKA
import Derived.Test.YtggfppgjabembaaGreatDoorKH
namespace Go.Proofs.YtggfppgjabembaaGreatDoor
open Go.RowKit
set_option linter.unusedVariables false
def qo (A B : Option Addr) (q : Rat) : Obj := .cells #[.bool (decide (q.num < 0)), .slice A (qn q).length (qn q).length, .slice B (qd q).length (qd q).length] 45 (0, 0)
structure Mem (n : Nat) (w0 w : World) (L : List (Nat × Obj)) (R : List (Option Addr × Option Addr × Rat)) : Prop where
  b : Below n w0 w
  z : n ≤ w.heap.size
  l : ∀ (i g : Nat) (o : Obj), L[i]? = some (g, o) → w.heap[g]? = some o
  r : ∀ (i : Nat) (A B : Option Addr) (q : Rat), R[i]? = some (A, B, q) → RatFresh n w A B q
theorem Mem.start (w : World) : Mem w.heap.size w w [] [] := ⟨Below.refl _ _, Nat.le_refl _, fun i g o h => by simp at h, fun i A B q h => by simp at h⟩
section
variable {n : Nat} {w0 w w' : World} {L : List (Nat × Obj)} {R : List (Option Addr × Option Addr × Rat)}
theorem Mem.keep (h : Mem n w0 w L R) (k : Below w.heap.size w w') : Mem n w0 w' L R :=
  ⟨h.b.trans (k.mono h.z), Nat.le_trans h.z k.size, fun i g o e => (k.block _ (heap_lt (h.l i g o e))).trans (h.l i g o e), fun i A B q e => (h.r i A B q e).keep (Keep.of k (Nat.le_refl _)) (Nat.le_refl _)⟩
theorem Mem.drewN (h : Mem n w0 w L R) (k : Nat) : Mem n w0 (w.drewN k) L R := h.keep (belowN (Below.refl _ _) k)
theorem Mem.drew (h : Mem n w0 w L R) : Mem n w0 w.drew L R := h.keep (Below.refl _ _).drew
theorem getElem?_snoc {α : Type} {l : List α} {a b : α} {i : Nat} (h : (l ++ [a])[i]? = some b) : l[i]? = some b ∨ (i = l.length ∧ b = a) := by
  by_cases hi : i < l.length
  · rw [List.getElem?_append_left hi] at h; exact Or.inl h
  · rw [List.getElem?_append_right (by omega)] at h
    have : i - l.length = 0 := by
      rcases Nat.eq_zero_or_pos (i - l.length) with e | e
      · exact e
      · rw [List.getElem?_eq_none (by simp; omega)] at h; cases h
    rw [this] at h
    simp at h
    exact Or.inr ⟨by omega, h.symm⟩
theorem Mem.alloc (h : Mem n w0 w L R) (o : Obj) : Mem n w0 (w.alloc o) (L ++ [(w.heap.size, o)]) R := by
  have k := h.keep ((Below.refl _ _).alloc (Nat.le_refl _) o)
  refine ⟨k.b, k.z, fun i g o' e => ?_, k.r⟩
  rcases getElem?_snoc e with e | ⟨_, e⟩
  · exact k.l i g o' e
  · cases e; exact alloc_new w o
theorem Mem.rat (h : Mem n w0 w L R) {lo : Nat} {A B : Option Addr} {q : Rat} (hl : n ≤ lo) (f : RatFresh lo w A B q) : Mem n w0 w L (R ++ [(A, B, q)]) := by
  refine ⟨h.b, h.z, h.l, fun i A' B' q' e => ?_⟩
  rcases getElem?_snoc e with e | ⟨_, e⟩
  · exact h.r i A' B' q' e
  · cases e; exact f.wide hl
theorem Mem.call (h : Mem n w0 w L R) {A B : Option Addr} {q : Rat} (f : RatFresh w.heap.size w' A B q) (k : Below w.heap.size w w') : Mem n w0 w' L (R ++ [(A, B, q)]) := (h.keep k).rat h.z f
theorem Mem.ins (h : Mem n w0 w L R) (i : Nat) {A B : Option Addr} {q : Rat} (e : R[i]? = some (A, B, q)) : RatIn n w.heap.size w A B q := (h.r i A B q e).ins
theorem Mem.arg (h : Mem n w0 w L R) {lo up : Nat} {A B : Option Addr} {q : Rat} (a : RatIn lo up w0 A B q) (hu : up ≤ n) : RatIn lo w.heap.size w A B q := (a.keep (Keep.of h.b hu)).wide (Nat.le_refl _) (Nat.le_trans hu h.z)
theorem Mem.qrow (h : Mem n w0 w L R) (i : Nat) {g : Nat} {A B : Option Addr} {q : Rat} (e : L[i]? = some (g, qo A B q)) :
    w.cell? ⟨g, 0, none⟩ = some (.bool (decide (q.num < 0))) ∧ w.cell? ⟨g, 1, none⟩ = some (.slice A (qn q).length (qn q).length) ∧ w.cell? ⟨g, 2, none⟩ = some (.slice B (qd q).length (qd q).length) ∧ w.frozen? ⟨g, 0, none⟩ = false ∧ w.frozen? ⟨g, 1, none⟩ = false ∧ w.frozen? ⟨g, 2, none⟩ = false := row3 (h.l i g _ e)
def po (p : Pt) : Obj := .cells #[.int .u64 p.1, .int .u64 p.2] 24 (0, 0)
theorem Mem.prow (h : Mem n w0 w L R) (i : Nat) {g : Nat} {p : Pt} (e : L[i]? = some (g, po p)) :
    w.cell? ⟨g, 0, none⟩ = some (.int .u64 p.1) ∧ w.cell? ⟨g, 1, none⟩ = some (.int .u64 p.2) ∧ w.frozen? ⟨g, 0, none⟩ = false ∧ w.frozen? ⟨g, 1, none⟩ = false := row2f (h.l i g _ e)
theorem Mem.lt (h : Mem n w0 w L R) (i : Nat) {g : Nat} {o : Obj} (e : L[i]? = some (g, o)) : g < w.heap.size := heap_lt (h.l i g o e)
theorem RatFresh.off3 {A B : Option Addr} {q : Rat} {g : Nat} {C : Array Value} {t : TypeId} {f : Nat × Nat} (h : RatFresh n w A B q) (row : w.heap[g]? = some (.cells C t f)) (ht : t ≠ 22) (x y z : Value) : RatFresh n (((w.setCell ⟨g, 0, none⟩ x).setCell ⟨g, 1, none⟩ y).setCell ⟨g, 2, none⟩ z) A B q :=
  h.off row ht (fun j hj => by rw [Below.heap_setCell _ _ _ _ hj, Below.heap_setCell _ _ _ _ hj, Below.heap_setCell _ _ _ _ hj])
theorem Mem.setOther (h : Mem n w0 w L R) (i : Nat) {g : Nat} {C : Array Value} {t : TypeId} {f : Nat × Nat} {o : Obj} {w2 : World} (e : L[i]? = some (g, .cells C t f)) (ht : t ≠ 22) (hn : n ≤ g)
    (hb : Below n w0 w2) (hz : w2.heap.size = w.heap.size) (hg : w2.heap[g]? = some o) (ho : ∀ j, j ≠ g → w2.heap[j]? = w.heap[j]?) (hd : ∀ (j : Nat) (o' : Obj), L[j]? = some (g, o') → j = i) : Mem n w0 w2 (L.set i (g, o)) R := by
  refine ⟨hb, by rw [hz]; exact h.z, fun j g' o' e' => ?_, fun j A B q e' => ?_⟩
  · by_cases hj : j = i
    · subst hj
      have hlt : j < L.length := (List.getElem?_eq_some_iff.1 e).1
      rw [List.getElem?_set_self hlt] at e'
      cases e'
      exact hg
    · rw [List.getElem?_set_ne (fun k => hj k.symm)] at e'
      by_cases hgg : g' = g
      · subst hgg; exact absurd (hd j o' e') hj
      · rw [ho g' hgg]; exact h.l j g' o' e'
  · exact (h.r j A B q e').off (h.l i g _ e) ht ho
theorem heap_three_other {g : Nat} {x y z : Value} (j : Nat) (h : j ≠ g) : (((w.setCell ⟨g, 0, none⟩ x).setCell ⟨g, 1, none⟩ y).setCell ⟨g, 2, none⟩ z).heap[j]? = w.heap[j]? := by
  rw [Below.heap_setCell _ _ _ _ h, Below.heap_setCell _ _ _ _ h, Below.heap_setCell _ _ _ _ h]
theorem setCell_size (w : World) (a : Addr) (v : Value) : (w.setCell a v).heap.size = w.heap.size := by unfold World.setCell; simp
theorem Mem.three (h : Mem n w0 w L R) (i : Nat) {g : Nat} {a b c : Value} {t : TypeId} (e : L[i]? = some (g, .cells #[a, b, c] t (0, 0))) (ht : t ≠ 22) (hn : n ≤ g) (hd : ∀ (j : Nat) (o' : Obj), L[j]? = some (g, o') → j = i) (x y z : Value) :
    Mem n w0 (((w.setCell ⟨g, 0, none⟩ x).setCell ⟨g, 1, none⟩ y).setCell ⟨g, 2, none⟩ z) (L.set i (g, .cells #[x, y, z] t (0, 0))) R :=
  h.setOther i e ht hn (((h.b.setCell hn _).setCell hn _).setCell hn _) (by rw [setCell_size, setCell_size, setCell_size]) (heap_set_three (h.l i g _ e) x y z) (fun j hj => heap_three_other j hj) hd
end
end Go.Proofs.YtggfppgjabembaaGreatDoor

namespace Go.Proofs.YtggfppgjabembaaGreatDoor
open Go.RowKit
set_option linter.unusedVariables false
theorem rw1 {w : World} {g : Nat} {x0 : Value} {t : TypeId} (h : w.heap[g]? = some (.cells #[x0] t (0, 0))) : w.cell? ⟨g, 0, none⟩ = some x0 ∧ w.frozen? ⟨g, 0, none⟩ = false :=
  ⟨(cell_of_cells h 0).trans rfl, free_of_cells h 0⟩
theorem rw2 {w : World} {g : Nat} {x0 x1 : Value} {t : TypeId} (h : w.heap[g]? = some (.cells #[x0, x1] t (0, 0))) : w.cell? ⟨g, 0, none⟩ = some x0 ∧ w.cell? ⟨g, 1, none⟩ = some x1 ∧ w.frozen? ⟨g, 0, none⟩ = false ∧ w.frozen? ⟨g, 1, none⟩ = false :=
  ⟨(cell_of_cells h 0).trans rfl, (cell_of_cells h 1).trans rfl, free_of_cells h 0, free_of_cells h 1⟩
theorem rw3 {w : World} {g : Nat} {x0 x1 x2 : Value} {t : TypeId} (h : w.heap[g]? = some (.cells #[x0, x1, x2] t (0, 0))) : w.cell? ⟨g, 0, none⟩ = some x0 ∧ w.cell? ⟨g, 1, none⟩ = some x1 ∧ w.cell? ⟨g, 2, none⟩ = some x2 ∧ w.frozen? ⟨g, 0, none⟩ = false ∧ w.frozen? ⟨g, 1, none⟩ = false ∧ w.frozen? ⟨g, 2, none⟩ = false :=
  ⟨(cell_of_cells h 0).trans rfl, (cell_of_cells h 1).trans rfl, (cell_of_cells h 2).trans rfl, free_of_cells h 0, free_of_cells h 1, free_of_cells h 2⟩
theorem rw4 {w : World} {g : Nat} {x0 x1 x2 x3 : Value} {t : TypeId} (h : w.heap[g]? = some (.cells #[x0, x1, x2, x3] t (0, 0))) : w.cell? ⟨g, 0, none⟩ = some x0 ∧ w.cell? ⟨g, 1, none⟩ = some x1 ∧ w.cell? ⟨g, 2, none⟩ = some x2 ∧ w.cell? ⟨g, 3, none⟩ = some x3 ∧ w.frozen? ⟨g, 0, none⟩ = false ∧ w.frozen? ⟨g, 1, none⟩ = false ∧ w.frozen? ⟨g, 2, none⟩ = false ∧ w.frozen? ⟨g, 3, none⟩ = false :=
  ⟨(cell_of_cells h 0).trans rfl, (cell_of_cells h 1).trans rfl, (cell_of_cells h 2).trans rfl, (cell_of_cells h 3).trans rfl, free_of_cells h 0, free_of_cells h 1, free_of_cells h 2, free_of_cells h 3⟩
theorem rw5 {w : World} {g : Nat} {x0 x1 x2 x3 x4 : Value} {t : TypeId} (h : w.heap[g]? = some (.cells #[x0, x1, x2, x3, x4] t (0, 0))) : w.cell? ⟨g, 0, none⟩ = some x0 ∧ w.cell? ⟨g, 1, none⟩ = some x1 ∧ w.cell? ⟨g, 2, none⟩ = some x2 ∧ w.cell? ⟨g, 3, none⟩ = some x3 ∧ w.cell? ⟨g, 4, none⟩ = some x4 ∧ w.frozen? ⟨g, 0, none⟩ = false ∧ w.frozen? ⟨g, 1, none⟩ = false ∧ w.frozen? ⟨g, 2, none⟩ = false ∧ w.frozen? ⟨g, 3, none⟩ = false ∧ w.frozen? ⟨g, 4, none⟩ = false :=
  ⟨(cell_of_cells h 0).trans rfl, (cell_of_cells h 1).trans rfl, (cell_of_cells h 2).trans rfl, (cell_of_cells h 3).trans rfl, (cell_of_cells h 4).trans rfl, free_of_cells h 0, free_of_cells h 1, free_of_cells h 2, free_of_cells h 3, free_of_cells h 4⟩
theorem rw6 {w : World} {g : Nat} {x0 x1 x2 x3 x4 x5 : Value} {t : TypeId} (h : w.heap[g]? = some (.cells #[x0, x1, x2, x3, x4, x5] t (0, 0))) : w.cell? ⟨g, 0, none⟩ = some x0 ∧ w.cell? ⟨g, 1, none⟩ = some x1 ∧ w.cell? ⟨g, 2, none⟩ = some x2 ∧ w.cell? ⟨g, 3, none⟩ = some x3 ∧ w.cell? ⟨g, 4, none⟩ = some x4 ∧ w.cell? ⟨g, 5, none⟩ = some x5 ∧ w.frozen? ⟨g, 0, none⟩ = false ∧ w.frozen? ⟨g, 1, none⟩ = false ∧ w.frozen? ⟨g, 2, none⟩ = false ∧ w.frozen? ⟨g, 3, none⟩ = false ∧ w.frozen? ⟨g, 4, none⟩ = false ∧ w.frozen? ⟨g, 5, none⟩ = false :=
  ⟨(cell_of_cells h 0).trans rfl, (cell_of_cells h 1).trans rfl, (cell_of_cells h 2).trans rfl, (cell_of_cells h 3).trans rfl, (cell_of_cells h 4).trans rfl, (cell_of_cells h 5).trans rfl, free_of_cells h 0, free_of_cells h 1, free_of_cells h 2, free_of_cells h 3, free_of_cells h 4, free_of_cells h 5⟩
theorem rw7 {w : World} {g : Nat} {x0 x1 x2 x3 x4 x5 x6 : Value} {t : TypeId} (h : w.heap[g]? = some (.cells #[x0, x1, x2, x3, x4, x5, x6] t (0, 0))) : w.cell? ⟨g, 0, none⟩ = some x0 ∧ w.cell? ⟨g, 1, none⟩ = some x1 ∧ w.cell? ⟨g, 2, none⟩ = some x2 ∧ w.cell? ⟨g, 3, none⟩ = some x3 ∧ w.cell? ⟨g, 4, none⟩ = some x4 ∧ w.cell? ⟨g, 5, none⟩ = some x5 ∧ w.cell? ⟨g, 6, none⟩ = some x6 ∧ w.frozen? ⟨g, 0, none⟩ = false ∧ w.frozen? ⟨g, 1, none⟩ = false ∧ w.frozen? ⟨g, 2, none⟩ = false ∧ w.frozen? ⟨g, 3, none⟩ = false ∧ w.frozen? ⟨g, 4, none⟩ = false ∧ w.frozen? ⟨g, 5, none⟩ = false ∧ w.frozen? ⟨g, 6, none⟩ = false :=
  ⟨(cell_of_cells h 0).trans rfl, (cell_of_cells h 1).trans rfl, (cell_of_cells h 2).trans rfl, (cell_of_cells h 3).trans rfl, (cell_of_cells h 4).trans rfl, (cell_of_cells h 5).trans rfl, (cell_of_cells h 6).trans rfl, free_of_cells h 0, free_of_cells h 1, free_of_cells h 2, free_of_cells h 3, free_of_cells h 4, free_of_cells h 5, free_of_cells h 6⟩
theorem rw8 {w : World} {g : Nat} {x0 x1 x2 x3 x4 x5 x6 x7 : Value} {t : TypeId} (h : w.heap[g]? = some (.cells #[x0, x1, x2, x3, x4, x5, x6, x7] t (0, 0))) : w.cell? ⟨g, 0, none⟩ = some x0 ∧ w.cell? ⟨g, 1, none⟩ = some x1 ∧ w.cell? ⟨g, 2, none⟩ = some x2 ∧ w.cell? ⟨g, 3, none⟩ = some x3 ∧ w.cell? ⟨g, 4, none⟩ = some x4 ∧ w.cell? ⟨g, 5, none⟩ = some x5 ∧ w.cell? ⟨g, 6, none⟩ = some x6 ∧ w.cell? ⟨g, 7, none⟩ = some x7 ∧ w.frozen? ⟨g, 0, none⟩ = false ∧ w.frozen? ⟨g, 1, none⟩ = false ∧ w.frozen? ⟨g, 2, none⟩ = false ∧ w.frozen? ⟨g, 3, none⟩ = false ∧ w.frozen? ⟨g, 4, none⟩ = false ∧ w.frozen? ⟨g, 5, none⟩ = false ∧ w.frozen? ⟨g, 6, none⟩ = false ∧ w.frozen? ⟨g, 7, none⟩ = false :=
  ⟨(cell_of_cells h 0).trans rfl, (cell_of_cells h 1).trans rfl, (cell_of_cells h 2).trans rfl, (cell_of_cells h 3).trans rfl, (cell_of_cells h 4).trans rfl, (cell_of_cells h 5).trans rfl, (cell_of_cells h 6).trans rfl, (cell_of_cells h 7).trans rfl, free_of_cells h 0, free_of_cells h 1, free_of_cells h 2, free_of_cells h 3, free_of_cells h 4, free_of_cells h 5, free_of_cells h 6, free_of_cells h 7⟩
theorem rw9 {w : World} {g : Nat} {x0 x1 x2 x3 x4 x5 x6 x7 x8 : Value} {t : TypeId} (h : w.heap[g]? = some (.cells #[x0, x1, x2, x3, x4, x5, x6, x7, x8] t (0, 0))) : w.cell? ⟨g, 0, none⟩ = some x0 ∧ w.cell? ⟨g, 1, none⟩ = some x1 ∧ w.cell? ⟨g, 2, none⟩ = some x2 ∧ w.cell? ⟨g, 3, none⟩ = some x3 ∧ w.cell? ⟨g, 4, none⟩ = some x4 ∧ w.cell? ⟨g, 5, none⟩ = some x5 ∧ w.cell? ⟨g, 6, none⟩ = some x6 ∧ w.cell? ⟨g, 7, none⟩ = some x7 ∧ w.cell? ⟨g, 8, none⟩ = some x8 ∧ w.frozen? ⟨g, 0, none⟩ = false ∧ w.frozen? ⟨g, 1, none⟩ = false ∧ w.frozen? ⟨g, 2, none⟩ = false ∧ w.frozen? ⟨g, 3, none⟩ = false ∧ w.frozen? ⟨g, 4, none⟩ = false ∧ w.frozen? ⟨g, 5, none⟩ = false ∧ w.frozen? ⟨g, 6, none⟩ = false ∧ w.frozen? ⟨g, 7, none⟩ = false ∧ w.frozen? ⟨g, 8, none⟩ = false :=
  ⟨(cell_of_cells h 0).trans rfl, (cell_of_cells h 1).trans rfl, (cell_of_cells h 2).trans rfl, (cell_of_cells h 3).trans rfl, (cell_of_cells h 4).trans rfl, (cell_of_cells h 5).trans rfl, (cell_of_cells h 6).trans rfl, (cell_of_cells h 7).trans rfl, (cell_of_cells h 8).trans rfl, free_of_cells h 0, free_of_cells h 1, free_of_cells h 2, free_of_cells h 3, free_of_cells h 4, free_of_cells h 5, free_of_cells h 6, free_of_cells h 7, free_of_cells h 8⟩
theorem rw10 {w : World} {g : Nat} {x0 x1 x2 x3 x4 x5 x6 x7 x8 x9 : Value} {t : TypeId} (h : w.heap[g]? = some (.cells #[x0, x1, x2, x3, x4, x5, x6, x7, x8, x9] t (0, 0))) : w.cell? ⟨g, 0, none⟩ = some x0 ∧ w.cell? ⟨g, 1, none⟩ = some x1 ∧ w.cell? ⟨g, 2, none⟩ = some x2 ∧ w.cell? ⟨g, 3, none⟩ = some x3 ∧ w.cell? ⟨g, 4, none⟩ = some x4 ∧ w.cell? ⟨g, 5, none⟩ = some x5 ∧ w.cell? ⟨g, 6, none⟩ = some x6 ∧ w.cell? ⟨g, 7, none⟩ = some x7 ∧ w.cell? ⟨g, 8, none⟩ = some x8 ∧ w.cell? ⟨g, 9, none⟩ = some x9 ∧ w.frozen? ⟨g, 0, none⟩ = false ∧ w.frozen? ⟨g, 1, none⟩ = false ∧ w.frozen? ⟨g, 2, none⟩ = false ∧ w.frozen? ⟨g, 3, none⟩ = false ∧ w.frozen? ⟨g, 4, none⟩ = false ∧ w.frozen? ⟨g, 5, none⟩ = false ∧ w.frozen? ⟨g, 6, none⟩ = false ∧ w.frozen? ⟨g, 7, none⟩ = false ∧ w.frozen? ⟨g, 8, none⟩ = false ∧ w.frozen? ⟨g, 9, none⟩ = false :=
  ⟨(cell_of_cells h 0).trans rfl, (cell_of_cells h 1).trans rfl, (cell_of_cells h 2).trans rfl, (cell_of_cells h 3).trans rfl, (cell_of_cells h 4).trans rfl, (cell_of_cells h 5).trans rfl, (cell_of_cells h 6).trans rfl, (cell_of_cells h 7).trans rfl, (cell_of_cells h 8).trans rfl, (cell_of_cells h 9).trans rfl, free_of_cells h 0, free_of_cells h 1, free_of_cells h 2, free_of_cells h 3, free_of_cells h 4, free_of_cells h 5, free_of_cells h 6, free_of_cells h 7, free_of_cells h 8, free_of_cells h 9⟩
theorem rw12 {w : World} {g : Nat} {x0 x1 x2 x3 x4 x5 x6 x7 x8 x9 x10 x11 : Value} {t : TypeId} (h : w.heap[g]? = some (.cells #[x0, x1, x2, x3, x4, x5, x6, x7, x8, x9, x10, x11] t (0, 0))) : w.cell? ⟨g, 0, none⟩ = some x0 ∧ w.cell? ⟨g, 1, none⟩ = some x1 ∧ w.cell? ⟨g, 2, none⟩ = some x2 ∧ w.cell? ⟨g, 3, none⟩ = some x3 ∧ w.cell? ⟨g, 4, none⟩ = some x4 ∧ w.cell? ⟨g, 5, none⟩ = some x5 ∧ w.cell? ⟨g, 6, none⟩ = some x6 ∧ w.cell? ⟨g, 7, none⟩ = some x7 ∧ w.cell? ⟨g, 8, none⟩ = some x8 ∧ w.cell? ⟨g, 9, none⟩ = some x9 ∧ w.cell? ⟨g, 10, none⟩ = some x10 ∧ w.cell? ⟨g, 11, none⟩ = some x11 ∧ w.frozen? ⟨g, 0, none⟩ = false ∧ w.frozen? ⟨g, 1, none⟩ = false ∧ w.frozen? ⟨g, 2, none⟩ = false ∧ w.frozen? ⟨g, 3, none⟩ = false ∧ w.frozen? ⟨g, 4, none⟩ = false ∧ w.frozen? ⟨g, 5, none⟩ = false ∧ w.frozen? ⟨g, 6, none⟩ = false ∧ w.frozen? ⟨g, 7, none⟩ = false ∧ w.frozen? ⟨g, 8, none⟩ = false ∧ w.frozen? ⟨g, 9, none⟩ = false ∧ w.frozen? ⟨g, 10, none⟩ = false ∧ w.frozen? ⟨g, 11, none⟩ = false :=
  ⟨(cell_of_cells h 0).trans rfl, (cell_of_cells h 1).trans rfl, (cell_of_cells h 2).trans rfl, (cell_of_cells h 3).trans rfl, (cell_of_cells h 4).trans rfl, (cell_of_cells h 5).trans rfl, (cell_of_cells h 6).trans rfl, (cell_of_cells h 7).trans rfl, (cell_of_cells h 8).trans rfl, (cell_of_cells h 9).trans rfl, (cell_of_cells h 10).trans rfl, (cell_of_cells h 11).trans rfl, free_of_cells h 0, free_of_cells h 1, free_of_cells h 2, free_of_cells h 3, free_of_cells h 4, free_of_cells h 5, free_of_cells h 6, free_of_cells h 7, free_of_cells h 8, free_of_cells h 9, free_of_cells h 10, free_of_cells h 11⟩
theorem results_rows2 {P : Program} {fn : Func} {p p' u : Tmp} {ty ty' : TypeId} (h : fn.results = #[.cell p ty, .cell p' ty', .tmp u]) (tmps : Array Value) (w : World) (g g' : Nat) (t : TypeId) (cs : Array Value) (fr : Nat × Nat) (d : TypeDesc) (t' : TypeId) (cs' : Array Value) (fr' : Nat × Nat) (d' : TypeDesc)
    (hp : tmps.getD p undef = .pointer (some ⟨g, 0, none⟩)) (hp' : tmps.getD p' undef = .pointer (some ⟨g', 0, none⟩)) (hg : w.heap[g]? = some (.cells cs t fr)) (hg' : w.heap[g']? = some (.cells cs' t' fr'))
    (hu : P.underlying ty = some d) (hd : (match d with | .struct _ | .array _ _ => true | _ => false) = true) (hi : (P.info? ty).map (·.size) = some cs.size)
    (hu' : P.underlying ty' = some d') (hd' : (match d' with | .struct _ | .array _ _ => true | _ => false) = true) (hi' : (P.info? ty').map (·.size) = some cs'.size) :
    (results fn tmps).run P w = .ok (.tuple #[.agg cs, .agg cs', tmps.getD u undef]) w := by
  have h1 : tmps[p]?.getD undef = .pointer (some ⟨g, 0, none⟩) := by simpa using hp
  have h2 : tmps[p']?.getD undef = .pointer (some ⟨g', 0, none⟩) := by simpa using hp'
  simp [results, h, h1, h2, asAddr, run_loadVar_row w g t ty cs fr d hg hu hd hi, run_loadVar_row w g' t' ty' cs' fr' d' hg' hu' hd' hi']
section
open Go.Proofs.YtggfppgjabembaaGreatDoorW.PrintLast
theorem nx {P : Program} {ops : Array Oper} {Q : Exit → Act → World → Prop} {md : Region.Mode} {S : World → Prop} {ds : List Nat} {a' : Act} {fuel : Nat} {l : Array Bool} {a : Act} {w : World} (h : wpAnyLast P md ops Q S ds fuel l a' w)
    (ha : a = a' := by simp only [putAll, pA, pB, pC, pD, qv, pv, pt, st]; rfl) : wpAnyLast P md ops Q S ds fuel l a w := norm_ ha h
end
def zR : Obj := .cells #[.bool false, .slice none 0 0, .slice none 0 0] 45 (0, 0)
def zV : Obj := .cells #[.bool false, .slice none 0 0, .slice none 0 0, .bool false, .slice none 0 0, .slice none 0 0] 89 (0, 0)
def zS : Obj := .cells #[.int .u64 0, .int .u64 0, .int .u64 0, .int .u64 0] 80 (0, 0)
def zP : Obj := .cells #[.int .u64 0, .int .u64 0] 77 (0, 0)
structure Bx (n : Nat) (w0 w : World) (L : List (Nat × Obj)) (R : List (Option Addr × Option Addr × Rat)) : Prop where
  m : Mem n w0 w L R
  g : ∀ (i g : Nat) (o : Obj), L[i]? = some (g, o) → n ≤ g
  d : ∀ (i j g : Nat) (o o' : Obj), L[i]? = some (g, o) → L[j]? = some (g, o') → i = j
def puts (g : Nat) : List (Nat × Value) → World → World
  | [], w => w
  | (k, v) :: r, w => puts g r (w.setCell ⟨g, k, none⟩ v)
def putsC : List (Nat × Value) → Array Value → Array Value
  | [], C => C
  | (k, v) :: r, C => putsC r (C.setIfInBounds k v)
theorem puts_size (g : Nat) : ∀ (vs : List (Nat × Value)) (w : World), (puts g vs w).heap.size = w.heap.size
  | [], w => rfl
  | (k, v) :: r, w => (puts_size g r _).trans (setCell_size _ _ _)
theorem puts_other {g j : Nat} (h : j ≠ g) : ∀ (vs : List (Nat × Value)) (w : World), (puts g vs w).heap[j]? = w.heap[j]?
  | [], w => rfl
  | (k, v) :: r, w => (puts_other h r _).trans (Below.heap_setCell _ _ _ _ h)
theorem puts_at {g : Nat} {t : TypeId} {f : Nat × Nat} : ∀ (vs : List (Nat × Value)) (w : World) (C : Array Value), w.heap[g]? = some (.cells C t f) → (puts g vs w).heap[g]? = some (.cells (putsC vs C) t f)
  | [], w, C, h => h
  | (k, v) :: r, w, C, h => puts_at r _ _ (heap_set_cell h k v)
theorem puts_below {n g : Nat} {w0 : World} (hn : n ≤ g) : ∀ (vs : List (Nat × Value)) (w : World), Below n w0 w → Below n w0 (puts g vs w)
  | [], w, h => h
  | (k, v) :: r, w, h => puts_below hn r _ (h.setCell hn _)
section
variable {n : Nat} {w0 w w' : World} {L L' : List (Nat × Obj)} {R R' : List (Option Addr × Option Addr × Rat)}
theorem Bx.start (w : World) : Bx w.heap.size w w [] [] := ⟨Mem.start w, fun i g o h => by simp at h, fun i j g o o' h => by simp at h⟩
theorem Bx.keep (h : Bx n w0 w L R) (k : Below w.heap.size w w') : Bx n w0 w' L R := ⟨h.m.keep k, h.g, h.d⟩
theorem Bx.drew (h : Bx n w0 w L R) : Bx n w0 w.drew L R := ⟨h.m.drew, h.g, h.d⟩
theorem Bx.alloc (h : Bx n w0 w L R) (o : Obj) : Bx n w0 (w.alloc o) (L ++ [(w.heap.size, o)]) R := by
  refine ⟨h.m.alloc o, fun i g o' e => ?_, fun i j g o1 o2 e1 e2 => ?_⟩
  · rcases getElem?_snoc e with e | ⟨_, e⟩
    · exact h.g i g o' e
    · cases e; exact h.m.z
  · rcases getElem?_snoc e1 with e1 | ⟨i1, e1⟩ <;> rcases getElem?_snoc e2 with e2 | ⟨i2, e2⟩
    · exact h.d i j g o1 o2 e1 e2
    · cases e2; exact absurd (heap_lt (h.m.l i _ o1 e1)) (Nat.lt_irrefl _)
    · cases e1; exact absurd (heap_lt (h.m.l j _ o2 e2)) (Nat.lt_irrefl _)
    · rw [i1, i2]
theorem Bx.rat (h : Bx n w0 w L R) {lo : Nat} {A B : Option Addr} {q : Rat} (hl : n ≤ lo) (f : RatFresh lo w A B q) : Bx n w0 w L (R ++ [(A, B, q)]) := ⟨h.m.rat hl f, h.g, h.d⟩
theorem Bx.call (h : Bx n w0 w L R) {A B : Option Addr} {q : Rat} (f : RatFresh w.heap.size w' A B q) (k : Below w.heap.size w w') : Bx n w0 w' L (R ++ [(A, B, q)]) := (h.keep k).rat h.m.z f
theorem Bx.call2 (h : Bx n w0 w L R) {A B C D : Option Addr} {x : Pl} (f : PlFresh w.heap.size w' A B C D x) (k : Below w.heap.size w w') : Bx n w0 w' L ((R ++ [(A, B, x.1)]) ++ [(C, D, x.2)]) := ((h.keep k).rat h.m.z f.h1).rat h.m.z f.h2
theorem Bx.call3 (h : Bx n w0 w L R) {A B C D : Option Addr} {x y : Rat} (f : RatFresh w.heap.size w' A B x) (f' : RatFresh w.heap.size w' C D y) (k : Below w.heap.size w w') : Bx n w0 w' L ((R ++ [(A, B, x)]) ++ [(C, D, y)]) := ((h.keep k).rat h.m.z f).rat h.m.z f'
theorem Bx.ins (h : Bx n w0 w L R) (i : Nat) {A B : Option Addr} {q : Rat} (e : R[i]? = some (A, B, q)) : RatIn 0 w.heap.size w A B q := (h.m.ins i e).wide (Nat.zero_le _) (Nat.le_refl _)
theorem Bx.arg (h : Bx n w0 w L R) {lo up : Nat} {A B : Option Addr} {q : Rat} (a : RatIn lo up w0 A B q) (hu : up ≤ n) : RatIn 0 w.heap.size w A B q := (h.m.arg a hu).wide (Nat.zero_le _) (Nat.le_refl _)
theorem Bx.fresh (h : Bx n w0 w L R) (i : Nat) {A B : Option Addr} {q : Rat} (e : R[i]? = some (A, B, q)) : RatFresh n w A B q := h.m.r i A B q e
theorem Bx.at (h : Bx n w0 w L R) (i : Nat) {g : Nat} {o : Obj} (e : L[i]? = some (g, o)) : w.heap[g]? = some o := h.m.l i g o e
theorem Bx.lt (h : Bx n w0 w L R) (i : Nat) {g : Nat} {o : Obj} (e : L[i]? = some (g, o)) : g < w.heap.size := heap_lt (h.m.l i g o e)
theorem Bx.ne (h : Bx n w0 w L R) (i j : Nat) {g g' : Nat} {o o' : Obj} (e : L[i]? = some (g, o)) (e' : L[j]? = some (g', o')) (hij : i ≠ j) : g ≠ g' := by
  rintro rfl; exact hij (h.d i j _ o o' e e')
theorem Bx.puts (h : Bx n w0 w L R) (i : Nat) {g : Nat} {C : Array Value} {t : TypeId} (e : L[i]? = some (g, .cells C t (0, 0))) (ht : t ≠ 22) (vs : List (Nat × Value)) :
    Bx n w0 (puts g vs w) (L.set i (g, .cells (putsC vs C) t (0, 0))) R := by
  refine ⟨h.m.setOther i e ht (h.g i g _ e) (puts_below (h.g i g _ e) vs w h.m.b) (puts_size g vs w) (puts_at vs w C (h.m.l i g _ e)) (fun j hj => puts_other hj vs w) (fun j o' e' => (h.d i j g _ _ e e').symm), fun j g' o' e' => ?_, fun j k g' o1 o2 e1 e2 => ?_⟩
  · by_cases hj : j = i
    · subst hj
      rw [List.getElem?_set_self (List.getElem?_eq_some_iff.1 e).1] at e'
      cases e'; exact h.g j g _ e
    · rw [List.getElem?_set_ne (fun k => hj k.symm)] at e'; exact h.g j g' o' e'
  · have key : ∀ (j g' : Nat) (o1 : Obj), (L.set i (g, Obj.cells (putsC vs C) t (0, 0)))[j]? = some (g', o1) → ∃ o2, L[j]? = some (g', o2) := by
      intro j g' o1 e1
      by_cases hj : j = i
      · subst hj
        rw [List.getElem?_set_self (List.getElem?_eq_some_iff.1 e).1] at e1
        cases e1; exact ⟨_, e⟩
      · rw [List.getElem?_set_ne (fun k => hj k.symm)] at e1; exact ⟨_, e1⟩
    obtain ⟨_, f1⟩ := key j g' o1 e1
    obtain ⟨_, f2⟩ := key k g' o2 e2
    exact h.d j k g' _ _ f1 f2
theorem getElem?_app {α : Type} {l l' : List α} {i : Nat} {a : α} (h : (l ++ l')[i]? = some a) : (i < l.length ∧ l[i]? = some a) ∨ (l.length ≤ i ∧ l'[i - l.length]? = some a) := by
  by_cases hi : i < l.length
  · left; exact ⟨hi, by rw [List.getElem?_append_left hi] at h; exact h⟩
  · right; exact ⟨by omega, by rw [List.getElem?_append_right (by omega)] at h; exact h⟩
theorem Bx.join (h : Bx n w0 w L R) (k : Bx w.heap.size w w' L' R') : Bx n w0 w' (L ++ L') (R ++ R') := by
  have hk := h.m.keep k.m.b
  refine ⟨⟨hk.b, hk.z, fun i g o e => ?_, fun i A B q e => ?_⟩, fun i g o e => ?_, fun i j g o o' e1 e2 => ?_⟩
  · rcases getElem?_app e with ⟨_, e⟩ | ⟨_, e⟩
    · exact hk.l i g o e
    · exact k.m.l _ g o e
  · rcases getElem?_app e with ⟨_, e⟩ | ⟨_, e⟩
    · exact hk.r i A B q e
    · exact (k.m.r _ A B q e).wide h.m.z
  · rcases getElem?_app e with ⟨_, e⟩ | ⟨_, e⟩
    · exact h.g i g o e
    · exact Nat.le_trans h.m.z (k.g _ g o e)
  · rcases getElem?_app e1 with ⟨_, e1⟩ | ⟨i1, e1⟩ <;> rcases getElem?_app e2 with ⟨_, e2⟩ | ⟨i2, e2⟩
    · exact h.d i j g o o' e1 e2
    · exact absurd (heap_lt (h.m.l i g o e1)) (Nat.not_lt.2 (k.g _ g o' e2))
    · exact absurd (heap_lt (h.m.l j g o' e2)) (Nat.not_lt.2 (k.g _ g o e1))
    · have := k.d _ _ g o o' e1 e2; omega
theorem Bx.pre (h : Bx n w0 w L' R') (hL : L <+: L') (hR : R <+: R') : Bx n w0 w L R := by
  have key : ∀ {α : Type} {l l' : List α} (i : Nat) (x : α), l <+: l' → l[i]? = some x → l'[i]? = some x := by
    rintro α l l' i x ⟨t, rfl⟩ e
    rw [List.getElem?_append_left (List.getElem?_eq_some_iff.1 e).1]; exact e
  exact ⟨⟨h.m.b, h.m.z, fun i g o e => h.m.l i g o (key i _ hL e), fun i A B q e => h.m.r i A B q (key i _ hR e)⟩, fun i g o e => h.g i g o (key i _ hL e), fun i j g o o' e e' => h.d i j g o o' (key i _ hL e) (key j _ hL e')⟩
theorem Bx.pack (h : Bx n w0 w L R) : ∃ Rel : World → Prop, Rel w ∧ (∀ w', Rel w' → Bx n w0 w' L R) ∧ (∀ w', Bx n w0 w' L R → Rel w') := ⟨fun w' => Bx n w0 w' L R, h, fun _ h => h, fun _ h => h⟩
theorem Bx.sel (h : Bx n w0 w L R) (f : Nat → Nat) (hL : ∀ (i : Nat) (x : Nat × Obj), L'[i]? = some x → L[f i]? = some x) (hf : ∀ i j, i < L'.length → j < L'.length → f i = f j → i = j)
    (hR : ∀ x, x ∈ R' → x ∈ R) : Bx n w0 w L' R' := by
  refine ⟨⟨h.m.b, h.m.z, fun i g o e => h.m.l (f i) g o (hL i _ e), fun i A B q e => ?_⟩, fun i g o e => h.g (f i) g o (hL i _ e), fun i j g o o' e1 e2 => ?_⟩
  · obtain ⟨j, hj⟩ := List.getElem?_of_mem (hR _ (List.mem_of_getElem? e))
    exact h.m.r j A B q hj
  · exact hf i j (List.getElem?_eq_some_iff.1 e1).1 (List.getElem?_eq_some_iff.1 e2).1 (h.d (f i) (f j) g o o' (hL i _ e1) (hL j _ e2))
end
end Go.Proofs.YtggfppgjabembaaGreatDoor

namespace Go.Proofs.YtggfppgjabembaaGreatDoor
open Go.RowKit Go.Proofs.YtggfppgjabembaaGreatDoorW.PrintLast
set_option linter.unusedVariables false
set_option linter.unusedSimpArgs false
set_option maxRecDepth 100000 in
set_option maxHeartbeats 3200000 in
theorem vDot (A B C D A2 B2 C2 D2 : Option Addr) (lo up m n : Nat) (x y : Pl) (w : World) (hp : PlIn lo up w A B C D x) (hq : PlIn lo up w A2 B2 C2 D2 y) (hu : up ≤ w.heap.size) (hs : PSz m x) (ht : PSz n y) (hmn : 2 * (m + n) + 1 ≤ 262144) :
    Calls Tryz.prog 63 #[pv A B C D x, pv A2 B2 C2 D2 y] w fun e w' => ∃ E F, e = .returned (qv E F (x.1 * y.1 + x.2 * y.2)) ∧ RatFresh w.heap.size w' E F (x.1 * y.1 + x.2 * y.2) ∧ Below w.heap.size w w' := by
  obtain ⟨h1, h2, h3, h4, h5⟩ := three_new w (.cells #[.bool (decide (x.1.num < 0)), .slice A (qn x.1).length (qn x.1).length, .slice B (qd x.1).length (qd x.1).length, .bool (decide (x.2.num < 0)), .slice C (qn x.2).length (qn x.2).length, .slice D (qd x.2).length (qd x.2).length] 89) (.cells #[.bool (decide (y.1.num < 0)), .slice A2 (qn y.1).length (qn y.1).length, .slice B2 (qd y.1).length (qd y.1).length, .bool (decide (y.2.num < 0)), .slice C2 (qn y.2).length (qn y.2).length, .slice D2 (qd y.2).length (qd y.2).length] 89) (.cells #[.bool false, .slice none 0 0, .slice none 0 0] 45)
  have HC : Hid (∀ wz, Below w.heap.size w wz → _ ∧ _) := Lib.hid (fun wz (hz : Below w.heap.size w wz) => And.intro (sMul A B A2 B2 lo up m n x.1 y.1 wz (hp.h1.keep (Keep.of hz hu)) (hq.h1.keep (Keep.of hz hu)) (Nat.le_trans hu hz.size) hs.1 ht.1 (by omega)) (sMul C D C2 D2 lo up m n x.2 y.2 wz (hp.h2.keep (Keep.of hz hu)) (hq.h2.keep (Keep.of hz hu)) (Nat.le_trans hu hz.size) hs.2 ht.2 (by omega)))
  have HSz := Lib.hid (And.intro (hs.1.mul ht.1) (hs.2.mul ht.2))
  clear hp hq hs ht
  generalize x.1 * y.1 = z1 at *
  generalize x.2 * y.2 = z2 at *
  have HD := Lib.hid (fun (E F E2 F2 : Option Addr) (up wz) (h1 : RatIn 0 up wz E F z1) (h2 : RatIn 0 up wz E2 F2 z2) (hz : up ≤ wz.heap.size) => sAdd E F E2 F2 0 up (m + n) (m + n) z1 z2 wz h1 h2 hz HSz.out.1 HSz.out.2 (by omega))
  generalize z1 + z2 = r at *
  unfold pv
  go_enter Tryz.func63, Tryz.ntmps63
  ((try dsimp only); repeat (first | go_values | go_skip | go_guarded | go_step | go_upon))
  generalize World.alloc (World.alloc (World.alloc w _) _) _ = w3 at *
  have hS : VecS w w.heap.size (.cells #[.bool false, .slice none 0 0, .slice none 0 0] 45 (0, 0)) A B C D A2 B2 C2 D2 x y w3.drew := ⟨h5.drew, (Six.row h1 : Six w3 _ 0 _ _ _ _ _).keep (Below.refl w3.heap.size w3).drew (by omega), (Six.row h2 : Six w3 _ 0 _ _ _ _ _).keep (Below.refl w3.heap.size w3).drew (by omega), h3⟩
  clear h1 h2 h3 h5
  refine start_ (n := 12) (S := fun w' => VecS w w.heap.size (.cells #[.bool false, .slice none 0 0, .slice none 0 0] 45 (0, 0)) A B C D A2 B2 C2 D2 x y w') (ds := [11]) (bt 12 0) (by kernel_rfl) rfl rfl (hS) (fun hHeld => ?_)
  refine pv_ 0 5 ?_
  refine ld_ 1 6 ?_ hHeld ?_ ?_; rotate_left
  · rintro w' ⟨_, ⟨q0, q1, q2, q3, q4, q5⟩, ⟨r0, r1, r2, r3, r4, r5⟩, _⟩
    go_simp; with_reducible rfl
  refine pv_ 2 7 ?_
  refine ld_ 3 8 ?_ hHeld ?_ ?_; rotate_left
  · rintro w' ⟨_, ⟨q0, q1, q2, q3, q4, q5⟩, ⟨r0, r1, r2, r3, r4, r5⟩, _⟩
    go_simp; with_reducible rfl
  refine pv_ 5 10 ?_
  refine ld_ 6 11 ?_ hHeld ?_ ?_; rotate_left
  · rintro w' ⟨_, ⟨q0, q1, q2, q3, q4, q5⟩, ⟨r0, r1, r2, r3, r4, r5⟩, _⟩
    go_simp; with_reducible rfl
  refine pv_ 7 12 ?_
  refine ld_ 8 13 ?_ hHeld ?_ ?_; rotate_left
  · rintro w' ⟨_, ⟨q0, q1, q2, q3, q4, q5⟩, ⟨r0, r1, r2, r3, r4, r5⟩, _⟩
    go_simp; with_reducible rfl
  refine ca 4 9 Tryz.func81 rfl rfl (by kernel_rfl) (by decide) (by kernel_rfl) rfl #[qv A B x.1, qv A2 B2 y.1] (by rfl) rfl (by first | rfl | (simp [Act.eval]; done) | (simp [Act.eval, qv]; done) | (go_simp; rfl)) ?_
  with_reducible refine ((HC.out _ hHeld.b).1).mono ?_
  rintro e w' ⟨E, F, rfl, hf1, hb1⟩
  unfold qv
  refine ⟨_, rfl, (by first | (exact hHeld.keep hb3) | (exact hHeld.keep hb2) | (exact hHeld.keep hb1)), fun hHeld => ?_⟩
  refine nn ?_
  refine ca 9 14 Tryz.func81 rfl rfl (by kernel_rfl) (by decide) (by kernel_rfl) rfl #[qv C D x.2, qv C2 D2 y.2] (by rfl) rfl (by first | rfl | (simp [Act.eval]; done) | (simp [Act.eval, qv]; done) | (go_simp; rfl)) ?_
  with_reducible refine ((HC.out _ hHeld.b).2).mono ?_
  rintro e w' ⟨E2, F2, rfl, hf2, hb2⟩
  unfold qv
  refine ⟨_, rfl, (by first | (exact hHeld.keep hb3) | (exact hHeld.keep hb2) | (exact hHeld.keep hb1)), fun hHeld => ?_⟩
  refine nn ?_
  refine ca 10 15 Tryz.func105 rfl rfl (by kernel_rfl) (by decide) (by kernel_rfl) rfl #[qv E F z1, qv E2 F2 z2] (by rfl) rfl (by first | rfl | (simp [Act.eval]; done) | (simp [Act.eval, qv]; done) | (go_simp; rfl)) ?_
  with_reducible refine (HD.out E F E2 F2 _ _ (((hf1.ins.keep (Keep.of hb2 (Nat.le_refl _))).wide (Nat.zero_le _) hb2.size)) (hf2.ins.wide (Nat.zero_le _) (Nat.le_refl _)) (Nat.le_refl _)).mono ?_
  rintro e w' ⟨E3, F3, rfl, hf3, hb3⟩
  unfold qv
  refine ⟨_, rfl, (by first | (exact hHeld.keep hb3) | (exact hHeld.keep hb2) | (exact hHeld.keep hb1)), fun hHeld => ?_⟩
  refine nn ?_
  refine last_ (i := 11) (N := none) (bt 12 4095) rfl rfl (by kernel_rfl) (by decide) (fun K hK => ?_)
  have HZ := Lib.hid (And.intro hHeld.r (And.intro hHeld.b hf3))
  obtain ⟨d0, d1, d2, g0, g1, g2⟩ := row3 hHeld.r
  have HS1 := Lib.hid hb1.size
  have HS2 := Lib.hid hb2.size
  clear hHeld hf1 hf2 hf3 hb1 hb2 hb3
  refine skip_ (w1 := ?_) (by rfl) rfl ?_ ?_
  rotate_left
  · go_simp
    rfl
  refine hK.out _ _ ?_
  clear hK K
  refine done_ (by kernel_rfl) ?_
  ((try dsimp only); repeat (first | go_values | go_skip | go_guarded | go_step | go_upon))
  obtain ⟨k1, k2, k3⟩ := HZ.out
  have u1 := HS1.out
  have u2 := HS2.out
  refine bodyPost_ret (results_cell_row rfl _ _ (w.heap.size + 2) _ _ _ _ rfl (heap_set_three k1 _ _ _) rfl rfl rfl) rfl ?_
  have h4' : w3.drew.heap.size = w.heap.size + 3 := h4
  exact ⟨E3, F3, rfl, (rat_three (by omega) k3).wide (by omega), below_three (by omega) k2⟩
end Go.Proofs.YtggfppgjabembaaGreatDoor

namespace Go.Proofs.YtggfppgjabembaaGreatDoor
set_option linter.unusedVariables false
set_option linter.unusedSimpArgs false
def dotR (u v : Pl) : Rat := u.1 * v.1 + u.2 * v.2
def wayR (a b : Pl) : Pl := (b.1 - a.1, b.2 - a.2)
def rawK (a b p : Pl) : Rat := dotR (wayR a p) (wayR a b) / dotR (wayR a b) (wayR a b)
def cl1 (k : Rat) : Rat := if 0 < qcmp k 1 then 1 else k
def cl0 (k : Rat) : Rat := if qsgn k < 0 then 0 else k
def clK (k : Rat) : Rat := cl0 (cl1 k)
def onR (a b : Pl) (k : Rat) : Pl := (a.1 + k * (wayR a b).1, a.2 + k * (wayR a b).2)
def ftR (a b p : Pl) : Pl := if a = b then a else onR a b (clK (rawK a b p))
def farR (a b p : Pl) : Rat := dotR (wayR (ftR a b p) p) (wayR (ftR a b p) p)
theorem pcmp_ge {a b : Pl} : 0 ≤ pcmp a b ↔ pcmp b a ≤ 0 := by rw [pcmp_swap b a]; omega
theorem qcmp_pos {a b : Rat} : 0 < qcmp a b ↔ b < a := by
  rcases qcmp_cases a b with ⟨h, k⟩ | ⟨h, k⟩ | ⟨h, k⟩ <;> rw [h] <;> constructor <;> intro x <;> first | grind | omega
theorem qcmp_nonpos {a b : Rat} : qcmp a b ≤ 0 ↔ a ≤ b := by
  rcases qcmp_cases a b with ⟨h, k⟩ | ⟨h, k⟩ | ⟨h, k⟩ <;> rw [h] <;> constructor <;> intro x <;> first | grind | omega
theorem qcmp_nonneg {a b : Rat} : 0 ≤ qcmp a b ↔ b ≤ a := by
  rcases qcmp_cases a b with ⟨h, k⟩ | ⟨h, k⟩ | ⟨h, k⟩ <;> rw [h] <;> constructor <;> intro x <;> first | grind | omega
theorem qsgn_lt0 {a : Rat} : qsgn a < 0 ↔ a < 0 := by
  rw [← qsgn_neg]
  rcases qsgn_cases a with h | h | h <;> rw [h] <;> decide
theorem clK_is (k : Rat) : (k < 0 ∧ clK k = 0) ∨ (0 ≤ k ∧ k ≤ 1 ∧ clK k = k) ∨ (1 < k ∧ clK k = 1) := by
  unfold clK cl0 cl1
  by_cases h : 0 < qcmp k 1
  · rw [if_pos h]
    right; right
    refine ⟨qcmp_pos.1 h, ?_⟩
    rw [if_neg (by decide)]
  · rw [if_neg h]
    have h1 : k ≤ 1 := by have := mt qcmp_pos.2 h; grind
    by_cases h0 : qsgn k < 0
    · left; exact ⟨qsgn_lt0.1 h0, if_pos h0⟩
    · right; left
      have := mt qsgn_lt0.2 h0
      exact ⟨by grind, h1, if_neg h0⟩
theorem clK_range (k : Rat) : 0 ≤ clK k ∧ clK k ≤ 1 := by
  rcases clK_is k with h | h | h <;> grind
theorem clK_flip (k : Rat) : clK (1 - k) = 1 - clK k := by
  rcases clK_is k with h | h | h <;> rcases clK_is (1 - k) with h' | h' | h' <;> grind
theorem sq_nonneg (x : Rat) : 0 ≤ x * x := by
  rcases (Rat.le_total : (0 : Rat) ≤ x ∨ x ≤ 0) with h | h
  · exact Rat.mul_nonneg h h
  · have := Rat.mul_nonneg (show (0 : Rat) ≤ -x by grind) (show (0 : Rat) ≤ -x by grind)
    grind
theorem sq_pos {x : Rat} (h : x ≠ 0) : 0 < x * x := by
  have := sq_nonneg x
  have : x * x ≠ 0 := by grind
  grind
theorem dot_self (u : Pl) : 0 ≤ dotR u u := by unfold dotR; have := sq_nonneg u.1; have := sq_nonneg u.2; grind
theorem dot_zero {u : Pl} (h : dotR u u = 0) : u = (0, 0) := by
  unfold dotR at h
  have h1 := sq_nonneg u.1
  have h2 := sq_nonneg u.2
  have e1 : u.1 = 0 := Classical.byContradiction fun e => by have := sq_pos e; grind
  have e2 : u.2 = 0 := Classical.byContradiction fun e => by have := sq_pos e; grind
  exact Prod.ext e1 e2
theorem way_zero {a b : Pl} (h : wayR a b = (0, 0)) : a = b := by
  unfold wayR at h
  rw [Prod.mk.injEq] at h
  exact Prod.ext (by grind) (by grind)
theorem dot_pos {a b : Pl} (h : a ≠ b) : 0 < dotR (wayR a b) (wayR a b) := by
  have h1 := dot_self (wayR a b)
  have : dotR (wayR a b) (wayR a b) ≠ 0 := fun e => h (way_zero (dot_zero e))
  grind
theorem dot_num {a b : Pl} (h : a ≠ b) : (dotR (wayR a b) (wayR a b)).num ≠ 0 := by
  have h1 := dot_pos h
  intro e
  rw [Rat.num_eq_zero] at e
  grind
theorem rawK_mul {a b p : Pl} (h : a ≠ b) : rawK a b p * dotR (wayR a b) (wayR a b) = dotR (wayR a p) (wayR a b) :=
  Rat.div_mul_cancel (by have := dot_pos h; grind)
theorem rat_cancel {x y z : Rat} (h : z ≠ 0) (e : x * z = y * z) : x = y := by grind
theorem rawK_swap {a b p : Pl} (h : a ≠ b) : rawK b a p = 1 - rawK a b p := by
  have h1 := rawK_mul (p := p) h
  have h2 := rawK_mul (p := p) (fun e => h e.symm : b ≠ a)
  have h3 := dot_pos h
  refine rat_cancel (z := dotR (wayR a b) (wayR a b)) (by grind) ?_
  have e : dotR (wayR b a) (wayR b a) = dotR (wayR a b) (wayR a b) := by unfold dotR wayR; grind
  rw [e] at h2
  rw [h2]
  have : (1 - rawK a b p) * dotR (wayR a b) (wayR a b) = dotR (wayR a b) (wayR a b) - dotR (wayR a p) (wayR a b) := by rw [← h1]; grind
  rw [this]
  unfold dotR wayR
  grind
theorem ft_swap (a b p : Pl) : ftR b a p = ftR a b p := by
  unfold ftR
  by_cases h : a = b
  · subst h; rfl
  · rw [if_neg h, if_neg (fun e => h e.symm), rawK_swap h, clK_flip]
    unfold onR wayR
    exact Prod.ext (by dsimp only; grind) (by dsimp only; grind)
theorem far_swap (a b p : Pl) : farR b a p = farR a b p := by unfold farR; rw [ft_swap]
theorem on_area (a b : Pl) (k : Rat) : area2 a b (onR a b k) = 0 := by unfold area2 onR wayR; grind
theorem ft_area (a b p : Pl) : area2 a b (ftR a b p) = 0 := by
  unfold ftR
  split
  · rename_i h; subst h; unfold area2; grind
  · exact on_area _ _ _
theorem on_same {a : Pl} (k : Rat) : onR a a k = a := by unfold onR wayR; exact Prod.ext (by dsimp only; grind) (by dsimp only; grind)
theorem ft_on (a b p : Pl) : ∃ k, 0 ≤ k ∧ k ≤ 1 ∧ ftR a b p = onR a b k := by
  unfold ftR
  split
  · rename_i h; subst h; exact ⟨0, by grind, by grind, (on_same 0).symm⟩
  · exact ⟨_, (clK_range _).1, (clK_range _).2, rfl⟩
theorem mul_between {k u : Rat} (h0 : 0 ≤ k) (h1 : k ≤ 1) : (0 ≤ u ∧ 0 ≤ k * u ∧ k * u ≤ u) ∨ (u ≤ 0 ∧ k * u ≤ 0 ∧ u ≤ k * u) := by
  rcases (Rat.le_total : (0 : Rat) ≤ u ∨ u ≤ 0) with h | h
  · have e1 := Rat.mul_nonneg h0 h
    have e2 := Rat.mul_nonneg (show 0 ≤ 1 - k by grind) h
    left; grind
  · have e1 := Rat.mul_nonneg h0 (show 0 ≤ -u by grind)
    have e2 := Rat.mul_nonneg (show 0 ≤ 1 - k by grind) (show 0 ≤ -u by grind)
    right; grind
theorem ft_near (a b p : Pl) {t : Rat} (h0 : 0 ≤ t) (h1 : t ≤ 1) : farR a b p ≤ dotR (wayR (onR a b t) p) (wayR (onR a b t) p) := by
  unfold farR ftR
  split
  · rename_i h; subst h; rw [on_same]; grind
  · rename_i h
    have hp := dot_pos h
    have hk := rawK_mul (p := p) h
    have hc := clK_is (rawK a b p)
    generalize rawK a b p = k at *
    generalize clK k = c at *
    have key : dotR (wayR (onR a b t) p) (wayR (onR a b t) p) - dotR (wayR (onR a b c) p) (wayR (onR a b c) p) = dotR (wayR a b) (wayR a b) * ((t - c) * (t + c - 2 * k)) := by
      have e : dotR (wayR a b) (wayR a b) * ((t - c) * (t + c - 2 * k)) = dotR (wayR a b) (wayR a b) * ((t - c) * (t + c)) - 2 * (t - c) * (k * dotR (wayR a b) (wayR a b)) := by grind
      rw [e, hk]
      unfold onR dotR wayR
      dsimp only
      grind
    have hn : 0 ≤ (t - c) * (t + c - 2 * k) := by
      rcases hc with ⟨g1, g2⟩ | ⟨g1, g2, g3⟩ | ⟨g1, g2⟩
      · subst g2; exact Rat.mul_nonneg (by grind) (by grind)
      · subst g3; have := sq_nonneg (t - c); grind
      · subst g2
        have := Rat.mul_nonneg (show 0 ≤ 1 - t by grind) (show 0 ≤ 2 * k - t - 1 by grind)
        grind
    have := Rat.mul_nonneg (Rat.le_of_lt hp) hn
    grind
theorem ft_self {a b p : Pl} (h : btw a b p = true) : ftR a b p = p := by
  unfold ftR
  by_cases e : a = b
  · rw [if_pos e]; subst e; exact (btw_point h).symm
  · rw [if_neg e]
    have ha : area2 a b p = 0 := qsgn_zero.1 (btw_side h)
    have hp := dot_pos e
    have hk := rawK_mul (p := p) e
    have x1 : rawK a b p * (wayR a b).1 = (wayR a p).1 := by
      refine rat_cancel (z := dotR (wayR a b) (wayR a b)) (by grind) ?_
      have : rawK a b p * (wayR a b).1 * dotR (wayR a b) (wayR a b) = rawK a b p * dotR (wayR a b) (wayR a b) * (wayR a b).1 := by grind
      rw [this, hk]
      unfold area2 at ha
      unfold dotR wayR
      dsimp only
      grind
    have x2 : rawK a b p * (wayR a b).2 = (wayR a p).2 := by
      refine rat_cancel (z := dotR (wayR a b) (wayR a b)) (by grind) ?_
      have : rawK a b p * (wayR a b).2 * dotR (wayR a b) (wayR a b) = rawK a b p * dotR (wayR a b) (wayR a b) * (wayR a b).2 := by grind
      rw [this, hk]
      unfold area2 at ha
      unfold dotR wayR
      dsimp only
      grind
    have hr : 0 ≤ rawK a b p ∧ rawK a b p ≤ 1 := by
      generalize rawK a b p = k at *
      unfold btw at h
      simp only [Bool.and_eq_true, Bool.or_eq_true, decide_eq_true_iff] at h
      have hb := h.2
      simp only [pcmp_ge, pcmp_le] at hb
      have n0 : (wayR a b).1 ≠ 0 ∨ (wayR a b).2 ≠ 0 := by
        refine Classical.byContradiction fun q => e (way_zero (Prod.ext ?_ ?_))
        · exact Classical.byContradiction fun r => q (Or.inl r)
        · exact Classical.byContradiction fun r => q (Or.inr r)
      have m1 : ∀ x : Rat, 0 < x → k < 0 → k * x < 0 := fun x hx hk => by have := Rat.mul_pos (show 0 < -k by grind) hx; grind
      have m2 : ∀ x : Rat, 0 < x → 1 < k → x < k * x := fun x hx hk => by have := Rat.mul_pos (show 0 < k - 1 by grind) hx; grind
      unfold wayR at x1 x2 n0
      dsimp only at x1 x2 n0
      constructor
      · refine Classical.byContradiction fun q => ?_
        have q' : k < 0 := by grind
        have := m1 (b.1 - a.1)
        have := m1 (a.1 - b.1)
        have := m1 (b.2 - a.2)
        have := m1 (a.2 - b.2)
        grind
      · refine Classical.byContradiction fun q => ?_
        have q' : 1 < k := by grind
        have := m2 (b.1 - a.1)
        have := m2 (a.1 - b.1)
        have := m2 (b.2 - a.2)
        have := m2 (a.2 - b.2)
        grind
    have hc : clK (rawK a b p) = rawK a b p := by rcases clK_is (rawK a b p) with g | g | g <;> grind
    rw [hc]
    unfold onR
    rw [x1, x2]
    unfold wayR
    exact Prod.ext (by dsimp only; grind) (by dsimp only; grind)
theorem on_btw (a b : Pl) {k : Rat} (h0 : 0 ≤ k) (h1 : k ≤ 1) : btw a b (onR a b k) = true := by
  have ha : side3 a b (onR a b k) = 0 := by unfold side3; rw [on_area]; decide
  have m1 := mul_between (u := (wayR a b).1) h0 h1
  have m2 := mul_between (u := (wayR a b).2) h0 h1
  have z : ∀ x : Rat, k * x = 0 → k = 0 ∨ x = 0 := fun x h => Rat.mul_eq_zero.1 h
  unfold btw
  simp only [ha, Bool.and_eq_true, Bool.or_eq_true, decide_eq_true_iff, true_and, decide_true]
  simp only [pcmp_ge, pcmp_le]
  unfold onR
  have z1 := z (wayR a b).1
  have z3 : (1 - k) * (wayR a b).1 = 0 → 1 - k = 0 ∨ (wayR a b).1 = 0 := fun h => Rat.mul_eq_zero.1 h
  unfold wayR at *
  dsimp only at *
  by_cases e : b.1 - a.1 = 0
  · grind
  · by_cases e0 : k = 0
    · grind
    · by_cases e1 : k = 1
      · grind
      · grind
theorem far_btw (a b p : Pl) : btw a b p = true ↔ farR a b p = 0 := by
  constructor
  · intro h; unfold farR; rw [ft_self h]; unfold dotR wayR; grind
  · intro h
    have e := way_zero (dot_zero h)
    obtain ⟨k, k0, k1, hk⟩ := ft_on a b p
    rw [← e, hk]
    exact on_btw a b k0 k1
theorem on_in (x u : Rat) {k : Rat} (h0 : 0 ≤ k) (h1 : k ≤ 1) : (x ≤ x + k * (u - x) ∧ x + k * (u - x) ≤ u) ∨ (u ≤ x + k * (u - x) ∧ x + k * (u - x) ≤ x) := by
  rcases mul_between (u := u - x) h0 h1 with h | h
  · left; grind
  · right; grind
theorem ft_in (a b p : Pl) : ((a.1 ≤ (ftR a b p).1 ∧ (ftR a b p).1 ≤ b.1) ∨ (b.1 ≤ (ftR a b p).1 ∧ (ftR a b p).1 ≤ a.1)) ∧ ((a.2 ≤ (ftR a b p).2 ∧ (ftR a b p).2 ≤ b.2) ∨ (b.2 ≤ (ftR a b p).2 ∧ (ftR a b p).2 ≤ a.2)) := by
  obtain ⟨k, k0, k1, hk⟩ := ft_on a b p
  rw [hk]
  unfold onR wayR
  exact ⟨on_in _ _ k0 k1, on_in _ _ k0 k1⟩
end Go.Proofs.YtggfppgjabembaaGreatDoor

namespace Go.Proofs.YtggfppgjabembaaGreatDoor
open Go.RowKit Go.Proofs.YtggfppgjabembaaGreatDoorW.PrintLast
set_option linter.unusedVariables false
set_option linter.unusedSimpArgs false
theorem sz01 (n : Nat) (hn : 1 ≤ n) {v : Int} (h0 : 0 ≤ v) (h1 : v ≤ 1) : Sz n ((v : Int) : Rat) := by
  unfold Sz
  rw [Rat.num_intCast, Rat.den_intCast]
  have : (2 : Int) ≤ 2 ^ n := by exact_mod_cast Nat.pow_le_pow_right (show 0 < 2 by decide) hn
  omega
theorem ft_sz {a b p : Pl} (ha : PSz 1075 a) (hb : PSz 1075 b) (hp : PSz 1075 p) : PSz 21000 (ftR a b p) := by
  unfold ftR
  split
  · exact ⟨ha.1.mono (by omega), ha.2.mono (by omega)⟩
  · rename_i h
    have u1 := hb.1.sub ha.1
    have u2 := hb.2.sub ha.2
    have v1 := hp.1.sub ha.1
    have v2 := hp.2.sub ha.2
    have d1 := (v1.mul u1).add (v2.mul u2)
    have d2 := (u1.mul u1).add (u2.mul u2)
    have hk : Sz 17300 (rawK a b p) := (d1.div d2 (dot_num h)).mono (by omega)
    have h1 : Sz 17300 (1 : Rat) := sz01 17300 (by decide) (v := 1) (by decide) (by decide)
    have h0 : Sz 17300 (0 : Rat) := sz01 17300 (by decide) (v := 0) (by decide) (by decide)
    have hc : Sz 17300 (clK (rawK a b p)) := by
      rcases clK_is (rawK a b p) with g | g | g
      · rw [g.2]; exact h0
      · rw [g.2.2]; exact hk
      · rw [g.2]; exact h1
    exact ⟨(ha.1.add (hc.mul u1)).mono (by omega), (ha.2.add (hc.mul u2)).mono (by omega)⟩
theorem oper_eql_yes {o : Oper} {a : Act} {w : World} {K : Act → World → Prop} {Q : Exit → Act → World → Prop} {x y : Operand} (hop : o.op = Op.binOp .eql 77 x y 77) (p q : Pt) (e : p = q)
    (hx : a.eval x = .agg #[.int .u64 p.1, .int .u64 p.2]) (hy : a.eval y = .agg #[.int .u64 q.1, .int .u64 q.2]) (h : K (a.put o.dst (.bool true)) w) : Oper.wp Tryz.prog o a w K Q := oper_eql_place hop p q hx hy (by rw [decide_eq_true e]; exact h)
theorem oper_eql_no {o : Oper} {a : Act} {w : World} {K : Act → World → Prop} {Q : Exit → Act → World → Prop} {x y : Operand} (hop : o.op = Op.binOp .eql 77 x y 77) (p q : Pt) (e : ¬ p = q)
    (hx : a.eval x = .agg #[.int .u64 p.1, .int .u64 p.2]) (hy : a.eval y = .agg #[.int .u64 q.1, .int .u64 q.2]) (h : K (a.put o.dst (.bool false)) w) : Oper.wp Tryz.prog o a w K Q := oper_eql_place hop p q hx hy (by rw [decide_eq_false e]; exact h)
theorem sz_small {v : Int} (h0 : 0 ≤ v) (h1 : v ≤ 1) : Sz 17300 ((v : Int) : Rat) := sz01 17300 (by decide) h0 h1
set_option maxRecDepth 100000 in
set_option maxHeartbeats 6400000 in
theorem sFoot (s0 s1 : Pt) (p : Pl) (A B C D : Option Addr) (lo up : Nat) (w : World) (h0 : Good s0) (h1 : Good s1) (hp : PlIn lo up w A B C D p) (hu : up ≤ w.heap.size) (sp : PSz 1075 p) :
    Calls Tryz.prog 60 #[st s0 s1, pv A B C D p] w fun e w' => ∃ E F G I, e = .returned (pv E F G I (ftR (pl s0) (pl s1) p)) ∧ PlFresh w.heap.size w' E F G I (ftR (pl s0) (pl s1) p) ∧ Below w.heap.size w w' := by
  have f0 : FinP s0 := ⟨h0.f1, h0.f2⟩
  have f1 : FinP s1 := ⟨h1.f1, h1.f2⟩
  have sa := pl_sz f0
  have sb := pl_sz f1
  have HV := Lib.hid (fun wz => sVector s0 wz f0)
  have HW := Lib.hid (fun wz => sWay s0 s1 wz f0 f1)
  have H0 : Hid (s0 = s1 → ftR (pl s0) (pl s1) p = pl s0) := Lib.hid fun e => by unfold ftR; rw [if_pos (by rw [e])]
  have H1 : Hid (s0 ≠ s1 → pl s0 ≠ pl s1) := Lib.hid fun e h => e (h0.inj h1 h)
  generalize hb : pl s1 = b at *
  generalize ha : pl s0 = a at *
  have VM := Lib.hid (fun A B C D A2 B2 C2 D2 wz h1 h2 => vMinus A B C D A2 B2 C2 D2 0 wz.heap.size _ _ p a wz h1 h2 (Nat.le_refl _) sp sa (by omega))
  have su : PSz 2151 (b.1 - a.1, b.2 - a.2) := ⟨(sb.1.sub sa.1).mono (by omega), (sb.2.sub sa.2).mono (by omega)⟩
  have sv : PSz 2151 (p.1 - a.1, p.2 - a.2) := ⟨(sp.1.sub sa.1).mono (by omega), (sp.2.sub sa.2).mono (by omega)⟩
  have eu : (b.1 - a.1, b.2 - a.2) = wayR a b := rfl
  have ev : (p.1 - a.1, p.2 - a.2) = wayR a p := rfl
  rw [eu] at HW su
  rw [ev] at VM sv
  have VD1 := Lib.hid (fun A B C D A2 B2 C2 D2 wz h1 h2 => vDot A B C D A2 B2 C2 D2 0 wz.heap.size _ _ (wayR a p) (wayR a b) wz h1 h2 (Nat.le_refl _) sv su (by omega))
  have VD2 := Lib.hid (fun A B C D A2 B2 C2 D2 wz h1 h2 => vDot A B C D A2 B2 C2 D2 0 wz.heap.size _ _ (wayR a b) (wayR a b) wz h1 h2 (Nat.le_refl _) su su (by omega))
  have sd1 : Sz 8605 (dotR (wayR a p) (wayR a b)) := ((sv.1.mul su.1).add (sv.2.mul su.2)).mono (by omega)
  have sd2 : Sz 8605 (dotR (wayR a b) (wayR a b)) := ((su.1.mul su.1).add (su.2.mul su.2)).mono (by omega)
  have ed : ∀ u v : Pl, u.1 * v.1 + u.2 * v.2 = dotR u v := fun _ _ => rfl
  simp only [ed] at VD1 VD2
  clear eu ev ed
  have DV := Lib.hid (fun A B C D wz (hn : (dotR (wayR a b) (wayR a b)).num ≠ 0) h1 h2 => rDivQ A B C D 0 wz.heap.size _ _ (dotR (wayR a p) (wayR a b)) (dotR (wayR a b) (wayR a b)) wz h1 h2 (Nat.le_refl _) sd1 sd2 (by omega) hn)
  have ek : dotR (wayR a p) (wayR a b) / dotR (wayR a b) (wayR a b) = rawK a b p := rfl
  rw [ek] at DV
  have sk : (dotR (wayR a b) (wayR a b)).num ≠ 0 → Sz 17300 (rawK a b p) := fun hn => (sd1.div sd2 hn).mono (by omega)
  have I1 := Lib.hid (fun wz => rIntQ 1 wz (by omega) (by omega))
  have I0 := Lib.hid (fun wz => rIntQ 0 wz (by omega) (by omega))
  have s1' := sz_small (v := 1) (by omega) (by omega)
  have s0' := sz_small (v := 0) (by omega) (by omega)
  have e1 : ((1 : Int) : Rat) = 1 := rfl
  have e0 : ((0 : Int) : Rat) = 0 := rfl
  rw [e1] at I1 s1'
  rw [e0] at I0 s0'
  have AL := Lib.hid (fun A B C D A1 B1 A2 B2 C2 D2 wz k (hk : Sz 17300 k) h1 h2 h3 => vAlong A B C D A1 B1 A2 B2 C2 D2 0 wz.heap.size _ _ _ a k (wayR a b) wz h1 h2 h3 (Nat.le_refl _) sa hk su (by omega))
  have HN : Hid (s0 ≠ s1 → (dotR (wayR a b) (wayR a b)).num ≠ 0 ∧ ftR a b p = (a.1 + clK (rawK a b p) * (wayR a b).1, a.2 + clK (rawK a b p) * (wayR a b).2)) := Lib.hid fun h => ⟨dot_num (H1.out h), by unfold ftR; rw [if_neg (H1.out h)]; rfl⟩
  have HK1 := Lib.hid (clK_is (rawK a b p))
  have CM := Lib.hid (fun A B C D wz (hk : Sz 17300 (rawK a b p)) h1 h2 => rCmpQ A B C D 0 wz.heap.size _ _ (rawK a b p) 1 wz h1 h2 (Nat.le_refl _) hk s1' (by omega))
  have SG := Lib.hid (fun A B wz q (hq : Sz 17300 q) h1 => rSignQ A B 0 wz.heap.size q wz h1 (Nat.le_refl _) (hq.lens (by omega)).1)
  have hq1 : ∀ k : Rat, 1 < k → qcmp k 1 = 1 := fun k h => qcmp_gt.2 h
  have SZ := Lib.hid (And.intro s1' (And.intro s0' sk))
  have HX := Lib.hid (And.intro hp hu)
  generalize dotR (wayR a p) (wayR a b) = d1 at *
  generalize dotR (wayR a b) (wayR a b) = d2 at *
  generalize rawK a b p = k at *
  generalize wayR a b = u at *
  generalize wayR a p = v0 at *
  have HO : Hid (qsgn (1 : Rat) = 1) := Lib.hid (by decide)
  clear hp hu sp sa sb su sv sd1 sd2 sk s1' s0' e1 e0 ek H1 f0 f1 h0 h1 hb ha
  obtain ⟨one, hone⟩ : ∃ o : Rat, o = 1 := ⟨_, rfl⟩
  obtain ⟨zero, hzero⟩ : ∃ o : Rat, o = 0 := ⟨_, rfl⟩
  have hone' := Lib.hid hone
  have hzero' := Lib.hid hzero
  rw [← hone] at I1 CM HO
  rw [← hzero] at I0
  clear hone hzero hq1
  unfold qv pv st pt at *
  have hmm : Bx w.heap.size w (((w.alloc (.cells #[.int .u64 s0.1, .int .u64 s0.2, .int .u64 s1.1, .int .u64 s1.2] 80)).alloc (.cells #[.bool (decide (p.1.num < 0)), .slice A (qn p.1).length (qn p.1).length, .slice B (qd p.1).length (qd p.1).length, .bool (decide (p.2.num < 0)), .slice C (qn p.2).length (qn p.2).length, .slice D (qd p.2).length (qd p.2).length] 89)).alloc (.cells #[.bool false, .slice none 0 0, .slice none 0 0, .bool false, .slice none 0 0, .slice none 0 0] 89)) _ _ := (((Bx.start w).alloc (.cells #[.int .u64 s0.1, .int .u64 s0.2, .int .u64 s1.1, .int .u64 s1.2] 80 (0, 0))).alloc (.cells #[.bool (decide (p.1.num < 0)), .slice A (qn p.1).length (qn p.1).length, .slice B (qd p.1).length (qd p.1).length, .bool (decide (p.2.num < 0)), .slice C (qn p.2).length (qn p.2).length, .slice D (qd p.2).length (qd p.2).length] 89 (0, 0))).alloc (.cells #[.bool false, .slice none 0 0, .slice none 0 0, .bool false, .slice none 0 0, .slice none 0 0] 89 (0, 0))
  go_enter Tryz.func60, Tryz.ntmps60
  go_upto_region 1 with (fail)
  generalize (World.alloc (World.alloc (World.alloc w _) _) _) = v at *
  (try simp only [List.nil_append, List.cons_append, World.size_alloc, List.set_cons_zero, List.set_cons_succ, putsC, pB, pC, pD] at hmm)
  have HM := Lib.hid hmm
  clear hmm
  refine start_ (n := 9) (S := fun w' => w'.heap[w.heap.size]? = v.heap[w.heap.size]?) (ds := [7, 8]) (bt 9 0) (by kernel_rfl) rfl rfl (rfl) (fun hHeld => ?_)
  refine pv_ 0 12 ?_
  refine ld_ 1 13 ?_ hHeld ?_ ?_; rotate_left
  · rintro w' hs
    obtain ⟨q0, q1, q2, q3, q4, q5, q6, q7⟩ := rw4 ((hs).trans (HM.out.at 0 rfl))
    clear hs
    go_simp; with_reducible rfl
  refine ld_ 3 15 ?_ hHeld ?_ ?_; rotate_left
  · rintro w' hs
    obtain ⟨q0, q1, q2, q3, q4, q5, q6, q7⟩ := rw4 ((hs).trans (HM.out.at 0 rfl))
    clear hs
    go_simp; with_reducible rfl
  refine join_ (σ := Option Addr × Option Addr × Option Addr × Option Addr × Option Addr × Option Addr × Option Addr × Option Addr × Nat × Nat) 2 (bt 9 127) (fun s => [(14, (pv (s.1) (s.2.1) (s.2.2.1) (s.2.2.2.1) a)), (16, (pv (s.2.2.2.2.1) (s.2.2.2.2.2.1) (s.2.2.2.2.2.2.1) (s.2.2.2.2.2.2.2.1) u)), (5, .pointer (some ⟨(s.2.2.2.2.2.2.2.2.1), 0, none⟩)), (6, .pointer (some ⟨(s.2.2.2.2.2.2.2.2.2), 0, none⟩))]) (fun s w' => Bx v.heap.size v w' [((s.2.2.2.2.2.2.2.2.1), zV), ((s.2.2.2.2.2.2.2.2.2), zV)] [((s.1), (s.2.1), a.1), ((s.2.2.1), (s.2.2.2.1), a.2), ((s.2.2.2.2.1), (s.2.2.2.2.2.1), u.1), ((s.2.2.2.2.2.2.1), (s.2.2.2.2.2.2.2.1), u.2)]) ?_ ?_
  rotate_left
  · intro J0
    refine join_ (σ := Option Addr × Option Addr × Option Addr × Option Addr × Option Addr × Option Addr × Option Addr × Option Addr × Nat × Nat) 3 (bt 9 63) (fun s => [(14, (pv (s.1) (s.2.1) (s.2.2.1) (s.2.2.2.1) a)), (16, (pv (s.2.2.2.2.1) (s.2.2.2.2.2.1) (s.2.2.2.2.2.2.1) (s.2.2.2.2.2.2.2.1) u)), (5, .pointer (some ⟨(s.2.2.2.2.2.2.2.2.1), 0, none⟩))]) (fun s w' => Bx v.heap.size v w' [((s.2.2.2.2.2.2.2.2.1), zV)] [((s.1), (s.2.1), a.1), ((s.2.2.1), (s.2.2.2.1), a.2), ((s.2.2.2.2.1), (s.2.2.2.2.2.1), u.1), ((s.2.2.2.2.2.2.1), (s.2.2.2.2.2.2.2.1), u.2)]) ?_ ?_
    · rintro ⟨E0_2, F0_2, G0_2, I0_2, E0_4, F0_4, G0_4, I0_4, g0_5, g0_6⟩ wj hF
      try dsimp only at hF ⊢
      refine nx ?_
      refine o1 6 6 (bt 9 127) ?_
      · intro K hK
        refine al_ (.cells #[.bool false, .slice none 0 0, .slice none 0 0, .bool false, .slice none 0 0, .slice none 0 0] 89) ?_
        have hN := hF.alloc zV
        refine hK.out _ _ (by exact (hN.m.b.block _ (HM.out.lt 0 rfl))) (fun hHeld => ?_)
        exact nj (J0 (E0_2, F0_2, G0_2, I0_2, E0_4, F0_4, G0_4, I0_4, g0_5, wj.heap.size) _ hN)
    intro J1
    refine join_ (σ := Option Addr × Option Addr × Option Addr × Option Addr × Option Addr × Option Addr × Option Addr × Option Addr × Nat × Nat) 3 (bt 9 95) (fun s => [(14, (pv (s.1) (s.2.1) (s.2.2.1) (s.2.2.2.1) a)), (16, (pv (s.2.2.2.2.1) (s.2.2.2.2.2.1) (s.2.2.2.2.2.2.1) (s.2.2.2.2.2.2.2.1) u)), (6, .pointer (some ⟨(s.2.2.2.2.2.2.2.2.2), 0, none⟩))]) (fun s w' => Bx v.heap.size v w' [((s.2.2.2.2.2.2.2.2.2), zV)] [((s.1), (s.2.1), a.1), ((s.2.2.1), (s.2.2.2.1), a.2), ((s.2.2.2.2.1), (s.2.2.2.2.2.1), u.1), ((s.2.2.2.2.2.2.1), (s.2.2.2.2.2.2.2.1), u.2)]) ?_ ?_
    · rintro ⟨E0_2, F0_2, G0_2, I0_2, E0_4, F0_4, G0_4, I0_4, g0_5, g0_6⟩ wj hF
      try dsimp only at hF ⊢
      refine nx ?_
      refine o1 5 5 (bt 9 127) ?_
      · intro K hK
        refine al_ (.cells #[.bool false, .slice none 0 0, .slice none 0 0, .bool false, .slice none 0 0, .slice none 0 0] 89) ?_
        have hN := hF.alloc zV
        have hN := hN.sel (L' := [(wj.heap.size, zV), (g0_6, zV)]) (R' := [(E0_2, F0_2, a.1), (G0_2, I0_2, a.2), (E0_4, F0_4, u.1), (G0_4, I0_4, u.2)]) (fun i => [1, 0].getD i i) (fun i x e => match i, e with | 0, e => e | 1, e => e) (fun i j hi hj => (show ∀ i, i < 2 → ∀ j, j < 2 → [1, 0].getD i i = [1, 0].getD j j → i = j by decide) i hi j hj) (by first | exact fun x h => h | (simp only [List.nil_append, List.cons_append, List.mem_cons]; grind))
        refine hK.out _ _ (by exact (hN.m.b.block _ (HM.out.lt 0 rfl))) (fun hHeld => ?_)
        exact nj (J0 (E0_2, F0_2, G0_2, I0_2, E0_4, F0_4, G0_4, I0_4, wj.heap.size, g0_6) _ hN)
    intro J2
    refine join_ (σ := Option Addr × Option Addr × Option Addr × Option Addr × Option Addr × Option Addr × Option Addr × Option Addr × Nat × Nat) 3 (bt 9 111) (fun s => [(14, (pv (s.1) (s.2.1) (s.2.2.1) (s.2.2.2.1) a)), (5, .pointer (some ⟨(s.2.2.2.2.2.2.2.2.1), 0, none⟩)), (6, .pointer (some ⟨(s.2.2.2.2.2.2.2.2.2), 0, none⟩))]) (fun s w' => Bx v.heap.size v w' [((s.2.2.2.2.2.2.2.2.1), zV), ((s.2.2.2.2.2.2.2.2.2), zV)] [((s.1), (s.2.1), a.1), ((s.2.2.1), (s.2.2.2.1), a.2)]) ?_ ?_
    · rintro ⟨E0_2, F0_2, G0_2, I0_2, E0_4, F0_4, G0_4, I0_4, g0_5, g0_6⟩ wj hF
      try dsimp only at hF ⊢
      refine nx ?_
      refine o1 4 16 (bt 9 127) ?_
      · intro K hK
        refine go_ Tryz.func40 #[.agg #[.int .u64 s0.1, .int .u64 s0.2, .int .u64 s1.1, .int .u64 s1.2]] ?_
        with_reducible refine (HW.out wj).mono ?_
        rintro e w' ⟨E0_4, F0_4, G0_4, I0_4, rfl, hf, hb⟩
        refine ⟨_, rfl, ?_⟩
        have hN := hF.call2 hf hb
        refine hK.out _ _ (by exact (hN.m.b.block _ (HM.out.lt 0 rfl))) (fun hHeld => ?_)
        exact nj (J0 (E0_2, F0_2, G0_2, I0_2, E0_4, F0_4, G0_4, I0_4, g0_5, g0_6) _ hN)
    intro J3
    refine join_ (σ := Option Addr × Option Addr × Option Addr × Option Addr × Option Addr × Option Addr × Option Addr × Option Addr × Nat × Nat) 4 (bt 9 31) (fun s => [(14, (pv (s.1) (s.2.1) (s.2.2.1) (s.2.2.2.1) a)), (16, (pv (s.2.2.2.2.1) (s.2.2.2.2.2.1) (s.2.2.2.2.2.2.1) (s.2.2.2.2.2.2.2.1) u))]) (fun s w' => Bx v.heap.size v w' [] [((s.1), (s.2.1), a.1), ((s.2.2.1), (s.2.2.2.1), a.2), ((s.2.2.2.2.1), (s.2.2.2.2.2.1), u.1), ((s.2.2.2.2.2.2.1), (s.2.2.2.2.2.2.2.1), u.2)]) ?_ ?_
    · rintro ⟨E0_2, F0_2, G0_2, I0_2, E0_4, F0_4, G0_4, I0_4, g0_5, g0_6⟩ wj hF
      try dsimp only at hF ⊢
      refine nx ?_
      refine o2 5 5 6 6 (bt 9 63) (bt 9 95) ?_ ?_
      · intro K hK
        refine al_ (.cells #[.bool false, .slice none 0 0, .slice none 0 0, .bool false, .slice none 0 0, .slice none 0 0] 89) ?_
        have hN := hF.alloc zV
        refine hK.out _ _ (by exact (hN.m.b.block _ (HM.out.lt 0 rfl))) (fun hHeld => ?_)
        exact nj (J1 (E0_2, F0_2, G0_2, I0_2, E0_4, F0_4, G0_4, I0_4, wj.heap.size, g0_6) _ hN)
      · intro K hK
        refine al_ (.cells #[.bool false, .slice none 0 0, .slice none 0 0, .bool false, .slice none 0 0, .slice none 0 0] 89) ?_
        have hN := hF.alloc zV
        refine hK.out _ _ (by exact (hN.m.b.block _ (HM.out.lt 0 rfl))) (fun hHeld => ?_)
        exact nj (J2 (E0_2, F0_2, G0_2, I0_2, E0_4, F0_4, G0_4, I0_4, g0_5, wj.heap.size) _ hN)
    intro J4
    refine join_ (σ := Option Addr × Option Addr × Option Addr × Option Addr × Option Addr × Option Addr × Option Addr × Option Addr × Nat × Nat) 4 (bt 9 47) (fun s => [(14, (pv (s.1) (s.2.1) (s.2.2.1) (s.2.2.2.1) a)), (5, .pointer (some ⟨(s.2.2.2.2.2.2.2.2.1), 0, none⟩))]) (fun s w' => Bx v.heap.size v w' [((s.2.2.2.2.2.2.2.2.1), zV)] [((s.1), (s.2.1), a.1), ((s.2.2.1), (s.2.2.2.1), a.2)]) ?_ ?_
    · rintro ⟨E0_2, F0_2, G0_2, I0_2, E0_4, F0_4, G0_4, I0_4, g0_5, g0_6⟩ wj hF
      try dsimp only at hF ⊢
      refine nx ?_
      refine o2 4 16 6 6 (bt 9 63) (bt 9 111) ?_ ?_
      · intro K hK
        refine go_ Tryz.func40 #[.agg #[.int .u64 s0.1, .int .u64 s0.2, .int .u64 s1.1, .int .u64 s1.2]] ?_
        with_reducible refine (HW.out wj).mono ?_
        rintro e w' ⟨E0_4, F0_4, G0_4, I0_4, rfl, hf, hb⟩
        refine ⟨_, rfl, ?_⟩
        have hN := hF.call2 hf hb
        refine hK.out _ _ (by exact (hN.m.b.block _ (HM.out.lt 0 rfl))) (fun hHeld => ?_)
        exact nj (J1 (E0_2, F0_2, G0_2, I0_2, E0_4, F0_4, G0_4, I0_4, g0_5, g0_6) _ hN)
      · intro K hK
        refine al_ (.cells #[.bool false, .slice none 0 0, .slice none 0 0, .bool false, .slice none 0 0, .slice none 0 0] 89) ?_
        have hN := hF.alloc zV
        refine hK.out _ _ (by exact (hN.m.b.block _ (HM.out.lt 0 rfl))) (fun hHeld => ?_)
        exact nj (J3 (E0_2, F0_2, G0_2, I0_2, E0_4, F0_4, G0_4, I0_4, g0_5, wj.heap.size) _ hN)
    intro J5
    refine join_ (σ := Option Addr × Option Addr × Option Addr × Option Addr × Option Addr × Option Addr × Option Addr × Option Addr × Nat × Nat) 4 (bt 9 79) (fun s => [(14, (pv (s.1) (s.2.1) (s.2.2.1) (s.2.2.2.1) a)), (6, .pointer (some ⟨(s.2.2.2.2.2.2.2.2.2), 0, none⟩))]) (fun s w' => Bx v.heap.size v w' [((s.2.2.2.2.2.2.2.2.2), zV)] [((s.1), (s.2.1), a.1), ((s.2.2.1), (s.2.2.2.1), a.2)]) ?_ ?_
    · rintro ⟨E0_2, F0_2, G0_2, I0_2, E0_4, F0_4, G0_4, I0_4, g0_5, g0_6⟩ wj hF
      try dsimp only at hF ⊢
      refine nx ?_
      refine o2 4 16 5 5 (bt 9 95) (bt 9 111) ?_ ?_
      · intro K hK
        refine go_ Tryz.func40 #[.agg #[.int .u64 s0.1, .int .u64 s0.2, .int .u64 s1.1, .int .u64 s1.2]] ?_
        with_reducible refine (HW.out wj).mono ?_
        rintro e w' ⟨E0_4, F0_4, G0_4, I0_4, rfl, hf, hb⟩
        refine ⟨_, rfl, ?_⟩
        have hN := hF.call2 hf hb
        refine hK.out _ _ (by exact (hN.m.b.block _ (HM.out.lt 0 rfl))) (fun hHeld => ?_)
        exact nj (J2 (E0_2, F0_2, G0_2, I0_2, E0_4, F0_4, G0_4, I0_4, g0_5, g0_6) _ hN)
      · intro K hK
        refine al_ (.cells #[.bool false, .slice none 0 0, .slice none 0 0, .bool false, .slice none 0 0, .slice none 0 0] 89) ?_
        have hN := hF.alloc zV
        have hN := hN.sel (L' := [(wj.heap.size, zV), (g0_6, zV)]) (R' := [(E0_2, F0_2, a.1), (G0_2, I0_2, a.2)]) (fun i => [1, 0].getD i i) (fun i x e => match i, e with | 0, e => e | 1, e => e) (fun i j hi hj => (show ∀ i, i < 2 → ∀ j, j < 2 → [1, 0].getD i i = [1, 0].getD j j → i = j by decide) i hi j hj) (by first | exact fun x h => h | (simp only [List.nil_append, List.cons_append, List.mem_cons]; grind))
        refine hK.out _ _ (by exact (hN.m.b.block _ (HM.out.lt 0 rfl))) (fun hHeld => ?_)
        exact nj (J3 (E0_2, F0_2, G0_2, I0_2, E0_4, F0_4, G0_4, I0_4, wj.heap.size, g0_6) _ hN)
    intro J6
    refine join_ (σ := Option Addr × Option Addr × Option Addr × Option Addr × Option Addr × Option Addr × Option Addr × Option Addr × Nat × Nat) 4 (bt 9 107) (fun s => [(5, .pointer (some ⟨(s.2.2.2.2.2.2.2.2.1), 0, none⟩)), (6, .pointer (some ⟨(s.2.2.2.2.2.2.2.2.2), 0, none⟩))]) (fun s w' => Bx v.heap.size v w' [((s.2.2.2.2.2.2.2.2.1), zV), ((s.2.2.2.2.2.2.2.2.2), zV)] []) ?_ ?_
    · rintro ⟨E0_2, F0_2, G0_2, I0_2, E0_4, F0_4, G0_4, I0_4, g0_5, g0_6⟩ wj hF
      try dsimp only at hF ⊢
      refine nx ?_
      refine o1 2 14 (bt 9 111) ?_
      · intro K hK
        refine go_ Tryz.func61 #[.agg #[.int .u64 s0.1, .int .u64 s0.2]] ?_
        with_reducible refine (HV.out wj).mono ?_
        rintro e w' ⟨E0_2, F0_2, G0_2, I0_2, rfl, hf, hb⟩
        refine ⟨_, rfl, ?_⟩
        have hN := hF.call2 hf hb
        refine hK.out _ _ (by exact (hN.m.b.block _ (HM.out.lt 0 rfl))) (fun hHeld => ?_)
        exact nj (J3 (E0_2, F0_2, G0_2, I0_2, E0_4, F0_4, G0_4, I0_4, g0_5, g0_6) _ hN)
    intro J7
    refine join_ (σ := Option Addr × Option Addr × Option Addr × Option Addr × Option Addr × Option Addr × Option Addr × Option Addr × Nat × Nat) 5 (bt 9 15) (fun s => [(14, (pv (s.1) (s.2.1) (s.2.2.1) (s.2.2.2.1) a))]) (fun s w' => Bx v.heap.size v w' [] [((s.1), (s.2.1), a.1), ((s.2.2.1), (s.2.2.2.1), a.2)]) ?_ ?_
    · rintro ⟨E0_2, F0_2, G0_2, I0_2, E0_4, F0_4, G0_4, I0_4, g0_5, g0_6⟩ wj hF
      try dsimp only at hF ⊢
      refine nx ?_
      refine o3 4 16 5 5 6 6 (bt 9 31) (bt 9 47) (bt 9 79) ?_ ?_ ?_
      · intro K hK
        refine go_ Tryz.func40 #[.agg #[.int .u64 s0.1, .int .u64 s0.2, .int .u64 s1.1, .int .u64 s1.2]] ?_
        with_reducible refine (HW.out wj).mono ?_
        rintro e w' ⟨E0_4, F0_4, G0_4, I0_4, rfl, hf, hb⟩
        refine ⟨_, rfl, ?_⟩
        have hN := hF.call2 hf hb
        refine hK.out _ _ (by exact (hN.m.b.block _ (HM.out.lt 0 rfl))) (fun hHeld => ?_)
        exact nj (J4 (E0_2, F0_2, G0_2, I0_2, E0_4, F0_4, G0_4, I0_4, g0_5, g0_6) _ hN)
      · intro K hK
        refine al_ (.cells #[.bool false, .slice none 0 0, .slice none 0 0, .bool false, .slice none 0 0, .slice none 0 0] 89) ?_
        have hN := hF.alloc zV
        refine hK.out _ _ (by exact (hN.m.b.block _ (HM.out.lt 0 rfl))) (fun hHeld => ?_)
        exact nj (J5 (E0_2, F0_2, G0_2, I0_2, E0_4, F0_4, G0_4, I0_4, wj.heap.size, g0_6) _ hN)
      · intro K hK
        refine al_ (.cells #[.bool false, .slice none 0 0, .slice none 0 0, .bool false, .slice none 0 0, .slice none 0 0] 89) ?_
        have hN := hF.alloc zV
        refine hK.out _ _ (by exact (hN.m.b.block _ (HM.out.lt 0 rfl))) (fun hHeld => ?_)
        exact nj (J6 (E0_2, F0_2, G0_2, I0_2, E0_4, F0_4, G0_4, I0_4, g0_5, wj.heap.size) _ hN)
    intro J8
    refine join_ (σ := Option Addr × Option Addr × Option Addr × Option Addr × Option Addr × Option Addr × Option Addr × Option Addr × Nat × Nat) 5 (bt 9 43) (fun s => [(5, .pointer (some ⟨(s.2.2.2.2.2.2.2.2.1), 0, none⟩))]) (fun s w' => Bx v.heap.size v w' [((s.2.2.2.2.2.2.2.2.1), zV)] []) ?_ ?_
    · rintro ⟨E0_2, F0_2, G0_2, I0_2, E0_4, F0_4, G0_4, I0_4, g0_5, g0_6⟩ wj hF
      try dsimp only at hF ⊢
      refine nx ?_
      refine o2 2 14 6 6 (bt 9 47) (bt 9 107) ?_ ?_
      · intro K hK
        refine go_ Tryz.func61 #[.agg #[.int .u64 s0.1, .int .u64 s0.2]] ?_
        with_reducible refine (HV.out wj).mono ?_
        rintro e w' ⟨E0_2, F0_2, G0_2, I0_2, rfl, hf, hb⟩
        refine ⟨_, rfl, ?_⟩
        have hN := hF.call2 hf hb
        refine hK.out _ _ (by exact (hN.m.b.block _ (HM.out.lt 0 rfl))) (fun hHeld => ?_)
        exact nj (J5 (E0_2, F0_2, G0_2, I0_2, E0_4, F0_4, G0_4, I0_4, g0_5, g0_6) _ hN)
      · intro K hK
        refine al_ (.cells #[.bool false, .slice none 0 0, .slice none 0 0, .bool false, .slice none 0 0, .slice none 0 0] 89) ?_
        have hN := hF.alloc zV
        refine hK.out _ _ (by exact (hN.m.b.block _ (HM.out.lt 0 rfl))) (fun hHeld => ?_)
        exact nj (J7 (E0_2, F0_2, G0_2, I0_2, E0_4, F0_4, G0_4, I0_4, g0_5, wj.heap.size) _ hN)
    intro J9
    refine join_ (σ := Option Addr × Option Addr × Option Addr × Option Addr × Option Addr × Option Addr × Option Addr × Option Addr × Nat × Nat) 5 (bt 9 75) (fun s => [(6, .pointer (some ⟨(s.2.2.2.2.2.2.2.2.2), 0, none⟩))]) (fun s w' => Bx v.heap.size v w' [((s.2.2.2.2.2.2.2.2.2), zV)] []) ?_ ?_
    · rintro ⟨E0_2, F0_2, G0_2, I0_2, E0_4, F0_4, G0_4, I0_4, g0_5, g0_6⟩ wj hF
      try dsimp only at hF ⊢
      refine nx ?_
      refine o2 2 14 5 5 (bt 9 79) (bt 9 107) ?_ ?_
      · intro K hK
        refine go_ Tryz.func61 #[.agg #[.int .u64 s0.1, .int .u64 s0.2]] ?_
        with_reducible refine (HV.out wj).mono ?_
        rintro e w' ⟨E0_2, F0_2, G0_2, I0_2, rfl, hf, hb⟩
        refine ⟨_, rfl, ?_⟩
        have hN := hF.call2 hf hb
        refine hK.out _ _ (by exact (hN.m.b.block _ (HM.out.lt 0 rfl))) (fun hHeld => ?_)
        exact nj (J6 (E0_2, F0_2, G0_2, I0_2, E0_4, F0_4, G0_4, I0_4, g0_5, g0_6) _ hN)
      · intro K hK
        refine al_ (.cells #[.bool false, .slice none 0 0, .slice none 0 0, .bool false, .slice none 0 0, .slice none 0 0] 89) ?_
        have hN := hF.alloc zV
        have hN := hN.sel (L' := [(wj.heap.size, zV), (g0_6, zV)]) (R' := []) (fun i => [1, 0].getD i i) (fun i x e => match i, e with | 0, e => e | 1, e => e) (fun i j hi hj => (show ∀ i, i < 2 → ∀ j, j < 2 → [1, 0].getD i i = [1, 0].getD j j → i = j by decide) i hi j hj) (by first | exact fun x h => h | (simp only [List.nil_append, List.cons_append, List.mem_cons]; grind))
        refine hK.out _ _ (by exact (hN.m.b.block _ (HM.out.lt 0 rfl))) (fun hHeld => ?_)
        exact nj (J7 (E0_2, F0_2, G0_2, I0_2, E0_4, F0_4, G0_4, I0_4, wj.heap.size, g0_6) _ hN)
    intro J10
    refine join_ (σ := Option Addr × Option Addr × Option Addr × Option Addr × Option Addr × Option Addr × Option Addr × Option Addr × Nat × Nat) 6 (bt 9 11) (fun s => []) (fun s w' => Bx v.heap.size v w' [] []) ?_ ?_
    · rintro ⟨E0_2, F0_2, G0_2, I0_2, E0_4, F0_4, G0_4, I0_4, g0_5, g0_6⟩ wj hF
      try dsimp only at hF ⊢
      refine nx ?_
      refine o3 2 14 5 5 6 6 (bt 9 15) (bt 9 43) (bt 9 75) ?_ ?_ ?_
      · intro K hK
        refine go_ Tryz.func61 #[.agg #[.int .u64 s0.1, .int .u64 s0.2]] ?_
        with_reducible refine (HV.out wj).mono ?_
        rintro e w' ⟨E0_2, F0_2, G0_2, I0_2, rfl, hf, hb⟩
        refine ⟨_, rfl, ?_⟩
        have hN := hF.call2 hf hb
        refine hK.out _ _ (by exact (hN.m.b.block _ (HM.out.lt 0 rfl))) (fun hHeld => ?_)
        exact nj (J8 (E0_2, F0_2, G0_2, I0_2, E0_4, F0_4, G0_4, I0_4, g0_5, g0_6) _ hN)
      · intro K hK
        refine al_ (.cells #[.bool false, .slice none 0 0, .slice none 0 0, .bool false, .slice none 0 0, .slice none 0 0] 89) ?_
        have hN := hF.alloc zV
        refine hK.out _ _ (by exact (hN.m.b.block _ (HM.out.lt 0 rfl))) (fun hHeld => ?_)
        exact nj (J9 (E0_2, F0_2, G0_2, I0_2, E0_4, F0_4, G0_4, I0_4, wj.heap.size, g0_6) _ hN)
      · intro K hK
        refine al_ (.cells #[.bool false, .slice none 0 0, .slice none 0 0, .bool false, .slice none 0 0, .slice none 0 0] 89) ?_
        have hN := hF.alloc zV
        refine hK.out _ _ (by exact (hN.m.b.block _ (HM.out.lt 0 rfl))) (fun hHeld => ?_)
        exact nj (J10 (E0_2, F0_2, G0_2, I0_2, E0_4, F0_4, G0_4, I0_4, g0_5, wj.heap.size) _ hN)
    intro J11
    exact nj (J11 (none, none, none, none, none, none, none, none, 0, 0) _ ((Bx.start _).drew))
  rintro ⟨E0_2, F0_2, G0_2, I0_2, E0_4, F0_4, G0_4, I0_4, g0_5, g0_6⟩ wj hF
  try dsimp only at hF ⊢
  refine nx ?_
  have hG := HM.out.join hF
  (try simp only [List.nil_append, List.cons_append, World.size_alloc, List.set_cons_zero, List.set_cons_succ, putsC, pB, pC, pD] at hG)
  have hHeld := And.intro True.intro (hF.m.b.block _ (HM.out.lt 0 rfl))
  clear HM hF
  refine last_ (i := 7) (N := none) (bt 9 255) rfl rfl (by kernel_rfl) (by decide) (fun K hK => ?_)
  obtain ⟨y0, y1, y2, y3, y4, y5, y6, y7, y8, y9, y10, y11⟩ := rw6 (hG.at 3 rfl)
  refine skip_ (w1 := puts (g0_5) [(0, .bool (decide (a.1.num < 0))), (1, .slice E0_2 (qn a.1).length (qn a.1).length), (2, .slice F0_2 (qd a.1).length (qd a.1).length), (3, .bool (decide (a.2.num < 0))), (4, .slice G0_2 (qn a.2).length (qn a.2).length), (5, .slice I0_2 (qd a.2).length (qd a.2).length)] wj) (by rfl) rfl ?_ ?_
  · go_simp
    rfl
  refine hK.out _ _ ?_
  clear hK K y0 y1 y2 y3 y4 y5 y6 y7 y8 y9 y10 y11
  replace hG := hG.puts 3 rfl (by decide) [(0, .bool (decide (a.1.num < 0))), (1, .slice E0_2 (qn a.1).length (qn a.1).length), (2, .slice F0_2 (qd a.1).length (qd a.1).length), (3, .bool (decide (a.2.num < 0))), (4, .slice G0_2 (qn a.2).length (qn a.2).length), (5, .slice I0_2 (qd a.2).length (qd a.2).length)]
  (try simp only [List.nil_append, List.cons_append, World.size_alloc, List.set_cons_zero, List.set_cons_succ, putsC, pB, pC, pD] at hG)
  generalize puts (g0_5) _ wj = wk1 at *
  refine last_ (i := 8) (N := none) (bt 9 511) rfl rfl (by kernel_rfl) (by decide) (fun K hK => ?_)
  obtain ⟨y0, y1, y2, y3, y4, y5, y6, y7, y8, y9, y10, y11⟩ := rw6 (hG.at 4 rfl)
  refine skip_ (w1 := puts (g0_6) [(0, .bool (decide (u.1.num < 0))), (1, .slice E0_4 (qn u.1).length (qn u.1).length), (2, .slice F0_4 (qd u.1).length (qd u.1).length), (3, .bool (decide (u.2.num < 0))), (4, .slice G0_4 (qn u.2).length (qn u.2).length), (5, .slice I0_4 (qd u.2).length (qd u.2).length)] wk1) (by rfl) rfl ?_ ?_
  · go_simp
    rfl
  refine hK.out _ _ ?_
  clear hK K y0 y1 y2 y3 y4 y5 y6 y7 y8 y9 y10 y11
  replace hG := hG.puts 4 rfl (by decide) [(0, .bool (decide (u.1.num < 0))), (1, .slice E0_4 (qn u.1).length (qn u.1).length), (2, .slice F0_4 (qd u.1).length (qd u.1).length), (3, .bool (decide (u.2.num < 0))), (4, .slice G0_4 (qn u.2).length (qn u.2).length), (5, .slice I0_4 (qd u.2).length (qd u.2).length)]
  (try simp only [List.nil_append, List.cons_append, World.size_alloc, List.set_cons_zero, List.set_cons_succ, putsC, pB, pC, pD] at hG)
  generalize puts (g0_6) _ wk1 = wk2 at *
  refine done_ (by kernel_rfl) ?_
  (try simp only [List.nil_append, List.cons_append, World.size_alloc, List.set_cons_zero, List.set_cons_succ, putsC, pB, pC, pD] at hG)
  have HM := Lib.hid hG
  clear hG hHeld
  go_upto_region 2 with (fail)
  by_cases hs : s0 = s1
  · have HSS := Lib.hid hs
    have HR := Lib.hid (H0.out hs)
    clear H0 HN hs
    obtain ⟨c0_0, c0_1, c0_2, c0_3, c0_4, c0_5, c0_6, c0_7⟩ := rw4 (HM.out.at 0 rfl)
    obtain ⟨c2_0, c2_1, c2_2, c2_3, c2_4, c2_5, c2_6, c2_7, c2_8, c2_9, c2_10, c2_11⟩ := rw6 (HM.out.at 2 rfl)
    obtain ⟨c3_0, c3_1, c3_2, c3_3, c3_4, c3_5, c3_6, c3_7, c3_8, c3_9, c3_10, c3_11⟩ := rw6 (HM.out.at 3 rfl)
    ((try dsimp only); repeat (first | (with_reducible refine oper_eql_yes rfl s0 s1 HSS.out rfl rfl ?_) | go_values | go_skip | go_guarded | go_step | go_upon))
    refine bodyPost_ret (results_cell_row rfl _ _ (w.heap.size + 1 + 1) _ _ _ _ rfl ((HM.out.puts 2 rfl (by decide) [(0, .bool (decide (a.1.num < 0))), (1, .slice E0_2 (qn a.1).length (qn a.1).length), (2, .slice F0_2 (qd a.1).length (qd a.1).length), (3, .bool (decide (a.2.num < 0))), (4, .slice G0_2 (qn a.2).length (qn a.2).length), (5, .slice I0_2 (qd a.2).length (qd a.2).length)]).at 2 rfl) rfl rfl rfl) rfl ?_
    exact ⟨E0_2, F0_2, G0_2, I0_2, by rw [HR.out]; rfl, by rw [HR.out]; exact ⟨(HM.out.puts 2 rfl (by decide) [(0, .bool (decide (a.1.num < 0))), (1, .slice E0_2 (qn a.1).length (qn a.1).length), (2, .slice F0_2 (qd a.1).length (qd a.1).length), (3, .bool (decide (a.2.num < 0))), (4, .slice G0_2 (qn a.2).length (qn a.2).length), (5, .slice I0_2 (qd a.2).length (qd a.2).length)]).fresh 0 rfl, (HM.out.puts 2 rfl (by decide) [(0, .bool (decide (a.1.num < 0))), (1, .slice E0_2 (qn a.1).length (qn a.1).length), (2, .slice F0_2 (qd a.1).length (qd a.1).length), (3, .bool (decide (a.2.num < 0))), (4, .slice G0_2 (qn a.2).length (qn a.2).length), (5, .slice I0_2 (qd a.2).length (qd a.2).length)]).fresh 1 rfl⟩, (HM.out.puts 2 rfl (by decide) [(0, .bool (decide (a.1.num < 0))), (1, .slice E0_2 (qn a.1).length (qn a.1).length), (2, .slice F0_2 (qd a.1).length (qd a.1).length), (3, .bool (decide (a.2.num < 0))), (4, .slice G0_2 (qn a.2).length (qn a.2).length), (5, .slice I0_2 (qd a.2).length (qd a.2).length)]).m.b⟩
  · have HSS := Lib.hid hs
    obtain ⟨hn, hr⟩ := HN.out hs
    have HR := Lib.hid hr
    have hk := SZ.out.2.2 hn
    have HKZ := Lib.hid (And.intro hk hn)
    clear H0 HN hs hr hk hn
    obtain ⟨c0_0, c0_1, c0_2, c0_3, c0_4, c0_5, c0_6, c0_7⟩ := rw4 (HM.out.at 0 rfl)
    ((try dsimp only); repeat (first | (with_reducible refine oper_eql_no rfl s0 s1 HSS.out rfl rfl ?_) | go_values | go_skip | go_guarded | go_step | go_upon))
    clear c0_0 c0_1 c0_2 c0_3 c0_4 c0_5 c0_6 c0_7
    refine start_ (n := 15) (S := fun w' => w'.heap[w.heap.size + 1]? = wk2.heap[w.heap.size + 1]? ∧ w'.heap[g0_5]? = wk2.heap[g0_5]? ∧ w'.heap[g0_6]? = wk2.heap[g0_6]?) (ds := [13]) (bt 15 0) (by kernel_rfl) rfl rfl ((And.intro rfl (And.intro rfl rfl))) (fun hHeld => ?_)
    refine ld_ 0 24 ?_ hHeld ?_ ?_; rotate_left
    · rintro w' hs
      obtain ⟨q0, q1, q2, q3, q4, q5, q6, q7, q8, q9, q10, q11⟩ := rw6 ((hs.1).trans (HM.out.at 1 rfl))
      clear hs
      go_simp; with_reducible rfl
    refine ld_ 1 25 ?_ hHeld ?_ ?_; rotate_left
    · rintro w' hs
      obtain ⟨q0, q1, q2, q3, q4, q5, q6, q7, q8, q9, q10, q11⟩ := rw6 ((hs.2.1).trans (HM.out.at 3 rfl))
      clear hs
      go_simp; with_reducible rfl
    refine ld_ 3 27 ?_ hHeld ?_ ?_; rotate_left
    · rintro w' hs
      obtain ⟨q0, q1, q2, q3, q4, q5, q6, q7, q8, q9, q10, q11⟩ := rw6 ((hs.2.2).trans (HM.out.at 4 rfl))
      clear hs
      go_simp; with_reducible rfl
    refine ld_ 5 29 ?_ hHeld ?_ ?_; rotate_left
    · rintro w' hs
      obtain ⟨q0, q1, q2, q3, q4, q5, q6, q7, q8, q9, q10, q11⟩ := rw6 ((hs.2.2).trans (HM.out.at 4 rfl))
      clear hs
      go_simp; with_reducible rfl
    refine ld_ 6 30 ?_ hHeld ?_ ?_; rotate_left
    · rintro w' hs
      obtain ⟨q0, q1, q2, q3, q4, q5, q6, q7, q8, q9, q10, q11⟩ := rw6 ((hs.2.2).trans (HM.out.at 4 rfl))
      clear hs
      go_simp; with_reducible rfl
    refine join_ (σ := Option Addr × Option Addr × Option Addr × Option Addr × Option Addr × Option Addr × Option Addr × Option Addr × Option Addr × Option Addr × Nat) 2 (bt 15 8191) (fun s => [(26, (pv (s.1) (s.2.1) (s.2.2.1) (s.2.2.2.1) v0)), (28, (qv (s.2.2.2.2.1) (s.2.2.2.2.2.1) d1)), (31, (qv (s.2.2.2.2.2.2.1) (s.2.2.2.2.2.2.2.1) d2)), (32, .tuple #[(qv (s.2.2.2.2.2.2.2.2.1) (s.2.2.2.2.2.2.2.2.2.1) k), .int .i64 0]), (23, .tuple #[(qv (s.2.2.2.2.2.2.2.2.1) (s.2.2.2.2.2.2.2.2.2.1) k), .int .i64 0]), (33, (qv (s.2.2.2.2.2.2.2.2.1) (s.2.2.2.2.2.2.2.2.2.1) k)), (34, .int .i64 0), (7, .pointer (some ⟨(s.2.2.2.2.2.2.2.2.2.2), 0, none⟩))]) (fun s w' => Bx wk2.heap.size wk2 w' [((s.2.2.2.2.2.2.2.2.2.2), zR)] [((s.1), (s.2.1), v0.1), ((s.2.2.1), (s.2.2.2.1), v0.2), ((s.2.2.2.2.1), (s.2.2.2.2.2.1), d1), ((s.2.2.2.2.2.2.1), (s.2.2.2.2.2.2.2.1), d2), ((s.2.2.2.2.2.2.2.2.1), (s.2.2.2.2.2.2.2.2.2.1), k)]) ?_ ?_
    rotate_left
    · intro J0
      refine join_ (σ := Option Addr × Option Addr × Option Addr × Option Addr × Option Addr × Option Addr × Option Addr × Option Addr × Option Addr × Option Addr × Nat) 3 (bt 15 4095) (fun s => [(26, (pv (s.1) (s.2.1) (s.2.2.1) (s.2.2.2.1) v0)), (28, (qv (s.2.2.2.2.1) (s.2.2.2.2.2.1) d1)), (31, (qv (s.2.2.2.2.2.2.1) (s.2.2.2.2.2.2.2.1) d2)), (32, .tuple #[(qv (s.2.2.2.2.2.2.2.2.1) (s.2.2.2.2.2.2.2.2.2.1) k), .int .i64 0]), (23, .tuple #[(qv (s.2.2.2.2.2.2.2.2.1) (s.2.2.2.2.2.2.2.2.2.1) k), .int .i64 0]), (33, (qv (s.2.2.2.2.2.2.2.2.1) (s.2.2.2.2.2.2.2.2.2.1) k)), (34, .int .i64 0)]) (fun s w' => Bx wk2.heap.size wk2 w' [] [((s.1), (s.2.1), v0.1), ((s.2.2.1), (s.2.2.2.1), v0.2), ((s.2.2.2.2.1), (s.2.2.2.2.2.1), d1), ((s.2.2.2.2.2.2.1), (s.2.2.2.2.2.2.2.1), d2), ((s.2.2.2.2.2.2.2.2.1), (s.2.2.2.2.2.2.2.2.2.1), k)]) ?_ ?_
      · rintro ⟨E3_2, F3_2, G3_2, I3_2, E3_4, F3_4, E3_7, F3_7, E3_8, F3_8, g3_12⟩ wj hF
        try dsimp only at hF ⊢
        refine nx ?_
        refine o1 12 7 (bt 15 8191) ?_
        · intro K hK
          refine al_ (.cells #[.bool false, .slice none 0 0, .slice none 0 0] 45) ?_
          have hN := hF.alloc zR
          refine hK.out _ _ (by exact (And.intro (hN.m.b.block _ (HM.out.lt 1 rfl)) (And.intro (hN.m.b.block _ (HM.out.lt 3 rfl)) (hN.m.b.block _ (HM.out.lt 4 rfl))))) (fun hHeld => ?_)
          exact nj (J0 (E3_2, F3_2, G3_2, I3_2, E3_4, F3_4, E3_7, F3_7, E3_8, F3_8, wj.heap.size) _ hN)
      intro J1
      refine join_ (σ := Option Addr × Option Addr × Option Addr × Option Addr × Option Addr × Option Addr × Option Addr × Option Addr × Option Addr × Option Addr × Nat) 3 (bt 15 6143) (fun s => [(26, (pv (s.1) (s.2.1) (s.2.2.1) (s.2.2.2.1) v0)), (28, (qv (s.2.2.2.2.1) (s.2.2.2.2.2.1) d1)), (31, (qv (s.2.2.2.2.2.2.1) (s.2.2.2.2.2.2.2.1) d2)), (32, .tuple #[(qv (s.2.2.2.2.2.2.2.2.1) (s.2.2.2.2.2.2.2.2.2.1) k), .int .i64 0]), (23, .tuple #[(qv (s.2.2.2.2.2.2.2.2.1) (s.2.2.2.2.2.2.2.2.2.1) k), .int .i64 0]), (33, (qv (s.2.2.2.2.2.2.2.2.1) (s.2.2.2.2.2.2.2.2.2.1) k)), (7, .pointer (some ⟨(s.2.2.2.2.2.2.2.2.2.2), 0, none⟩))]) (fun s w' => Bx wk2.heap.size wk2 w' [((s.2.2.2.2.2.2.2.2.2.2), zR)] [((s.1), (s.2.1), v0.1), ((s.2.2.1), (s.2.2.2.1), v0.2), ((s.2.2.2.2.1), (s.2.2.2.2.2.1), d1), ((s.2.2.2.2.2.2.1), (s.2.2.2.2.2.2.2.1), d2), ((s.2.2.2.2.2.2.2.2.1), (s.2.2.2.2.2.2.2.2.2.1), k)]) ?_ ?_
      · rintro ⟨E3_2, F3_2, G3_2, I3_2, E3_4, F3_4, E3_7, F3_7, E3_8, F3_8, g3_12⟩ wj hF
        try dsimp only at hF ⊢
        refine nx ?_
        refine pv_ 11 34 ?_
        exact nj (J0 (E3_2, F3_2, G3_2, I3_2, E3_4, F3_4, E3_7, F3_7, E3_8, F3_8, g3_12) _ hF)
      intro J2
      refine join_ (σ := Option Addr × Option Addr × Option Addr × Option Addr × Option Addr × Option Addr × Option Addr × Option Addr × Option Addr × Option Addr × Nat) 4 (bt 15 2047) (fun s => [(26, (pv (s.1) (s.2.1) (s.2.2.1) (s.2.2.2.1) v0)), (28, (qv (s.2.2.2.2.1) (s.2.2.2.2.2.1) d1)), (31, (qv (s.2.2.2.2.2.2.1) (s.2.2.2.2.2.2.2.1) d2)), (32, .tuple #[(qv (s.2.2.2.2.2.2.2.2.1) (s.2.2.2.2.2.2.2.2.2.1) k), .int .i64 0]), (23, .tuple #[(qv (s.2.2.2.2.2.2.2.2.1) (s.2.2.2.2.2.2.2.2.2.1) k), .int .i64 0]), (33, (qv (s.2.2.2.2.2.2.2.2.1) (s.2.2.2.2.2.2.2.2.2.1) k))]) (fun s w' => Bx wk2.heap.size wk2 w' [] [((s.1), (s.2.1), v0.1), ((s.2.2.1), (s.2.2.2.1), v0.2), ((s.2.2.2.2.1), (s.2.2.2.2.2.1), d1), ((s.2.2.2.2.2.2.1), (s.2.2.2.2.2.2.2.1), d2), ((s.2.2.2.2.2.2.2.2.1), (s.2.2.2.2.2.2.2.2.2.1), k)]) ?_ ?_
      · rintro ⟨E3_2, F3_2, G3_2, I3_2, E3_4, F3_4, E3_7, F3_7, E3_8, F3_8, g3_12⟩ wj hF
        try dsimp only at hF ⊢
        refine nx ?_
        refine pv_ 11 34 ?_
        exact nj (J1 (E3_2, F3_2, G3_2, I3_2, E3_4, F3_4, E3_7, F3_7, E3_8, F3_8, g3_12) _ hF)
      intro J3
      refine join_ (σ := Option Addr × Option Addr × Option Addr × Option Addr × Option Addr × Option Addr × Option Addr × Option Addr × Option Addr × Option Addr × Nat) 4 (bt 15 5119) (fun s => [(26, (pv (s.1) (s.2.1) (s.2.2.1) (s.2.2.2.1) v0)), (28, (qv (s.2.2.2.2.1) (s.2.2.2.2.2.1) d1)), (31, (qv (s.2.2.2.2.2.2.1) (s.2.2.2.2.2.2.2.1) d2)), (32, .tuple #[(qv (s.2.2.2.2.2.2.2.2.1) (s.2.2.2.2.2.2.2.2.2.1) k), .int .i64 0]), (23, .tuple #[(qv (s.2.2.2.2.2.2.2.2.1) (s.2.2.2.2.2.2.2.2.2.1) k), .int .i64 0]), (7, .pointer (some ⟨(s.2.2.2.2.2.2.2.2.2.2), 0, none⟩))]) (fun s w' => Bx wk2.heap.size wk2 w' [((s.2.2.2.2.2.2.2.2.2.2), zR)] [((s.1), (s.2.1), v0.1), ((s.2.2.1), (s.2.2.2.1), v0.2), ((s.2.2.2.2.1), (s.2.2.2.2.2.1), d1), ((s.2.2.2.2.2.2.1), (s.2.2.2.2.2.2.2.1), d2), ((s.2.2.2.2.2.2.2.2.1), (s.2.2.2.2.2.2.2.2.2.1), k)]) ?_ ?_
      · rintro ⟨E3_2, F3_2, G3_2, I3_2, E3_4, F3_4, E3_7, F3_7, E3_8, F3_8, g3_12⟩ wj hF
        try dsimp only at hF ⊢
        refine nx ?_
        refine pv_ 10 33 ?_
        exact nj (J2 (E3_2, F3_2, G3_2, I3_2, E3_4, F3_4, E3_7, F3_7, E3_8, F3_8, g3_12) _ hF)
      intro J4
      refine join_ (σ := Option Addr × Option Addr × Option Addr × Option Addr × Option Addr × Option Addr × Option Addr × Option Addr × Option Addr × Option Addr × Nat) 5 (bt 15 1023) (fun s => [(26, (pv (s.1) (s.2.1) (s.2.2.1) (s.2.2.2.1) v0)), (28, (qv (s.2.2.2.2.1) (s.2.2.2.2.2.1) d1)), (31, (qv (s.2.2.2.2.2.2.1) (s.2.2.2.2.2.2.2.1) d2)), (32, .tuple #[(qv (s.2.2.2.2.2.2.2.2.1) (s.2.2.2.2.2.2.2.2.2.1) k), .int .i64 0]), (23, .tuple #[(qv (s.2.2.2.2.2.2.2.2.1) (s.2.2.2.2.2.2.2.2.2.1) k), .int .i64 0])]) (fun s w' => Bx wk2.heap.size wk2 w' [] [((s.1), (s.2.1), v0.1), ((s.2.2.1), (s.2.2.2.1), v0.2), ((s.2.2.2.2.1), (s.2.2.2.2.2.1), d1), ((s.2.2.2.2.2.2.1), (s.2.2.2.2.2.2.2.1), d2), ((s.2.2.2.2.2.2.2.2.1), (s.2.2.2.2.2.2.2.2.2.1), k)]) ?_ ?_
      · rintro ⟨E3_2, F3_2, G3_2, I3_2, E3_4, F3_4, E3_7, F3_7, E3_8, F3_8, g3_12⟩ wj hF
        try dsimp only at hF ⊢
        refine nx ?_
        refine pv_ 10 33 ?_
        exact nj (J3 (E3_2, F3_2, G3_2, I3_2, E3_4, F3_4, E3_7, F3_7, E3_8, F3_8, g3_12) _ hF)
      intro J5
      refine join_ (σ := Option Addr × Option Addr × Option Addr × Option Addr × Option Addr × Option Addr × Option Addr × Option Addr × Option Addr × Option Addr × Nat) 5 (bt 15 4607) (fun s => [(26, (pv (s.1) (s.2.1) (s.2.2.1) (s.2.2.2.1) v0)), (28, (qv (s.2.2.2.2.1) (s.2.2.2.2.2.1) d1)), (31, (qv (s.2.2.2.2.2.2.1) (s.2.2.2.2.2.2.2.1) d2)), (32, .tuple #[(qv (s.2.2.2.2.2.2.2.2.1) (s.2.2.2.2.2.2.2.2.2.1) k), .int .i64 0]), (7, .pointer (some ⟨(s.2.2.2.2.2.2.2.2.2.2), 0, none⟩))]) (fun s w' => Bx wk2.heap.size wk2 w' [((s.2.2.2.2.2.2.2.2.2.2), zR)] [((s.1), (s.2.1), v0.1), ((s.2.2.1), (s.2.2.2.1), v0.2), ((s.2.2.2.2.1), (s.2.2.2.2.2.1), d1), ((s.2.2.2.2.2.2.1), (s.2.2.2.2.2.2.2.1), d2), ((s.2.2.2.2.2.2.2.2.1), (s.2.2.2.2.2.2.2.2.2.1), k)]) ?_ ?_
      · rintro ⟨E3_2, F3_2, G3_2, I3_2, E3_4, F3_4, E3_7, F3_7, E3_8, F3_8, g3_12⟩ wj hF
        try dsimp only at hF ⊢
        refine nx ?_
        refine pv_ 9 23 ?_
        exact nj (J4 (E3_2, F3_2, G3_2, I3_2, E3_4, F3_4, E3_7, F3_7, E3_8, F3_8, g3_12) _ hF)
      intro J6
      refine join_ (σ := Option Addr × Option Addr × Option Addr × Option Addr × Option Addr × Option Addr × Option Addr × Option Addr × Option Addr × Option Addr × Nat) 6 (bt 15 511) (fun s => [(26, (pv (s.1) (s.2.1) (s.2.2.1) (s.2.2.2.1) v0)), (28, (qv (s.2.2.2.2.1) (s.2.2.2.2.2.1) d1)), (31, (qv (s.2.2.2.2.2.2.1) (s.2.2.2.2.2.2.2.1) d2)), (32, .tuple #[(qv (s.2.2.2.2.2.2.2.2.1) (s.2.2.2.2.2.2.2.2.2.1) k), .int .i64 0])]) (fun s w' => Bx wk2.heap.size wk2 w' [] [((s.1), (s.2.1), v0.1), ((s.2.2.1), (s.2.2.2.1), v0.2), ((s.2.2.2.2.1), (s.2.2.2.2.2.1), d1), ((s.2.2.2.2.2.2.1), (s.2.2.2.2.2.2.2.1), d2), ((s.2.2.2.2.2.2.2.2.1), (s.2.2.2.2.2.2.2.2.2.1), k)]) ?_ ?_
      · rintro ⟨E3_2, F3_2, G3_2, I3_2, E3_4, F3_4, E3_7, F3_7, E3_8, F3_8, g3_12⟩ wj hF
        try dsimp only at hF ⊢
        refine nx ?_
        refine pv_ 9 23 ?_
        exact nj (J5 (E3_2, F3_2, G3_2, I3_2, E3_4, F3_4, E3_7, F3_7, E3_8, F3_8, g3_12) _ hF)
      intro J7
      refine join_ (σ := Option Addr × Option Addr × Option Addr × Option Addr × Option Addr × Option Addr × Option Addr × Option Addr × Option Addr × Option Addr × Nat) 6 (bt 15 4351) (fun s => [(26, (pv (s.1) (s.2.1) (s.2.2.1) (s.2.2.2.1) v0)), (28, (qv (s.2.2.2.2.1) (s.2.2.2.2.2.1) d1)), (31, (qv (s.2.2.2.2.2.2.1) (s.2.2.2.2.2.2.2.1) d2)), (7, .pointer (some ⟨(s.2.2.2.2.2.2.2.2.2.2), 0, none⟩))]) (fun s w' => Bx wk2.heap.size wk2 w' [((s.2.2.2.2.2.2.2.2.2.2), zR)] [((s.1), (s.2.1), v0.1), ((s.2.2.1), (s.2.2.2.1), v0.2), ((s.2.2.2.2.1), (s.2.2.2.2.2.1), d1), ((s.2.2.2.2.2.2.1), (s.2.2.2.2.2.2.2.1), d2)]) ?_ ?_
      · rintro ⟨E3_2, F3_2, G3_2, I3_2, E3_4, F3_4, E3_7, F3_7, E3_8, F3_8, g3_12⟩ wj hF
        try dsimp only at hF ⊢
        refine nx ?_
        refine o1 8 32 (bt 15 4607) ?_
        · intro K hK
          refine go_ Tryz.func82 #[.agg #[.bool (decide (d1.num < 0)), .slice E3_4 (qn d1).length (qn d1).length, .slice F3_4 (qd d1).length (qd d1).length], .agg #[.bool (decide (d2.num < 0)), .slice E3_7 (qn d2).length (qn d2).length, .slice F3_7 (qd d2).length (qd d2).length]] ?_
          with_reducible refine (DV.out _ _ _ _ wj HKZ.out.2 (hF.ins 2 rfl) (hF.ins 3 rfl)).mono ?_
          rintro e w' ⟨E3_8, F3_8, rfl, hf, hb⟩
          refine ⟨_, rfl, ?_⟩
          have hN := hF.call hf hb
          refine hK.out _ _ (by exact (And.intro (hN.m.b.block _ (HM.out.lt 1 rfl)) (And.intro (hN.m.b.block _ (HM.out.lt 3 rfl)) (hN.m.b.block _ (HM.out.lt 4 rfl))))) (fun hHeld => ?_)
          exact nj (J6 (E3_2, F3_2, G3_2, I3_2, E3_4, F3_4, E3_7, F3_7, E3_8, F3_8, g3_12) _ hN)
      intro J8
      refine join_ (σ := Option Addr × Option Addr × Option Addr × Option Addr × Option Addr × Option Addr × Option Addr × Option Addr × Option Addr × Option Addr × Nat) 7 (bt 15 255) (fun s => [(26, (pv (s.1) (s.2.1) (s.2.2.1) (s.2.2.2.1) v0)), (28, (qv (s.2.2.2.2.1) (s.2.2.2.2.2.1) d1)), (31, (qv (s.2.2.2.2.2.2.1) (s.2.2.2.2.2.2.2.1) d2))]) (fun s w' => Bx wk2.heap.size wk2 w' [] [((s.1), (s.2.1), v0.1), ((s.2.2.1), (s.2.2.2.1), v0.2), ((s.2.2.2.2.1), (s.2.2.2.2.2.1), d1), ((s.2.2.2.2.2.2.1), (s.2.2.2.2.2.2.2.1), d2)]) ?_ ?_
      · rintro ⟨E3_2, F3_2, G3_2, I3_2, E3_4, F3_4, E3_7, F3_7, E3_8, F3_8, g3_12⟩ wj hF
        try dsimp only at hF ⊢
        refine nx ?_
        refine o2 8 32 12 7 (bt 15 511) (bt 15 4351) ?_ ?_
        · intro K hK
          refine go_ Tryz.func82 #[.agg #[.bool (decide (d1.num < 0)), .slice E3_4 (qn d1).length (qn d1).length, .slice F3_4 (qd d1).length (qd d1).length], .agg #[.bool (decide (d2.num < 0)), .slice E3_7 (qn d2).length (qn d2).length, .slice F3_7 (qd d2).length (qd d2).length]] ?_
          with_reducible refine (DV.out _ _ _ _ wj HKZ.out.2 (hF.ins 2 rfl) (hF.ins 3 rfl)).mono ?_
          rintro e w' ⟨E3_8, F3_8, rfl, hf, hb⟩
          refine ⟨_, rfl, ?_⟩
          have hN := hF.call hf hb
          refine hK.out _ _ (by exact (And.intro (hN.m.b.block _ (HM.out.lt 1 rfl)) (And.intro (hN.m.b.block _ (HM.out.lt 3 rfl)) (hN.m.b.block _ (HM.out.lt 4 rfl))))) (fun hHeld => ?_)
          exact nj (J7 (E3_2, F3_2, G3_2, I3_2, E3_4, F3_4, E3_7, F3_7, E3_8, F3_8, g3_12) _ hN)
        · intro K hK
          refine al_ (.cells #[.bool false, .slice none 0 0, .slice none 0 0] 45) ?_
          have hN := hF.alloc zR
          refine hK.out _ _ (by exact (And.intro (hN.m.b.block _ (HM.out.lt 1 rfl)) (And.intro (hN.m.b.block _ (HM.out.lt 3 rfl)) (hN.m.b.block _ (HM.out.lt 4 rfl))))) (fun hHeld => ?_)
          exact nj (J8 (E3_2, F3_2, G3_2, I3_2, E3_4, F3_4, E3_7, F3_7, E3_8, F3_8, wj.heap.size) _ hN)
      intro J9
      refine join_ (σ := Option Addr × Option Addr × Option Addr × Option Addr × Option Addr × Option Addr × Option Addr × Option Addr × Option Addr × Option Addr × Nat) 7 (bt 15 4223) (fun s => [(26, (pv (s.1) (s.2.1) (s.2.2.1) (s.2.2.2.1) v0)), (28, (qv (s.2.2.2.2.1) (s.2.2.2.2.2.1) d1)), (7, .pointer (some ⟨(s.2.2.2.2.2.2.2.2.2.2), 0, none⟩))]) (fun s w' => Bx wk2.heap.size wk2 w' [((s.2.2.2.2.2.2.2.2.2.2), zR)] [((s.1), (s.2.1), v0.1), ((s.2.2.1), (s.2.2.2.1), v0.2), ((s.2.2.2.2.1), (s.2.2.2.2.2.1), d1)]) ?_ ?_
      · rintro ⟨E3_2, F3_2, G3_2, I3_2, E3_4, F3_4, E3_7, F3_7, E3_8, F3_8, g3_12⟩ wj hF
        try dsimp only at hF ⊢
        refine nx ?_
        refine o1 7 31 (bt 15 4351) ?_
        · intro K hK
          refine go_ Tryz.func63 #[.agg #[.bool (decide (u.1.num < 0)), .slice E0_4 (qn u.1).length (qn u.1).length, .slice F0_4 (qd u.1).length (qd u.1).length, .bool (decide (u.2.num < 0)), .slice G0_4 (qn u.2).length (qn u.2).length, .slice I0_4 (qd u.2).length (qd u.2).length], .agg #[.bool (decide (u.1.num < 0)), .slice E0_4 (qn u.1).length (qn u.1).length, .slice F0_4 (qd u.1).length (qd u.1).length, .bool (decide (u.2.num < 0)), .slice G0_4 (qn u.2).length (qn u.2).length, .slice I0_4 (qd u.2).length (qd u.2).length]] ?_
          with_reducible refine (VD2.out _ _ _ _ _ _ _ _ wj ⟨((HM.out.keep hF.m.b).ins 2 rfl), ((HM.out.keep hF.m.b).ins 3 rfl)⟩ ⟨((HM.out.keep hF.m.b).ins 2 rfl), ((HM.out.keep hF.m.b).ins 3 rfl)⟩).mono ?_
          rintro e w' ⟨E3_7, F3_7, rfl, hf, hb⟩
          refine ⟨_, rfl, ?_⟩
          have hN := hF.call hf hb
          refine hK.out _ _ (by exact (And.intro (hN.m.b.block _ (HM.out.lt 1 rfl)) (And.intro (hN.m.b.block _ (HM.out.lt 3 rfl)) (hN.m.b.block _ (HM.out.lt 4 rfl))))) (fun hHeld => ?_)
          exact nj (J8 (E3_2, F3_2, G3_2, I3_2, E3_4, F3_4, E3_7, F3_7, E3_8, F3_8, g3_12) _ hN)
      intro J10
      refine join_ (σ := Option Addr × Option Addr × Option Addr × Option Addr × Option Addr × Option Addr × Option Addr × Option Addr × Option Addr × Option Addr × Nat) 8 (bt 15 127) (fun s => [(26, (pv (s.1) (s.2.1) (s.2.2.1) (s.2.2.2.1) v0)), (28, (qv (s.2.2.2.2.1) (s.2.2.2.2.2.1) d1))]) (fun s w' => Bx wk2.heap.size wk2 w' [] [((s.1), (s.2.1), v0.1), ((s.2.2.1), (s.2.2.2.1), v0.2), ((s.2.2.2.2.1), (s.2.2.2.2.2.1), d1)]) ?_ ?_
      · rintro ⟨E3_2, F3_2, G3_2, I3_2, E3_4, F3_4, E3_7, F3_7, E3_8, F3_8, g3_12⟩ wj hF
        try dsimp only at hF ⊢
        refine nx ?_
        refine o2 7 31 12 7 (bt 15 255) (bt 15 4223) ?_ ?_
        · intro K hK
          refine go_ Tryz.func63 #[.agg #[.bool (decide (u.1.num < 0)), .slice E0_4 (qn u.1).length (qn u.1).length, .slice F0_4 (qd u.1).length (qd u.1).length, .bool (decide (u.2.num < 0)), .slice G0_4 (qn u.2).length (qn u.2).length, .slice I0_4 (qd u.2).length (qd u.2).length], .agg #[.bool (decide (u.1.num < 0)), .slice E0_4 (qn u.1).length (qn u.1).length, .slice F0_4 (qd u.1).length (qd u.1).length, .bool (decide (u.2.num < 0)), .slice G0_4 (qn u.2).length (qn u.2).length, .slice I0_4 (qd u.2).length (qd u.2).length]] ?_
          with_reducible refine (VD2.out _ _ _ _ _ _ _ _ wj ⟨((HM.out.keep hF.m.b).ins 2 rfl), ((HM.out.keep hF.m.b).ins 3 rfl)⟩ ⟨((HM.out.keep hF.m.b).ins 2 rfl), ((HM.out.keep hF.m.b).ins 3 rfl)⟩).mono ?_
          rintro e w' ⟨E3_7, F3_7, rfl, hf, hb⟩
          refine ⟨_, rfl, ?_⟩
          have hN := hF.call hf hb
          refine hK.out _ _ (by exact (And.intro (hN.m.b.block _ (HM.out.lt 1 rfl)) (And.intro (hN.m.b.block _ (HM.out.lt 3 rfl)) (hN.m.b.block _ (HM.out.lt 4 rfl))))) (fun hHeld => ?_)
          exact nj (J9 (E3_2, F3_2, G3_2, I3_2, E3_4, F3_4, E3_7, F3_7, E3_8, F3_8, g3_12) _ hN)
        · intro K hK
          refine al_ (.cells #[.bool false, .slice none 0 0, .slice none 0 0] 45) ?_
          have hN := hF.alloc zR
          refine hK.out _ _ (by exact (And.intro (hN.m.b.block _ (HM.out.lt 1 rfl)) (And.intro (hN.m.b.block _ (HM.out.lt 3 rfl)) (hN.m.b.block _ (HM.out.lt 4 rfl))))) (fun hHeld => ?_)
          exact nj (J10 (E3_2, F3_2, G3_2, I3_2, E3_4, F3_4, E3_7, F3_7, E3_8, F3_8, wj.heap.size) _ hN)
      intro J11
      refine join_ (σ := Option Addr × Option Addr × Option Addr × Option Addr × Option Addr × Option Addr × Option Addr × Option Addr × Option Addr × Option Addr × Nat) 8 (bt 15 4207) (fun s => [(26, (pv (s.1) (s.2.1) (s.2.2.1) (s.2.2.2.1) v0)), (7, .pointer (some ⟨(s.2.2.2.2.2.2.2.2.2.2), 0, none⟩))]) (fun s w' => Bx wk2.heap.size wk2 w' [((s.2.2.2.2.2.2.2.2.2.2), zR)] [((s.1), (s.2.1), v0.1), ((s.2.2.1), (s.2.2.2.1), v0.2)]) ?_ ?_
      · rintro ⟨E3_2, F3_2, G3_2, I3_2, E3_4, F3_4, E3_7, F3_7, E3_8, F3_8, g3_12⟩ wj hF
        try dsimp only at hF ⊢
        refine nx ?_
        refine o1 4 28 (bt 15 4223) ?_
        · intro K hK
          refine go_ Tryz.func63 #[.agg #[.bool (decide (v0.1.num < 0)), .slice E3_2 (qn v0.1).length (qn v0.1).length, .slice F3_2 (qd v0.1).length (qd v0.1).length, .bool (decide (v0.2.num < 0)), .slice G3_2 (qn v0.2).length (qn v0.2).length, .slice I3_2 (qd v0.2).length (qd v0.2).length], .agg #[.bool (decide (u.1.num < 0)), .slice E0_4 (qn u.1).length (qn u.1).length, .slice F0_4 (qd u.1).length (qd u.1).length, .bool (decide (u.2.num < 0)), .slice G0_4 (qn u.2).length (qn u.2).length, .slice I0_4 (qd u.2).length (qd u.2).length]] ?_
          with_reducible refine (VD1.out _ _ _ _ _ _ _ _ wj ⟨(hF.ins 0 rfl), (hF.ins 1 rfl)⟩ ⟨((HM.out.keep hF.m.b).ins 2 rfl), ((HM.out.keep hF.m.b).ins 3 rfl)⟩).mono ?_
          rintro e w' ⟨E3_4, F3_4, rfl, hf, hb⟩
          refine ⟨_, rfl, ?_⟩
          have hN := hF.call hf hb
          refine hK.out _ _ (by exact (And.intro (hN.m.b.block _ (HM.out.lt 1 rfl)) (And.intro (hN.m.b.block _ (HM.out.lt 3 rfl)) (hN.m.b.block _ (HM.out.lt 4 rfl))))) (fun hHeld => ?_)
          exact nj (J10 (E3_2, F3_2, G3_2, I3_2, E3_4, F3_4, E3_7, F3_7, E3_8, F3_8, g3_12) _ hN)
      intro J12
      refine join_ (σ := Option Addr × Option Addr × Option Addr × Option Addr × Option Addr × Option Addr × Option Addr × Option Addr × Option Addr × Option Addr × Nat) 9 (bt 15 111) (fun s => [(26, (pv (s.1) (s.2.1) (s.2.2.1) (s.2.2.2.1) v0))]) (fun s w' => Bx wk2.heap.size wk2 w' [] [((s.1), (s.2.1), v0.1), ((s.2.2.1), (s.2.2.2.1), v0.2)]) ?_ ?_
      · rintro ⟨E3_2, F3_2, G3_2, I3_2, E3_4, F3_4, E3_7, F3_7, E3_8, F3_8, g3_12⟩ wj hF
        try dsimp only at hF ⊢
        refine nx ?_
        refine o2 4 28 12 7 (bt 15 127) (bt 15 4207) ?_ ?_
        · intro K hK
          refine go_ Tryz.func63 #[.agg #[.bool (decide (v0.1.num < 0)), .slice E3_2 (qn v0.1).length (qn v0.1).length, .slice F3_2 (qd v0.1).length (qd v0.1).length, .bool (decide (v0.2.num < 0)), .slice G3_2 (qn v0.2).length (qn v0.2).length, .slice I3_2 (qd v0.2).length (qd v0.2).length], .agg #[.bool (decide (u.1.num < 0)), .slice E0_4 (qn u.1).length (qn u.1).length, .slice F0_4 (qd u.1).length (qd u.1).length, .bool (decide (u.2.num < 0)), .slice G0_4 (qn u.2).length (qn u.2).length, .slice I0_4 (qd u.2).length (qd u.2).length]] ?_
          with_reducible refine (VD1.out _ _ _ _ _ _ _ _ wj ⟨(hF.ins 0 rfl), (hF.ins 1 rfl)⟩ ⟨((HM.out.keep hF.m.b).ins 2 rfl), ((HM.out.keep hF.m.b).ins 3 rfl)⟩).mono ?_
          rintro e w' ⟨E3_4, F3_4, rfl, hf, hb⟩
          refine ⟨_, rfl, ?_⟩
          have hN := hF.call hf hb
          refine hK.out _ _ (by exact (And.intro (hN.m.b.block _ (HM.out.lt 1 rfl)) (And.intro (hN.m.b.block _ (HM.out.lt 3 rfl)) (hN.m.b.block _ (HM.out.lt 4 rfl))))) (fun hHeld => ?_)
          exact nj (J11 (E3_2, F3_2, G3_2, I3_2, E3_4, F3_4, E3_7, F3_7, E3_8, F3_8, g3_12) _ hN)
        · intro K hK
          refine al_ (.cells #[.bool false, .slice none 0 0, .slice none 0 0] 45) ?_
          have hN := hF.alloc zR
          refine hK.out _ _ (by exact (And.intro (hN.m.b.block _ (HM.out.lt 1 rfl)) (And.intro (hN.m.b.block _ (HM.out.lt 3 rfl)) (hN.m.b.block _ (HM.out.lt 4 rfl))))) (fun hHeld => ?_)
          exact nj (J12 (E3_2, F3_2, G3_2, I3_2, E3_4, F3_4, E3_7, F3_7, E3_8, F3_8, wj.heap.size) _ hN)
      intro J13
      refine join_ (σ := Option Addr × Option Addr × Option Addr × Option Addr × Option Addr × Option Addr × Option Addr × Option Addr × Option Addr × Option Addr × Nat) 9 (bt 15 4203) (fun s => [(7, .pointer (some ⟨(s.2.2.2.2.2.2.2.2.2.2), 0, none⟩))]) (fun s w' => Bx wk2.heap.size wk2 w' [((s.2.2.2.2.2.2.2.2.2.2), zR)] []) ?_ ?_
      · rintro ⟨E3_2, F3_2, G3_2, I3_2, E3_4, F3_4, E3_7, F3_7, E3_8, F3_8, g3_12⟩ wj hF
        try dsimp only at hF ⊢
        refine nx ?_
        refine o1 2 26 (bt 15 4207) ?_
        · intro K hK
          refine go_ Tryz.func62 #[.agg #[.bool (decide (p.1.num < 0)), .slice A (qn p.1).length (qn p.1).length, .slice B (qd p.1).length (qd p.1).length, .bool (decide (p.2.num < 0)), .slice C (qn p.2).length (qn p.2).length, .slice D (qd p.2).length (qd p.2).length], .agg #[.bool (decide (a.1.num < 0)), .slice E0_2 (qn a.1).length (qn a.1).length, .slice F0_2 (qd a.1).length (qd a.1).length, .bool (decide (a.2.num < 0)), .slice G0_2 (qn a.2).length (qn a.2).length, .slice I0_2 (qd a.2).length (qd a.2).length]] ?_
          with_reducible refine (VM.out _ _ _ _ _ _ _ _ wj ⟨((HM.out.keep hF.m.b).arg HX.out.1.h1 HX.out.2), ((HM.out.keep hF.m.b).arg HX.out.1.h2 HX.out.2)⟩ ⟨((HM.out.keep hF.m.b).ins 0 rfl), ((HM.out.keep hF.m.b).ins 1 rfl)⟩).mono ?_
          rintro e w' ⟨E3_2, F3_2, G3_2, I3_2, rfl, hf, hb⟩
          refine ⟨_, rfl, ?_⟩
          have hN := hF.call2 hf hb
          refine hK.out _ _ (by exact (And.intro (hN.m.b.block _ (HM.out.lt 1 rfl)) (And.intro (hN.m.b.block _ (HM.out.lt 3 rfl)) (hN.m.b.block _ (HM.out.lt 4 rfl))))) (fun hHeld => ?_)
          exact nj (J12 (E3_2, F3_2, G3_2, I3_2, E3_4, F3_4, E3_7, F3_7, E3_8, F3_8, g3_12) _ hN)
      intro J14
      refine join_ (σ := Option Addr × Option Addr × Option Addr × Option Addr × Option Addr × Option Addr × Option Addr × Option Addr × Option Addr × Option Addr × Nat) 10 (bt 15 107) (fun s => []) (fun s w' => Bx wk2.heap.size wk2 w' [] []) ?_ ?_
      · rintro ⟨E3_2, F3_2, G3_2, I3_2, E3_4, F3_4, E3_7, F3_7, E3_8, F3_8, g3_12⟩ wj hF
        try dsimp only at hF ⊢
        refine nx ?_
        refine o2 2 26 12 7 (bt 15 111) (bt 15 4203) ?_ ?_
        · intro K hK
          refine go_ Tryz.func62 #[.agg #[.bool (decide (p.1.num < 0)), .slice A (qn p.1).length (qn p.1).length, .slice B (qd p.1).length (qd p.1).length, .bool (decide (p.2.num < 0)), .slice C (qn p.2).length (qn p.2).length, .slice D (qd p.2).length (qd p.2).length], .agg #[.bool (decide (a.1.num < 0)), .slice E0_2 (qn a.1).length (qn a.1).length, .slice F0_2 (qd a.1).length (qd a.1).length, .bool (decide (a.2.num < 0)), .slice G0_2 (qn a.2).length (qn a.2).length, .slice I0_2 (qd a.2).length (qd a.2).length]] ?_
          with_reducible refine (VM.out _ _ _ _ _ _ _ _ wj ⟨((HM.out.keep hF.m.b).arg HX.out.1.h1 HX.out.2), ((HM.out.keep hF.m.b).arg HX.out.1.h2 HX.out.2)⟩ ⟨((HM.out.keep hF.m.b).ins 0 rfl), ((HM.out.keep hF.m.b).ins 1 rfl)⟩).mono ?_
          rintro e w' ⟨E3_2, F3_2, G3_2, I3_2, rfl, hf, hb⟩
          refine ⟨_, rfl, ?_⟩
          have hN := hF.call2 hf hb
          refine hK.out _ _ (by exact (And.intro (hN.m.b.block _ (HM.out.lt 1 rfl)) (And.intro (hN.m.b.block _ (HM.out.lt 3 rfl)) (hN.m.b.block _ (HM.out.lt 4 rfl))))) (fun hHeld => ?_)
          exact nj (J13 (E3_2, F3_2, G3_2, I3_2, E3_4, F3_4, E3_7, F3_7, E3_8, F3_8, g3_12) _ hN)
        · intro K hK
          refine al_ (.cells #[.bool false, .slice none 0 0, .slice none 0 0] 45) ?_
          have hN := hF.alloc zR
          refine hK.out _ _ (by exact (And.intro (hN.m.b.block _ (HM.out.lt 1 rfl)) (And.intro (hN.m.b.block _ (HM.out.lt 3 rfl)) (hN.m.b.block _ (HM.out.lt 4 rfl))))) (fun hHeld => ?_)
          exact nj (J14 (E3_2, F3_2, G3_2, I3_2, E3_4, F3_4, E3_7, F3_7, E3_8, F3_8, wj.heap.size) _ hN)
      intro J15
      exact nj (J15 (none, none, none, none, none, none, none, none, none, none, 0) _ ((Bx.start _).drew))
    rintro ⟨E3_2, F3_2, G3_2, I3_2, E3_4, F3_4, E3_7, F3_7, E3_8, F3_8, g3_12⟩ wj hF
    try dsimp only at hF ⊢
    refine nx ?_
    have hG := HM.out.join hF
    (try simp only [List.nil_append, List.cons_append, World.size_alloc, List.set_cons_zero, List.set_cons_succ, putsC, pB, pC, pD] at hG)
    have hHeld := And.intro True.intro (And.intro (hF.m.b.block _ (HM.out.lt 1 rfl)) (And.intro (hF.m.b.block _ (HM.out.lt 3 rfl)) (hF.m.b.block _ (HM.out.lt 4 rfl))))
    clear HM hF
    refine last_ (i := 13) (N := none) (bt 15 16383) rfl rfl (by kernel_rfl) (by decide) (fun K hK => ?_)
    obtain ⟨y0, y1, y2, y3, y4, y5⟩ := rw3 (hG.at 5 rfl)
    refine skip_ (w1 := puts (g3_12) [(0, .bool (decide (k.num < 0))), (1, .slice E3_8 (qn k).length (qn k).length), (2, .slice F3_8 (qd k).length (qd k).length)] wj) (by rfl) rfl ?_ ?_
    · go_simp
      rfl
    refine hK.out _ _ ?_
    clear hK K y0 y1 y2 y3 y4 y5
    replace hG := hG.puts 5 rfl (by decide) [(0, .bool (decide (k.num < 0))), (1, .slice E3_8 (qn k).length (qn k).length), (2, .slice F3_8 (qd k).length (qd k).length)]
    (try simp only [List.nil_append, List.cons_append, World.size_alloc, List.set_cons_zero, List.set_cons_succ, putsC, pB, pC, pD] at hG)
    generalize puts (g3_12) _ wj = wk4 at *
    refine pv_ 14 8 ?_
    refine done_ (by kernel_rfl) ?_
    (try simp only [List.nil_append, List.cons_append, World.size_alloc, List.set_cons_zero, List.set_cons_succ, putsC, pB, pC, pD] at hG)
    have HM := Lib.hid hG
    clear hG hHeld
    go_upto_region 5 with (fail)
    have HK := Lib.hid (I1.out wk4)
    ((try dsimp only); repeat (first | go_values | go_skip | go_guarded | go_step | go_upon))
    refine HK.out.mono ?_
    rintro e w5 ⟨E5, F5, rfl, hf, hb⟩
    have hm : Bx w.heap.size w (World.alloc w5 (.cells #[.bool (decide (one.num < 0)), .slice E5 (qn one).length (qn one).length, .slice F5 (qd one).length (qd one).length] 45)) _ _ := ((HM.out.call hf hb).alloc (.cells #[.bool (decide (one.num < 0)), .slice E5 (qn one).length (qn one).length, .slice F5 (qd one).length (qd one).length] 45 (0, 0)))
    clear HK HM hf hb 
    go_upto_region 6 with (fail)
    generalize (World.alloc w5 _) = v6 at *
    (try simp only [List.nil_append, List.cons_append, World.size_alloc, List.set_cons_zero, List.set_cons_succ, putsC, pB, pC, pD] at hm)
    have HM := Lib.hid hm
    clear hm
    rcases HK1.out with hk | hk | hk
    · have hc : qcmp k 1 = -1 := qcmp_lt.2 (by grind)
      have hg : qsgn k = -1 := qsgn_neg.2 hk.1
      have hrc : clK k = zero := hk.2.trans hzero'.out.symm
      rw [← hone'.out] at hc
      rw [hc] at CM
      have SGk := Lib.hid (fun A B wz h1 => SG.out A B wz k HKZ.out.1 h1)
      rw [hg] at SGk
      have HRC := Lib.hid hrc
      clear hk hc hg hrc SG
      obtain ⟨c5_0, c5_1, c5_2, c5_3, c5_4, c5_5⟩ := rw3 (HM.out.at 5 rfl)
      obtain ⟨c6_0, c6_1, c6_2, c6_3, c6_4, c6_5⟩ := rw3 (HM.out.at 6 rfl)
      have HK := Lib.hid (CM.out _ _ _ _ v6 HKZ.out.1 (HM.out.ins 8 rfl) (HM.out.ins 9 rfl))
      ((try dsimp only); repeat (first | go_values | go_skip | go_guarded | go_step | go_upon))
      refine HK.out.mono ?_
      rintro e w7 ⟨rfl, hb⟩
      have hm := (HM.out.keep hb)
      clear HK HM hb c5_0 c5_1 c5_2 c5_3 c5_4 c5_5 c6_0 c6_1 c6_2 c6_3 c6_4 c6_5
      (try simp only [List.nil_append, List.cons_append, World.size_alloc, List.set_cons_zero, List.set_cons_succ, putsC, pB, pC, pD] at hm)
      have HM := Lib.hid hm
      clear hm
      go_upto_region 9 with (fail)
      obtain ⟨c5_0, c5_1, c5_2, c5_3, c5_4, c5_5⟩ := rw3 (HM.out.at 5 rfl)
      have HK := Lib.hid (SGk.out _ _ w7 (HM.out.ins 8 rfl))
      ((try dsimp only); repeat (first | go_values | go_skip | go_guarded | go_step | go_upon))
      refine HK.out.mono ?_
      rintro e w8 ⟨rfl, hb⟩
      have hm := (HM.out.keep hb)
      clear HK HM hb c5_0 c5_1 c5_2 c5_3 c5_4 c5_5
      (try simp only [List.nil_append, List.cons_append, World.size_alloc, List.set_cons_zero, List.set_cons_succ, putsC, pB, pC, pD] at hm)
      have HM := Lib.hid hm
      clear hm
      go_upto_region 10 with (fail)
      have HK := Lib.hid (I0.out w8)
      ((try dsimp only); repeat (first | go_values | go_skip | go_guarded | go_step | go_upon))
      refine HK.out.mono ?_
      rintro e w9 ⟨E9, F9, rfl, hf, hb⟩
      have hm := (HM.out.call hf hb)
      clear HK HM hf hb 
      (try simp only [List.nil_append, List.cons_append, World.size_alloc, List.set_cons_zero, List.set_cons_succ, putsC, pB, pC, pD] at hm)
      have HM := Lib.hid hm
      clear hm
      obtain ⟨c5_0, c5_1, c5_2, c5_3, c5_4, c5_5⟩ := rw3 (HM.out.at 5 rfl)
      have hm : Bx w.heap.size w (World.setCell (World.setCell (World.setCell w9 ⟨g3_12, 0, none⟩ (.bool (decide (zero.num < 0)))) ⟨g3_12, 1, none⟩ (.slice E9 (qn zero).length (qn zero).length)) ⟨g3_12, 2, none⟩ (.slice F9 (qd zero).length (qd zero).length)) _ _ := (HM.out.puts 5 rfl (by decide) [(0, .bool (decide (zero.num < 0))), (1, .slice E9 (qn zero).length (qn zero).length), (2, .slice F9 (qd zero).length (qd zero).length)])
      go_upto_region 11 with (fail)
      generalize (World.setCell (World.setCell (World.setCell w9 _ _) _ _) _ _) = v10 at *
      clear HM c5_0 c5_1 c5_2 c5_3 c5_4 c5_5
      (try simp only [List.nil_append, List.cons_append, World.size_alloc, List.set_cons_zero, List.set_cons_succ, putsC, pB, pC, pD] at hm)
      have HM := Lib.hid hm
      clear hm
      have hz := (show Sz 17300 zero by rw [hzero'.out]; exact SZ.out.2.1)
      have HZK := Lib.hid hz
      clear hz
      obtain ⟨c3_0, c3_1, c3_2, c3_3, c3_4, c3_5, c3_6, c3_7, c3_8, c3_9, c3_10, c3_11⟩ := rw6 (HM.out.at 3 rfl)
      obtain ⟨c4_0, c4_1, c4_2, c4_3, c4_4, c4_5, c4_6, c4_7, c4_8, c4_9, c4_10, c4_11⟩ := rw6 (HM.out.at 4 rfl)
      obtain ⟨c5_0, c5_1, c5_2, c5_3, c5_4, c5_5⟩ := rw3 (HM.out.at 5 rfl)
      have HK := Lib.hid (AL.out _ _ _ _ _ _ _ _ _ _ v10 zero HZK.out ⟨(HM.out.ins 0 rfl), (HM.out.ins 1 rfl)⟩ (HM.out.ins 10 rfl) ⟨(HM.out.ins 2 rfl), (HM.out.ins 3 rfl)⟩)
      ((try dsimp only); repeat (first | go_values | go_skip | go_guarded | go_step | go_upon))
      refine HK.out.mono ?_
      rintro e w11 ⟨E11, F11, G11, I11, rfl, hf, hb⟩
      have hm := (HM.out.call2 hf hb)
      clear HK HM hf hb c3_0 c3_1 c3_2 c3_3 c3_4 c3_5 c3_6 c3_7 c3_8 c3_9 c3_10 c3_11 c4_0 c4_1 c4_2 c4_3 c4_4 c4_5 c4_6 c4_7 c4_8 c4_9 c4_10 c4_11 c5_0 c5_1 c5_2 c5_3 c5_4 c5_5
      (try simp only [List.nil_append, List.cons_append, World.size_alloc, List.set_cons_zero, List.set_cons_succ, putsC, pB, pC, pD] at hm)
      have HM := Lib.hid hm
      clear hm
      obtain ⟨c2_0, c2_1, c2_2, c2_3, c2_4, c2_5, c2_6, c2_7, c2_8, c2_9, c2_10, c2_11⟩ := rw6 (HM.out.at 2 rfl)
      have hm : Bx w.heap.size w (World.setCell (World.setCell (World.setCell (World.setCell (World.setCell (World.setCell w11 ⟨w.heap.size + 1 + 1, 0, none⟩ (.bool (decide ((a.1 + zero * u.1).num < 0)))) ⟨w.heap.size + 1 + 1, 1, none⟩ (.slice E11 (qn (a.1 + zero * u.1)).length (qn (a.1 + zero * u.1)).length)) ⟨w.heap.size + 1 + 1, 2, none⟩ (.slice F11 (qd (a.1 + zero * u.1)).length (qd (a.1 + zero * u.1)).length)) ⟨w.heap.size + 1 + 1, 3, none⟩ (.bool (decide ((a.2 + zero * u.2).num < 0)))) ⟨w.heap.size + 1 + 1, 4, none⟩ (.slice G11 (qn (a.2 + zero * u.2)).length (qn (a.2 + zero * u.2)).length)) ⟨w.heap.size + 1 + 1, 5, none⟩ (.slice I11 (qd (a.2 + zero * u.2)).length (qd (a.2 + zero * u.2)).length)) _ _ := (HM.out.puts 2 rfl (by decide) [(0, .bool (decide ((a.1 + zero * u.1).num < 0))), (1, .slice E11 (qn (a.1 + zero * u.1)).length (qn (a.1 + zero * u.1)).length), (2, .slice F11 (qd (a.1 + zero * u.1)).length (qd (a.1 + zero * u.1)).length), (3, .bool (decide ((a.2 + zero * u.2).num < 0))), (4, .slice G11 (qn (a.2 + zero * u.2)).length (qn (a.2 + zero * u.2)).length), (5, .slice I11 (qd (a.2 + zero * u.2)).length (qd (a.2 + zero * u.2)).length)])
      ((try dsimp only); repeat (first | go_values | go_skip | go_guarded | go_step | go_upon))
      refine bodyPost_ret (results_cell_row rfl _ _ (w.heap.size + 1 + 1) _ _ _ _ rfl (hm.at 2 rfl) rfl rfl rfl) rfl ?_
      exact ⟨E11, F11, G11, I11, by rw [HR.out, HRC.out]; rfl, by rw [HR.out, HRC.out]; exact ⟨hm.fresh 11 rfl, hm.fresh 12 rfl⟩, hm.m.b⟩
    · have hc : qcmp k 1 ≤ 0 := qcmp_nonpos.2 hk.2.1
      have hg : 0 ≤ qsgn k := by have := mt qsgn_lt0.1 (show ¬ k < 0 by grind); omega
      have hrc : clK k = k := hk.2.2
      rw [← hone'.out] at hc
      have SGk := Lib.hid (fun A B wz h1 => SG.out A B wz k HKZ.out.1 h1)
      generalize qsgn k = c2 at *
      generalize qcmp k one = c1 at *
      have hc' : ¬ 0 < c1 := by omega
      have hg' : ¬ c2 < 0 := by omega
      have HRC := Lib.hid hrc
      clear hk hrc SG
      obtain ⟨c5_0, c5_1, c5_2, c5_3, c5_4, c5_5⟩ := rw3 (HM.out.at 5 rfl)
      obtain ⟨c6_0, c6_1, c6_2, c6_3, c6_4, c6_5⟩ := rw3 (HM.out.at 6 rfl)
      have HK := Lib.hid (CM.out _ _ _ _ v6 HKZ.out.1 (HM.out.ins 8 rfl) (HM.out.ins 9 rfl))
      ((try dsimp only); repeat (first | go_values | go_skip | go_guarded | go_step | go_upon))
      refine HK.out.mono ?_
      rintro e w7 ⟨rfl, hb⟩
      have hm := (HM.out.keep hb)
      clear HK HM hb c5_0 c5_1 c5_2 c5_3 c5_4 c5_5 c6_0 c6_1 c6_2 c6_3 c6_4 c6_5
      (try simp only [List.nil_append, List.cons_append, World.size_alloc, List.set_cons_zero, List.set_cons_succ, putsC, pB, pC, pD] at hm)
      have HM := Lib.hid hm
      clear hm
      go_upto_region 9 with (fail)
      obtain ⟨c5_0, c5_1, c5_2, c5_3, c5_4, c5_5⟩ := rw3 (HM.out.at 5 rfl)
      have HK := Lib.hid (SGk.out _ _ w7 (HM.out.ins 8 rfl))
      ((try dsimp only); repeat (first | go_values | go_skip | go_guarded | go_step | go_upon))
      refine HK.out.mono ?_
      rintro e w8 ⟨rfl, hb⟩
      have hm := (HM.out.keep hb)
      clear HK HM hb c5_0 c5_1 c5_2 c5_3 c5_4 c5_5
      (try simp only [List.nil_append, List.cons_append, World.size_alloc, List.set_cons_zero, List.set_cons_succ, putsC, pB, pC, pD] at hm)
      have HM := Lib.hid hm
      clear hm
      go_upto_region 11 with (fail)
      have hz := HKZ.out.1
      have HZK := Lib.hid hz
      clear hz
      obtain ⟨c3_0, c3_1, c3_2, c3_3, c3_4, c3_5, c3_6, c3_7, c3_8, c3_9, c3_10, c3_11⟩ := rw6 (HM.out.at 3 rfl)
      obtain ⟨c4_0, c4_1, c4_2, c4_3, c4_4, c4_5, c4_6, c4_7, c4_8, c4_9, c4_10, c4_11⟩ := rw6 (HM.out.at 4 rfl)
      obtain ⟨c5_0, c5_1, c5_2, c5_3, c5_4, c5_5⟩ := rw3 (HM.out.at 5 rfl)
      have HK := Lib.hid (AL.out _ _ _ _ _ _ _ _ _ _ w8 k HZK.out ⟨(HM.out.ins 0 rfl), (HM.out.ins 1 rfl)⟩ (HM.out.ins 8 rfl) ⟨(HM.out.ins 2 rfl), (HM.out.ins 3 rfl)⟩)
      ((try dsimp only); repeat (first | go_values | go_skip | go_guarded | go_step | go_upon))
      refine HK.out.mono ?_
      rintro e w9 ⟨E9, F9, G9, I9, rfl, hf, hb⟩
      have hm := (HM.out.call2 hf hb)
      clear HK HM hf hb c3_0 c3_1 c3_2 c3_3 c3_4 c3_5 c3_6 c3_7 c3_8 c3_9 c3_10 c3_11 c4_0 c4_1 c4_2 c4_3 c4_4 c4_5 c4_6 c4_7 c4_8 c4_9 c4_10 c4_11 c5_0 c5_1 c5_2 c5_3 c5_4 c5_5
      (try simp only [List.nil_append, List.cons_append, World.size_alloc, List.set_cons_zero, List.set_cons_succ, putsC, pB, pC, pD] at hm)
      have HM := Lib.hid hm
      clear hm
      obtain ⟨c2_0, c2_1, c2_2, c2_3, c2_4, c2_5, c2_6, c2_7, c2_8, c2_9, c2_10, c2_11⟩ := rw6 (HM.out.at 2 rfl)
      have hm : Bx w.heap.size w (World.setCell (World.setCell (World.setCell (World.setCell (World.setCell (World.setCell w9 ⟨w.heap.size + 1 + 1, 0, none⟩ (.bool (decide ((a.1 + k * u.1).num < 0)))) ⟨w.heap.size + 1 + 1, 1, none⟩ (.slice E9 (qn (a.1 + k * u.1)).length (qn (a.1 + k * u.1)).length)) ⟨w.heap.size + 1 + 1, 2, none⟩ (.slice F9 (qd (a.1 + k * u.1)).length (qd (a.1 + k * u.1)).length)) ⟨w.heap.size + 1 + 1, 3, none⟩ (.bool (decide ((a.2 + k * u.2).num < 0)))) ⟨w.heap.size + 1 + 1, 4, none⟩ (.slice G9 (qn (a.2 + k * u.2)).length (qn (a.2 + k * u.2)).length)) ⟨w.heap.size + 1 + 1, 5, none⟩ (.slice I9 (qd (a.2 + k * u.2)).length (qd (a.2 + k * u.2)).length)) _ _ := (HM.out.puts 2 rfl (by decide) [(0, .bool (decide ((a.1 + k * u.1).num < 0))), (1, .slice E9 (qn (a.1 + k * u.1)).length (qn (a.1 + k * u.1)).length), (2, .slice F9 (qd (a.1 + k * u.1)).length (qd (a.1 + k * u.1)).length), (3, .bool (decide ((a.2 + k * u.2).num < 0))), (4, .slice G9 (qn (a.2 + k * u.2)).length (qn (a.2 + k * u.2)).length), (5, .slice I9 (qd (a.2 + k * u.2)).length (qd (a.2 + k * u.2)).length)])
      ((try dsimp only); repeat (first | go_values | go_skip | go_guarded | go_step | go_upon))
      refine bodyPost_ret (results_cell_row rfl _ _ (w.heap.size + 1 + 1) _ _ _ _ rfl (hm.at 2 rfl) rfl rfl rfl) rfl ?_
      exact ⟨E9, F9, G9, I9, by rw [HR.out, HRC.out]; rfl, by rw [HR.out, HRC.out]; exact ⟨hm.fresh 10 rfl, hm.fresh 11 rfl⟩, hm.m.b⟩
    · have hc : qcmp k 1 = 1 := qcmp_gt.2 hk.1
      have hrc : clK k = one := hk.2.trans hone'.out.symm
      rw [← hone'.out] at hc
      rw [hc] at CM
      have hz := (show Sz 17300 one by rw [hone'.out]; exact SZ.out.1)
      have HZO := Lib.hid hz
      have SGk := Lib.hid (fun A B wz h1 => SG.out A B wz one HZO.out h1)
      rw [HO.out] at SGk
      have HRC := Lib.hid hrc
      clear hk hc hrc SG hz
      obtain ⟨c5_0, c5_1, c5_2, c5_3, c5_4, c5_5⟩ := rw3 (HM.out.at 5 rfl)
      obtain ⟨c6_0, c6_1, c6_2, c6_3, c6_4, c6_5⟩ := rw3 (HM.out.at 6 rfl)
      have HK := Lib.hid (CM.out _ _ _ _ v6 HKZ.out.1 (HM.out.ins 8 rfl) (HM.out.ins 9 rfl))
      ((try dsimp only); repeat (first | go_values | go_skip | go_guarded | go_step | go_upon))
      refine HK.out.mono ?_
      rintro e w7 ⟨rfl, hb⟩
      have hm := (HM.out.keep hb)
      clear HK HM hb c5_0 c5_1 c5_2 c5_3 c5_4 c5_5 c6_0 c6_1 c6_2 c6_3 c6_4 c6_5
      (try simp only [List.nil_append, List.cons_append, World.size_alloc, List.set_cons_zero, List.set_cons_succ, putsC, pB, pC, pD] at hm)
      have HM := Lib.hid hm
      clear hm
      go_upto_region 8 with (fail)
      obtain ⟨c5_0, c5_1, c5_2, c5_3, c5_4, c5_5⟩ := rw3 (HM.out.at 5 rfl)
      obtain ⟨c6_0, c6_1, c6_2, c6_3, c6_4, c6_5⟩ := rw3 (HM.out.at 6 rfl)
      have hm : Bx w.heap.size w (World.setCell (World.setCell (World.setCell w7 ⟨g3_12, 0, none⟩ (.bool (decide (one.num < 0)))) ⟨g3_12, 1, none⟩ (.slice E5 (qn one).length (qn one).length)) ⟨g3_12, 2, none⟩ (.slice F5 (qd one).length (qd one).length)) _ _ := (HM.out.puts 5 rfl (by decide) [(0, .bool (decide (one.num < 0))), (1, .slice E5 (qn one).length (qn one).length), (2, .slice F5 (qd one).length (qd one).length)])
      go_upto_region 9 with (fail)
      generalize (World.setCell (World.setCell (World.setCell w7 _ _) _ _) _ _) = v8 at *
      clear HM c5_0 c5_1 c5_2 c5_3 c5_4 c5_5 c6_0 c6_1 c6_2 c6_3 c6_4 c6_5
      (try simp only [List.nil_append, List.cons_append, World.size_alloc, List.set_cons_zero, List.set_cons_succ, putsC, pB, pC, pD] at hm)
      have HM := Lib.hid hm
      clear hm
      obtain ⟨c5_0, c5_1, c5_2, c5_3, c5_4, c5_5⟩ := rw3 (HM.out.at 5 rfl)
      have HK := Lib.hid (SGk.out _ _ v8 (HM.out.ins 9 rfl))
      ((try dsimp only); repeat (first | go_values | go_skip | go_guarded | go_step | go_upon))
      refine HK.out.mono ?_
      rintro e w9 ⟨rfl, hb⟩
      have hm := (HM.out.keep hb)
      clear HK HM hb c5_0 c5_1 c5_2 c5_3 c5_4 c5_5
      (try simp only [List.nil_append, List.cons_append, World.size_alloc, List.set_cons_zero, List.set_cons_succ, putsC, pB, pC, pD] at hm)
      have HM := Lib.hid hm
      clear hm
      go_upto_region 11 with (fail)
      have hz := HZO.out
      have HZK := Lib.hid hz
      clear hz
      obtain ⟨c3_0, c3_1, c3_2, c3_3, c3_4, c3_5, c3_6, c3_7, c3_8, c3_9, c3_10, c3_11⟩ := rw6 (HM.out.at 3 rfl)
      obtain ⟨c4_0, c4_1, c4_2, c4_3, c4_4, c4_5, c4_6, c4_7, c4_8, c4_9, c4_10, c4_11⟩ := rw6 (HM.out.at 4 rfl)
      obtain ⟨c5_0, c5_1, c5_2, c5_3, c5_4, c5_5⟩ := rw3 (HM.out.at 5 rfl)
      have HK := Lib.hid (AL.out _ _ _ _ _ _ _ _ _ _ w9 one HZK.out ⟨(HM.out.ins 0 rfl), (HM.out.ins 1 rfl)⟩ (HM.out.ins 9 rfl) ⟨(HM.out.ins 2 rfl), (HM.out.ins 3 rfl)⟩)
      ((try dsimp only); repeat (first | go_values | go_skip | go_guarded | go_step | go_upon))
      refine HK.out.mono ?_
      rintro e w10 ⟨E10, F10, G10, I10, rfl, hf, hb⟩
      have hm := (HM.out.call2 hf hb)
      clear HK HM hf hb c3_0 c3_1 c3_2 c3_3 c3_4 c3_5 c3_6 c3_7 c3_8 c3_9 c3_10 c3_11 c4_0 c4_1 c4_2 c4_3 c4_4 c4_5 c4_6 c4_7 c4_8 c4_9 c4_10 c4_11 c5_0 c5_1 c5_2 c5_3 c5_4 c5_5
      (try simp only [List.nil_append, List.cons_append, World.size_alloc, List.set_cons_zero, List.set_cons_succ, putsC, pB, pC, pD] at hm)
      have HM := Lib.hid hm
      clear hm
      obtain ⟨c2_0, c2_1, c2_2, c2_3, c2_4, c2_5, c2_6, c2_7, c2_8, c2_9, c2_10, c2_11⟩ := rw6 (HM.out.at 2 rfl)
      have hm : Bx w.heap.size w (World.setCell (World.setCell (World.setCell (World.setCell (World.setCell (World.setCell w10 ⟨w.heap.size + 1 + 1, 0, none⟩ (.bool (decide ((a.1 + one * u.1).num < 0)))) ⟨w.heap.size + 1 + 1, 1, none⟩ (.slice E10 (qn (a.1 + one * u.1)).length (qn (a.1 + one * u.1)).length)) ⟨w.heap.size + 1 + 1, 2, none⟩ (.slice F10 (qd (a.1 + one * u.1)).length (qd (a.1 + one * u.1)).length)) ⟨w.heap.size + 1 + 1, 3, none⟩ (.bool (decide ((a.2 + one * u.2).num < 0)))) ⟨w.heap.size + 1 + 1, 4, none⟩ (.slice G10 (qn (a.2 + one * u.2)).length (qn (a.2 + one * u.2)).length)) ⟨w.heap.size + 1 + 1, 5, none⟩ (.slice I10 (qd (a.2 + one * u.2)).length (qd (a.2 + one * u.2)).length)) _ _ := (HM.out.puts 2 rfl (by decide) [(0, .bool (decide ((a.1 + one * u.1).num < 0))), (1, .slice E10 (qn (a.1 + one * u.1)).length (qn (a.1 + one * u.1)).length), (2, .slice F10 (qd (a.1 + one * u.1)).length (qd (a.1 + one * u.1)).length), (3, .bool (decide ((a.2 + one * u.2).num < 0))), (4, .slice G10 (qn (a.2 + one * u.2)).length (qn (a.2 + one * u.2)).length), (5, .slice I10 (qd (a.2 + one * u.2)).length (qd (a.2 + one * u.2)).length)])
      ((try dsimp only); repeat (first | go_values | go_skip | go_guarded | go_step | go_upon))
      refine bodyPost_ret (results_cell_row rfl _ _ (w.heap.size + 1 + 1) _ _ _ _ rfl (hm.at 2 rfl) rfl rfl rfl) rfl ?_
      exact ⟨E10, F10, G10, I10, by rw [HR.out, HRC.out]; rfl, by rw [HR.out, HRC.out]; exact ⟨hm.fresh 10 rfl, hm.fresh 11 rfl⟩, hm.m.b⟩
end Go.Proofs.YtggfppgjabembaaGreatDoor
