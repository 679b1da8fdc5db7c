/- Package seg: points that are not finite are refused (printed by gen_ref1.py). -/
import Derived.Test.YtggfppgjabembaaGreatDoorKI
import Derived.Test.YtggfppgjabembaaGreatDoorKG
namespace Go.Proofs.YtggfppgjabembaaGreatDoor
open Go.RowKit
set_option linter.unusedVariables false
def qo (A B : Option Addr) (q : Rat) : Obj := .cells #[.bool (decide (q.num < 0)), .slice A (qn q).length (qn q).length, .slice B (qd q).length (qd q).length] 45 (0, 0)
structure Mem (n : Nat) (w0 w : World) (L : List (Nat × Obj)) (R : List (Option Addr × Option Addr × Rat)) : Prop where
  b : Below n w0 w
  z : n ≤ w.heap.size
  l : ∀ (i g : Nat) (o : Obj), L[i]? = some (g, o) → w.heap[g]? = some o
  r : ∀ (i : Nat) (A B : Option Addr) (q : Rat), R[i]? = some (A, B, q) → RatFresh n w A B q
theorem Mem.start (w : World) : Mem w.heap.size w w [] [] := ⟨Below.refl _ _, Nat.le_refl _, fun i g o h => by simp at h, fun i A B q h => by simp at h⟩
section
variable {n : Nat} {w0 w w' : World} {L : List (Nat × Obj)} {R : List (Option Addr × Option Addr × Rat)}
theorem Mem.keep (h : Mem n w0 w L R) (k : Below w.heap.size w w') : Mem n w0 w' L R :=
  ⟨h.b.trans (k.mono h.z), Nat.le_trans h.z k.size, fun i g o e => (k.block _ (heap_lt (h.l i g o e))).trans (h.l i g o e), fun i A B q e => (h.r i A B q e).keep (Keep.of k (Nat.le_refl _)) (Nat.le_refl _)⟩
theorem Mem.drewN (h : Mem n w0 w L R) (k : Nat) : Mem n w0 (w.drewN k) L R := h.keep (belowN (Below.refl _ _) k)
theorem Mem.drew (h : Mem n w0 w L R) : Mem n w0 w.drew L R := h.keep (Below.refl _ _).drew
theorem getElem?_snoc {α : Type} {l : List α} {a b : α} {i : Nat} (h : (l ++ [a])[i]? = some b) : l[i]? = some b ∨ (i = l.length ∧ b = a) := by
  by_cases hi : i < l.length
  · rw [List.getElem?_append_left hi] at h; exact Or.inl h
  · rw [List.getElem?_append_right (by omega)] at h
    have : i - l.length = 0 := by
      rcases Nat.eq_zero_or_pos (i - l.length) with e | e
      · exact e
      · rw [List.getElem?_eq_none (by simp; omega)] at h; cases h
    rw [this] at h
    simp at h
    exact Or.inr ⟨by omega, h.symm⟩
theorem Mem.alloc (h : Mem n w0 w L R) (o : Obj) : Mem n w0 (w.alloc o) (L ++ [(w.heap.size, o)]) R := by
  have k := h.keep ((Below.refl _ _).alloc (Nat.le_refl _) o)
  refine ⟨k.b, k.z, fun i g o' e => ?_, k.r⟩
  rcases getElem?_snoc e with e | ⟨_, e⟩
  · exact k.l i g o' e
  · cases e; exact alloc_new w o
theorem Mem.rat (h : Mem n w0 w L R) {lo : Nat} {A B : Option Addr} {q : Rat} (hl : n ≤ lo) (f : RatFresh lo w A B q) : Mem n w0 w L (R ++ [(A, B, q)]) := by
  refine ⟨h.b, h.z, h.l, fun i A' B' q' e => ?_⟩
  rcases getElem?_snoc e with e | ⟨_, e⟩
  · exact h.r i A' B' q' e
  · cases e; exact f.wide hl
theorem Mem.call (h : Mem n w0 w L R) {A B : Option Addr} {q : Rat} (f : RatFresh w.heap.size w' A B q) (k : Below w.heap.size w w') : Mem n w0 w' L (R ++ [(A, B, q)]) := (h.keep k).rat h.z f
theorem Mem.ins (h : Mem n w0 w L R) (i : Nat) {A B : Option Addr} {q : Rat} (e : R[i]? = some (A, B, q)) : RatIn n w.heap.size w A B q := (h.r i A B q e).ins
theorem Mem.arg (h : Mem n w0 w L R) {lo up : Nat} {A B : Option Addr} {q : Rat} (a : RatIn lo up w0 A B q) (hu : up ≤ n) : RatIn lo w.heap.size w A B q := (a.keep (Keep.of h.b hu)).wide (Nat.le_refl _) (Nat.le_trans hu h.z)
theorem Mem.qrow (h : Mem n w0 w L R) (i : Nat) {g : Nat} {A B : Option Addr} {q : Rat} (e : L[i]? = some (g, qo A B q)) :
    w.cell? ⟨g, 0, none⟩ = some (.bool (decide (q.num < 0))) ∧ w.cell? ⟨g, 1, none⟩ = some (.slice A (qn q).length (qn q).length) ∧ w.cell? ⟨g, 2, none⟩ = some (.slice B (qd q).length (qd q).length) ∧ w.frozen? ⟨g, 0, none⟩ = false ∧ w.frozen? ⟨g, 1, none⟩ = false ∧ w.frozen? ⟨g, 2, none⟩ = false := row3 (h.l i g _ e)
def po (p : Pt) : Obj := .cells #[.int .u64 p.1, .int .u64 p.2] 24 (0, 0)
theorem Mem.prow (h : Mem n w0 w L R) (i : Nat) {g : Nat} {p : Pt} (e : L[i]? = some (g, po p)) :
    w.cell? ⟨g, 0, none⟩ = some (.int .u64 p.1) ∧ w.cell? ⟨g, 1, none⟩ = some (.int .u64 p.2) ∧ w.frozen? ⟨g, 0, none⟩ = false ∧ w.frozen? ⟨g, 1, none⟩ = false := row2f (h.l i g _ e)
theorem Mem.lt (h : Mem n w0 w L R) (i : Nat) {g : Nat} {o : Obj} (e : L[i]? = some (g, o)) : g < w.heap.size := heap_lt (h.l i g o e)
theorem RatFresh.off3 {A B : Option Addr} {q : Rat} {g : Nat} {C : Array Value} {t : TypeId} {f : Nat × Nat} (h : RatFresh n w A B q) (row : w.heap[g]? = some (.cells C t f)) (ht : t ≠ 22) (x y z : Value) : RatFresh n (((w.setCell ⟨g, 0, none⟩ x).setCell ⟨g, 1, none⟩ y).setCell ⟨g, 2, none⟩ z) A B q :=
  h.off row ht (fun j hj => by rw [Below.heap_setCell _ _ _ _ hj, Below.heap_setCell _ _ _ _ hj, Below.heap_setCell _ _ _ _ hj])
theorem Mem.setOther (h : Mem n w0 w L R) (i : Nat) {g : Nat} {C : Array Value} {t : TypeId} {f : Nat × Nat} {o : Obj} {w2 : World} (e : L[i]? = some (g, .cells C t f)) (ht : t ≠ 22) (hn : n ≤ g)
    (hb : Below n w0 w2) (hz : w2.heap.size = w.heap.size) (hg : w2.heap[g]? = some o) (ho : ∀ j, j ≠ g → w2.heap[j]? = w.heap[j]?) (hd : ∀ (j : Nat) (o' : Obj), L[j]? = some (g, o') → j = i) : Mem n w0 w2 (L.set i (g, o)) R := by
  refine ⟨hb, by rw [hz]; exact h.z, fun j g' o' e' => ?_, fun j A B q e' => ?_⟩
  · by_cases hj : j = i
    · subst hj
      have hlt : j < L.length := (List.getElem?_eq_some_iff.1 e).1
      rw [List.getElem?_set_self hlt] at e'
      cases e'
      exact hg
    · rw [List.getElem?_set_ne (fun k => hj k.symm)] at e'
      by_cases hgg : g' = g
      · subst hgg; exact absurd (hd j o' e') hj
      · rw [ho g' hgg]; exact h.l j g' o' e'
  · exact (h.r j A B q e').off (h.l i g _ e) ht ho
theorem heap_three_other {g : Nat} {x y z : Value} (j : Nat) (h : j ≠ g) : (((w.setCell ⟨g, 0, none⟩ x).setCell ⟨g, 1, none⟩ y).setCell ⟨g, 2, none⟩ z).heap[j]? = w.heap[j]? := by
  rw [Below.heap_setCell _ _ _ _ h, Below.heap_setCell _ _ _ _ h, Below.heap_setCell _ _ _ _ h]
theorem setCell_size (w : World) (a : Addr) (v : Value) : (w.setCell a v).heap.size = w.heap.size := by unfold World.setCell; simp
theorem Mem.three (h : Mem n w0 w L R) (i : Nat) {g : Nat} {a b c : Value} {t : TypeId} (e : L[i]? = some (g, .cells #[a, b, c] t (0, 0))) (ht : t ≠ 22) (hn : n ≤ g) (hd : ∀ (j : Nat) (o' : Obj), L[j]? = some (g, o') → j = i) (x y z : Value) :
    Mem n w0 (((w.setCell ⟨g, 0, none⟩ x).setCell ⟨g, 1, none⟩ y).setCell ⟨g, 2, none⟩ z) (L.set i (g, .cells #[x, y, z] t (0, 0))) R :=
  h.setOther i e ht hn (((h.b.setCell hn _).setCell hn _).setCell hn _) (by rw [setCell_size, setCell_size, setCell_size]) (heap_set_three (h.l i g _ e) x y z) (fun j hj => heap_three_other j hj) hd
end
end Go.Proofs.YtggfppgjabembaaGreatDoor

namespace Go.Proofs.YtggfppgjabembaaGreatDoor
open Go.RowKit
set_option linter.unusedVariables false
theorem rw1 {w : World} {g : Nat} {x0 : Value} {t : TypeId} (h : w.heap[g]? = some (.cells #[x0] t (0, 0))) : w.cell? ⟨g, 0, none⟩ = some x0 ∧ w.frozen? ⟨g, 0, none⟩ = false :=
  ⟨(cell_of_cells h 0).trans rfl, free_of_cells h 0⟩
theorem rw2 {w : World} {g : Nat} {x0 x1 : Value} {t : TypeId} (h : w.heap[g]? = some (.cells #[x0, x1] t (0, 0))) : w.cell? ⟨g, 0, none⟩ = some x0 ∧ w.cell? ⟨g, 1, none⟩ = some x1 ∧ w.frozen? ⟨g, 0, none⟩ = false ∧ w.frozen? ⟨g, 1, none⟩ = false :=
  ⟨(cell_of_cells h 0).trans rfl, (cell_of_cells h 1).trans rfl, free_of_cells h 0, free_of_cells h 1⟩
theorem rw3 {w : World} {g : Nat} {x0 x1 x2 : Value} {t : TypeId} (h : w.heap[g]? = some (.cells #[x0, x1, x2] t (0, 0))) : w.cell? ⟨g, 0, none⟩ = some x0 ∧ w.cell? ⟨g, 1, none⟩ = some x1 ∧ w.cell? ⟨g, 2, none⟩ = some x2 ∧ w.frozen? ⟨g, 0, none⟩ = false ∧ w.frozen? ⟨g, 1, none⟩ = false ∧ w.frozen? ⟨g, 2, none⟩ = false :=
  ⟨(cell_of_cells h 0).trans rfl, (cell_of_cells h 1).trans rfl, (cell_of_cells h 2).trans rfl, free_of_cells h 0, free_of_cells h 1, free_of_cells h 2⟩
theorem rw4 {w : World} {g : Nat} {x0 x1 x2 x3 : Value} {t : TypeId} (h : w.heap[g]? = some (.cells #[x0, x1, x2, x3] t (0, 0))) : w.cell? ⟨g, 0, none⟩ = some x0 ∧ w.cell? ⟨g, 1, none⟩ = some x1 ∧ w.cell? ⟨g, 2, none⟩ = some x2 ∧ w.cell? ⟨g, 3, none⟩ = some x3 ∧ w.frozen? ⟨g, 0, none⟩ = false ∧ w.frozen? ⟨g, 1, none⟩ = false ∧ w.frozen? ⟨g, 2, none⟩ = false ∧ w.frozen? ⟨g, 3, none⟩ = false :=
  ⟨(cell_of_cells h 0).trans rfl, (cell_of_cells h 1).trans rfl, (cell_of_cells h 2).trans rfl, (cell_of_cells h 3).trans rfl, free_of_cells h 0, free_of_cells h 1, free_of_cells h 2, free_of_cells h 3⟩
theorem rw5 {w : World} {g : Nat} {x0 x1 x2 x3 x4 : Value} {t : TypeId} (h : w.heap[g]? = some (.cells #[x0, x1, x2, x3, x4] t (0, 0))) : w.cell? ⟨g, 0, none⟩ = some x0 ∧ w.cell? ⟨g, 1, none⟩ = some x1 ∧ w.cell? ⟨g, 2, none⟩ = some x2 ∧ w.cell? ⟨g, 3, none⟩ = some x3 ∧ w.cell? ⟨g, 4, none⟩ = some x4 ∧ w.frozen? ⟨g, 0, none⟩ = false ∧ w.frozen? ⟨g, 1, none⟩ = false ∧ w.frozen? ⟨g, 2, none⟩ = false ∧ w.frozen? ⟨g, 3, none⟩ = false ∧ w.frozen? ⟨g, 4, none⟩ = false :=
  ⟨(cell_of_cells h 0).trans rfl, (cell_of_cells h 1).trans rfl, (cell_of_cells h 2).trans rfl, (cell_of_cells h 3).trans rfl, (cell_of_cells h 4).trans rfl, free_of_cells h 0, free_of_cells h 1, free_of_cells h 2, free_of_cells h 3, free_of_cells h 4⟩
theorem rw6 {w : World} {g : Nat} {x0 x1 x2 x3 x4 x5 : Value} {t : TypeId} (h : w.heap[g]? = some (.cells #[x0, x1, x2, x3, x4, x5] t (0, 0))) : w.cell? ⟨g, 0, none⟩ = some x0 ∧ w.cell? ⟨g, 1, none⟩ = some x1 ∧ w.cell? ⟨g, 2, none⟩ = some x2 ∧ w.cell? ⟨g, 3, none⟩ = some x3 ∧ w.cell? ⟨g, 4, none⟩ = some x4 ∧ w.cell? ⟨g, 5, none⟩ = some x5 ∧ w.frozen? ⟨g, 0, none⟩ = false ∧ w.frozen? ⟨g, 1, none⟩ = false ∧ w.frozen? ⟨g, 2, none⟩ = false ∧ w.frozen? ⟨g, 3, none⟩ = false ∧ w.frozen? ⟨g, 4, none⟩ = false ∧ w.frozen? ⟨g, 5, none⟩ = false :=
  ⟨(cell_of_cells h 0).trans rfl, (cell_of_cells h 1).trans rfl, (cell_of_cells h 2).trans rfl, (cell_of_cells h 3).trans rfl, (cell_of_cells h 4).trans rfl, (cell_of_cells h 5).trans rfl, free_of_cells h 0, free_of_cells h 1, free_of_cells h 2, free_of_cells h 3, free_of_cells h 4, free_of_cells h 5⟩
theorem rw7 {w : World} {g : Nat} {x0 x1 x2 x3 x4 x5 x6 : Value} {t : TypeId} (h : w.heap[g]? = some (.cells #[x0, x1, x2, x3, x4, x5, x6] t (0, 0))) : w.cell? ⟨g, 0, none⟩ = some x0 ∧ w.cell? ⟨g, 1, none⟩ = some x1 ∧ w.cell? ⟨g, 2, none⟩ = some x2 ∧ w.cell? ⟨g, 3, none⟩ = some x3 ∧ w.cell? ⟨g, 4, none⟩ = some x4 ∧ w.cell? ⟨g, 5, none⟩ = some x5 ∧ w.cell? ⟨g, 6, none⟩ = some x6 ∧ w.frozen? ⟨g, 0, none⟩ = false ∧ w.frozen? ⟨g, 1, none⟩ = false ∧ w.frozen? ⟨g, 2, none⟩ = false ∧ w.frozen? ⟨g, 3, none⟩ = false ∧ w.frozen? ⟨g, 4, none⟩ = false ∧ w.frozen? ⟨g, 5, none⟩ = false ∧ w.frozen? ⟨g, 6, none⟩ = false :=
  ⟨(cell_of_cells h 0).trans rfl, (cell_of_cells h 1).trans rfl, (cell_of_cells h 2).trans rfl, (cell_of_cells h 3).trans rfl, (cell_of_cells h 4).trans rfl, (cell_of_cells h 5).trans rfl, (cell_of_cells h 6).trans rfl, free_of_cells h 0, free_of_cells h 1, free_of_cells h 2, free_of_cells h 3, free_of_cells h 4, free_of_cells h 5, free_of_cells h 6⟩
theorem rw8 {w : World} {g : Nat} {x0 x1 x2 x3 x4 x5 x6 x7 : Value} {t : TypeId} (h : w.heap[g]? = some (.cells #[x0, x1, x2, x3, x4, x5, x6, x7] t (0, 0))) : w.cell? ⟨g, 0, none⟩ = some x0 ∧ w.cell? ⟨g, 1, none⟩ = some x1 ∧ w.cell? ⟨g, 2, none⟩ = some x2 ∧ w.cell? ⟨g, 3, none⟩ = some x3 ∧ w.cell? ⟨g, 4, none⟩ = some x4 ∧ w.cell? ⟨g, 5, none⟩ = some x5 ∧ w.cell? ⟨g, 6, none⟩ = some x6 ∧ w.cell? ⟨g, 7, none⟩ = some x7 ∧ w.frozen? ⟨g, 0, none⟩ = false ∧ w.frozen? ⟨g, 1, none⟩ = false ∧ w.frozen? ⟨g, 2, none⟩ = false ∧ w.frozen? ⟨g, 3, none⟩ = false ∧ w.frozen? ⟨g, 4, none⟩ = false ∧ w.frozen? ⟨g, 5, none⟩ = false ∧ w.frozen? ⟨g, 6, none⟩ = false ∧ w.frozen? ⟨g, 7, none⟩ = false :=
  ⟨(cell_of_cells h 0).trans rfl, (cell_of_cells h 1).trans rfl, (cell_of_cells h 2).trans rfl, (cell_of_cells h 3).trans rfl, (cell_of_cells h 4).trans rfl, (cell_of_cells h 5).trans rfl, (cell_of_cells h 6).trans rfl, (cell_of_cells h 7).trans rfl, free_of_cells h 0, free_of_cells h 1, free_of_cells h 2, free_of_cells h 3, free_of_cells h 4, free_of_cells h 5, free_of_cells h 6, free_of_cells h 7⟩
theorem rw9 {w : World} {g : Nat} {x0 x1 x2 x3 x4 x5 x6 x7 x8 : Value} {t : TypeId} (h : w.heap[g]? = some (.cells #[x0, x1, x2, x3, x4, x5, x6, x7, x8] t (0, 0))) : w.cell? ⟨g, 0, none⟩ = some x0 ∧ w.cell? ⟨g, 1, none⟩ = some x1 ∧ w.cell? ⟨g, 2, none⟩ = some x2 ∧ w.cell? ⟨g, 3, none⟩ = some x3 ∧ w.cell? ⟨g, 4, none⟩ = some x4 ∧ w.cell? ⟨g, 5, none⟩ = some x5 ∧ w.cell? ⟨g, 6, none⟩ = some x6 ∧ w.cell? ⟨g, 7, none⟩ = some x7 ∧ w.cell? ⟨g, 8, none⟩ = some x8 ∧ w.frozen? ⟨g, 0, none⟩ = false ∧ w.frozen? ⟨g, 1, none⟩ = false ∧ w.frozen? ⟨g, 2, none⟩ = false ∧ w.frozen? ⟨g, 3, none⟩ = false ∧ w.frozen? ⟨g, 4, none⟩ = false ∧ w.frozen? ⟨g, 5, none⟩ = false ∧ w.frozen? ⟨g, 6, none⟩ = false ∧ w.frozen? ⟨g, 7, none⟩ = false ∧ w.frozen? ⟨g, 8, none⟩ = false :=
  ⟨(cell_of_cells h 0).trans rfl, (cell_of_cells h 1).trans rfl, (cell_of_cells h 2).trans rfl, (cell_of_cells h 3).trans rfl, (cell_of_cells h 4).trans rfl, (cell_of_cells h 5).trans rfl, (cell_of_cells h 6).trans rfl, (cell_of_cells h 7).trans rfl, (cell_of_cells h 8).trans rfl, free_of_cells h 0, free_of_cells h 1, free_of_cells h 2, free_of_cells h 3, free_of_cells h 4, free_of_cells h 5, free_of_cells h 6, free_of_cells h 7, free_of_cells h 8⟩
theorem rw10 {w : World} {g : Nat} {x0 x1 x2 x3 x4 x5 x6 x7 x8 x9 : Value} {t : TypeId} (h : w.heap[g]? = some (.cells #[x0, x1, x2, x3, x4, x5, x6, x7, x8, x9] t (0, 0))) : w.cell? ⟨g, 0, none⟩ = some x0 ∧ w.cell? ⟨g, 1, none⟩ = some x1 ∧ w.cell? ⟨g, 2, none⟩ = some x2 ∧ w.cell? ⟨g, 3, none⟩ = some x3 ∧ w.cell? ⟨g, 4, none⟩ = some x4 ∧ w.cell? ⟨g, 5, none⟩ = some x5 ∧ w.cell? ⟨g, 6, none⟩ = some x6 ∧ w.cell? ⟨g, 7, none⟩ = some x7 ∧ w.cell? ⟨g, 8, none⟩ = some x8 ∧ w.cell? ⟨g, 9, none⟩ = some x9 ∧ w.frozen? ⟨g, 0, none⟩ = false ∧ w.frozen? ⟨g, 1, none⟩ = false ∧ w.frozen? ⟨g, 2, none⟩ = false ∧ w.frozen? ⟨g, 3, none⟩ = false ∧ w.frozen? ⟨g, 4, none⟩ = false ∧ w.frozen? ⟨g, 5, none⟩ = false ∧ w.frozen? ⟨g, 6, none⟩ = false ∧ w.frozen? ⟨g, 7, none⟩ = false ∧ w.frozen? ⟨g, 8, none⟩ = false ∧ w.frozen? ⟨g, 9, none⟩ = false :=
  ⟨(cell_of_cells h 0).trans rfl, (cell_of_cells h 1).trans rfl, (cell_of_cells h 2).trans rfl, (cell_of_cells h 3).trans rfl, (cell_of_cells h 4).trans rfl, (cell_of_cells h 5).trans rfl, (cell_of_cells h 6).trans rfl, (cell_of_cells h 7).trans rfl, (cell_of_cells h 8).trans rfl, (cell_of_cells h 9).trans rfl, free_of_cells h 0, free_of_cells h 1, free_of_cells h 2, free_of_cells h 3, free_of_cells h 4, free_of_cells h 5, free_of_cells h 6, free_of_cells h 7, free_of_cells h 8, free_of_cells h 9⟩
theorem rw12 {w : World} {g : Nat} {x0 x1 x2 x3 x4 x5 x6 x7 x8 x9 x10 x11 : Value} {t : TypeId} (h : w.heap[g]? = some (.cells #[x0, x1, x2, x3, x4, x5, x6, x7, x8, x9, x10, x11] t (0, 0))) : w.cell? ⟨g, 0, none⟩ = some x0 ∧ w.cell? ⟨g, 1, none⟩ = some x1 ∧ w.cell? ⟨g, 2, none⟩ = some x2 ∧ w.cell? ⟨g, 3, none⟩ = some x3 ∧ w.cell? ⟨g, 4, none⟩ = some x4 ∧ w.cell? ⟨g, 5, none⟩ = some x5 ∧ w.cell? ⟨g, 6, none⟩ = some x6 ∧ w.cell? ⟨g, 7, none⟩ = some x7 ∧ w.cell? ⟨g, 8, none⟩ = some x8 ∧ w.cell? ⟨g, 9, none⟩ = some x9 ∧ w.cell? ⟨g, 10, none⟩ = some x10 ∧ w.cell? ⟨g, 11, none⟩ = some x11 ∧ w.frozen? ⟨g, 0, none⟩ = false ∧ w.frozen? ⟨g, 1, none⟩ = false ∧ w.frozen? ⟨g, 2, none⟩ = false ∧ w.frozen? ⟨g, 3, none⟩ = false ∧ w.frozen? ⟨g, 4, none⟩ = false ∧ w.frozen? ⟨g, 5, none⟩ = false ∧ w.frozen? ⟨g, 6, none⟩ = false ∧ w.frozen? ⟨g, 7, none⟩ = false ∧ w.frozen? ⟨g, 8, none⟩ = false ∧ w.frozen? ⟨g, 9, none⟩ = false ∧ w.frozen? ⟨g, 10, none⟩ = false ∧ w.frozen? ⟨g, 11, none⟩ = false :=
  ⟨(cell_of_cells h 0).trans rfl, (cell_of_cells h 1).trans rfl, (cell_of_cells h 2).trans rfl, (cell_of_cells h 3).trans rfl, (cell_of_cells h 4).trans rfl, (cell_of_cells h 5).trans rfl, (cell_of_cells h 6).trans rfl, (cell_of_cells h 7).trans rfl, (cell_of_cells h 8).trans rfl, (cell_of_cells h 9).trans rfl, (cell_of_cells h 10).trans rfl, (cell_of_cells h 11).trans rfl, free_of_cells h 0, free_of_cells h 1, free_of_cells h 2, free_of_cells h 3, free_of_cells h 4, free_of_cells h 5, free_of_cells h 6, free_of_cells h 7, free_of_cells h 8, free_of_cells h 9, free_of_cells h 10, free_of_cells h 11⟩
theorem results_rows2 {P : Program} {fn : Func} {p p' u : Tmp} {ty ty' : TypeId} (h : fn.results = #[.cell p ty, .cell p' ty', .tmp u]) (tmps : Array Value) (w : World) (g g' : Nat) (t : TypeId) (cs : Array Value) (fr : Nat × Nat) (d : TypeDesc) (t' : TypeId) (cs' : Array Value) (fr' : Nat × Nat) (d' : TypeDesc)
    (hp : tmps.getD p undef = .pointer (some ⟨g, 0, none⟩)) (hp' : tmps.getD p' undef = .pointer (some ⟨g', 0, none⟩)) (hg : w.heap[g]? = some (.cells cs t fr)) (hg' : w.heap[g']? = some (.cells cs' t' fr'))
    (hu : P.underlying ty = some d) (hd : (match d with | .struct _ | .array _ _ => true | _ => false) = true) (hi : (P.info? ty).map (·.size) = some cs.size)
    (hu' : P.underlying ty' = some d') (hd' : (match d' with | .struct _ | .array _ _ => true | _ => false) = true) (hi' : (P.info? ty').map (·.size) = some cs'.size) :
    (results fn tmps).run P w = .ok (.tuple #[.agg cs, .agg cs', tmps.getD u undef]) w := by
  have h1 : tmps[p]?.getD undef = .pointer (some ⟨g, 0, none⟩) := by simpa using hp
  have h2 : tmps[p']?.getD undef = .pointer (some ⟨g', 0, none⟩) := by simpa using hp'
  simp [results, h, h1, h2, asAddr, run_loadVar_row w g t ty cs fr d hg hu hd hi, run_loadVar_row w g' t' ty' cs' fr' d' hg' hu' hd' hi']
section
open Go.Proofs.YtggfppgjabembaaGreatDoorW.PrintLast
theorem nx {P : Program} {ops : Array Oper} {Q : Exit → Act → World → Prop} {md : Region.Mode} {S : World → Prop} {ds : List Nat} {a' : Act} {fuel : Nat} {l : Array Bool} {a : Act} {w : World} (h : wpAnyLast P md ops Q S ds fuel l a' w)
    (ha : a = a' := by simp only [putAll, pA, pB, pC, pD, qv, pv, pt, st]; rfl) : wpAnyLast P md ops Q S ds fuel l a w := norm_ ha h
end
def zR : Obj := .cells #[.bool false, .slice none 0 0, .slice none 0 0] 45 (0, 0)
def zV : Obj := .cells #[.bool false, .slice none 0 0, .slice none 0 0, .bool false, .slice none 0 0, .slice none 0 0] 89 (0, 0)
def zS : Obj := .cells #[.int .u64 0, .int .u64 0, .int .u64 0, .int .u64 0] 80 (0, 0)
def zP : Obj := .cells #[.int .u64 0, .int .u64 0] 77 (0, 0)
structure Bx (n : Nat) (w0 w : World) (L : List (Nat × Obj)) (R : List (Option Addr × Option Addr × Rat)) : Prop where
  m : Mem n w0 w L R
  g : ∀ (i g : Nat) (o : Obj), L[i]? = some (g, o) → n ≤ g
  d : ∀ (i j g : Nat) (o o' : Obj), L[i]? = some (g, o) → L[j]? = some (g, o') → i = j
def puts (g : Nat) : List (Nat × Value) → World → World
  | [], w => w
  | (k, v) :: r, w => puts g r (w.setCell ⟨g, k, none⟩ v)
def putsC : List (Nat × Value) → Array Value → Array Value
  | [], C => C
  | (k, v) :: r, C => putsC r (C.setIfInBounds k v)
theorem puts_size (g : Nat) : ∀ (vs : List (Nat × Value)) (w : World), (puts g vs w).heap.size = w.heap.size
  | [], w => rfl
  | (k, v) :: r, w => (puts_size g r _).trans (setCell_size _ _ _)
theorem puts_other {g j : Nat} (h : j ≠ g) : ∀ (vs : List (Nat × Value)) (w : World), (puts g vs w).heap[j]? = w.heap[j]?
  | [], w => rfl
  | (k, v) :: r, w => (puts_other h r _).trans (Below.heap_setCell _ _ _ _ h)
theorem puts_at {g : Nat} {t : TypeId} {f : Nat × Nat} : ∀ (vs : List (Nat × Value)) (w : World) (C : Array Value), w.heap[g]? = some (.cells C t f) → (puts g vs w).heap[g]? = some (.cells (putsC vs C) t f)
  | [], w, C, h => h
  | (k, v) :: r, w, C, h => puts_at r _ _ (heap_set_cell h k v)
theorem puts_below {n g : Nat} {w0 : World} (hn : n ≤ g) : ∀ (vs : List (Nat × Value)) (w : World), Below n w0 w → Below n w0 (puts g vs w)
  | [], w, h => h
  | (k, v) :: r, w, h => puts_below hn r _ (h.setCell hn _)
section
variable {n : Nat} {w0 w w' : World} {L L' : List (Nat × Obj)} {R R' : List (Option Addr × Option Addr × Rat)}
theorem Bx.start (w : World) : Bx w.heap.size w w [] [] := ⟨Mem.start w, fun i g o h => by simp at h, fun i j g o o' h => by simp at h⟩
theorem Bx.keep (h : Bx n w0 w L R) (k : Below w.heap.size w w') : Bx n w0 w' L R := ⟨h.m.keep k, h.g, h.d⟩
theorem Bx.drew (h : Bx n w0 w L R) : Bx n w0 w.drew L R := ⟨h.m.drew, h.g, h.d⟩
theorem Bx.alloc (h : Bx n w0 w L R) (o : Obj) : Bx n w0 (w.alloc o) (L ++ [(w.heap.size, o)]) R := by
  refine ⟨h.m.alloc o, fun i g o' e => ?_, fun i j g o1 o2 e1 e2 => ?_⟩
  · rcases getElem?_snoc e with e | ⟨_, e⟩
    · exact h.g i g o' e
    · cases e; exact h.m.z
  · rcases getElem?_snoc e1 with e1 | ⟨i1, e1⟩ <;> rcases getElem?_snoc e2 with e2 | ⟨i2, e2⟩
    · exact h.d i j g o1 o2 e1 e2
    · cases e2; exact absurd (heap_lt (h.m.l i _ o1 e1)) (Nat.lt_irrefl _)
    · cases e1; exact absurd (heap_lt (h.m.l j _ o2 e2)) (Nat.lt_irrefl _)
    · rw [i1, i2]
theorem Bx.rat (h : Bx n w0 w L R) {lo : Nat} {A B : Option Addr} {q : Rat} (hl : n ≤ lo) (f : RatFresh lo w A B q) : Bx n w0 w L (R ++ [(A, B, q)]) := ⟨h.m.rat hl f, h.g, h.d⟩
theorem Bx.call (h : Bx n w0 w L R) {A B : Option Addr} {q : Rat} (f : RatFresh w.heap.size w' A B q) (k : Below w.heap.size w w') : Bx n w0 w' L (R ++ [(A, B, q)]) := (h.keep k).rat h.m.z f
theorem Bx.call2 (h : Bx n w0 w L R) {A B C D : Option Addr} {x : Pl} (f : PlFresh w.heap.size w' A B C D x) (k : Below w.heap.size w w') : Bx n w0 w' L ((R ++ [(A, B, x.1)]) ++ [(C, D, x.2)]) := ((h.keep k).rat h.m.z f.h1).rat h.m.z f.h2
theorem Bx.call3 (h : Bx n w0 w L R) {A B C D : Option Addr} {x y : Rat} (f : RatFresh w.heap.size w' A B x) (f' : RatFresh w.heap.size w' C D y) (k : Below w.heap.size w w') : Bx n w0 w' L ((R ++ [(A, B, x)]) ++ [(C, D, y)]) := ((h.keep k).rat h.m.z f).rat h.m.z f'
theorem Bx.ins (h : Bx n w0 w L R) (i : Nat) {A B : Option Addr} {q : Rat} (e : R[i]? = some (A, B, q)) : RatIn 0 w.heap.size w A B q := (h.m.ins i e).wide (Nat.zero_le _) (Nat.le_refl _)
theorem Bx.arg (h : Bx n w0 w L R) {lo up : Nat} {A B : Option Addr} {q : Rat} (a : RatIn lo up w0 A B q) (hu : up ≤ n) : RatIn 0 w.heap.size w A B q := (h.m.arg a hu).wide (Nat.zero_le _) (Nat.le_refl _)
theorem Bx.fresh (h : Bx n w0 w L R) (i : Nat) {A B : Option Addr} {q : Rat} (e : R[i]? = some (A, B, q)) : RatFresh n w A B q := h.m.r i A B q e
theorem Bx.at (h : Bx n w0 w L R) (i : Nat) {g : Nat} {o : Obj} (e : L[i]? = some (g, o)) : w.heap[g]? = some o := h.m.l i g o e
theorem Bx.lt (h : Bx n w0 w L R) (i : Nat) {g : Nat} {o : Obj} (e : L[i]? = some (g, o)) : g < w.heap.size := heap_lt (h.m.l i g o e)
theorem Bx.ne (h : Bx n w0 w L R) (i j : Nat) {g g' : Nat} {o o' : Obj} (e : L[i]? = some (g, o)) (e' : L[j]? = some (g', o')) (hij : i ≠ j) : g ≠ g' := by
  rintro rfl; exact hij (h.d i j _ o o' e e')
theorem Bx.puts (h : Bx n w0 w L R) (i : Nat) {g : Nat} {C : Array Value} {t : TypeId} (e : L[i]? = some (g, .cells C t (0, 0))) (ht : t ≠ 22) (vs : List (Nat × Value)) :
    Bx n w0 (puts g vs w) (L.set i (g, .cells (putsC vs C) t (0, 0))) R := by
  refine ⟨h.m.setOther i e ht (h.g i g _ e) (puts_below (h.g i g _ e) vs w h.m.b) (puts_size g vs w) (puts_at vs w C (h.m.l i g _ e)) (fun j hj => puts_other hj vs w) (fun j o' e' => (h.d i j g _ _ e e').symm), fun j g' o' e' => ?_, fun j k g' o1 o2 e1 e2 => ?_⟩
  · by_cases hj : j = i
    · subst hj
      rw [List.getElem?_set_self (List.getElem?_eq_some_iff.1 e).1] at e'
      cases e'; exact h.g j g _ e
    · rw [List.getElem?_set_ne (fun k => hj k.symm)] at e'; exact h.g j g' o' e'
  · have key : ∀ (j g' : Nat) (o1 : Obj), (L.set i (g, Obj.cells (putsC vs C) t (0, 0)))[j]? = some (g', o1) → ∃ o2, L[j]? = some (g', o2) := by
      intro j g' o1 e1
      by_cases hj : j = i
      · subst hj
        rw [List.getElem?_set_self (List.getElem?_eq_some_iff.1 e).1] at e1
        cases e1; exact ⟨_, e⟩
      · rw [List.getElem?_set_ne (fun k => hj k.symm)] at e1; exact ⟨_, e1⟩
    obtain ⟨_, f1⟩ := key j g' o1 e1
    obtain ⟨_, f2⟩ := key k g' o2 e2
    exact h.d j k g' _ _ f1 f2
theorem getElem?_app {α : Type} {l l' : List α} {i : Nat} {a : α} (h : (l ++ l')[i]? = some a) : (i < l.length ∧ l[i]? = some a) ∨ (l.length ≤ i ∧ l'[i - l.length]? = some a) := by
  by_cases hi : i < l.length
  · left; exact ⟨hi, by rw [List.getElem?_append_left hi] at h; exact h⟩
  · right; exact ⟨by omega, by rw [List.getElem?_append_right (by omega)] at h; exact h⟩
theorem Bx.join (h : Bx n w0 w L R) (k : Bx w.heap.size w w' L' R') : Bx n w0 w' (L ++ L') (R ++ R') := by
  have hk := h.m.keep k.m.b
  refine ⟨⟨hk.b, hk.z, fun i g o e => ?_, fun i A B q e => ?_⟩, fun i g o e => ?_, fun i j g o o' e1 e2 => ?_⟩
  · rcases getElem?_app e with ⟨_, e⟩ | ⟨_, e⟩
    · exact hk.l i g o e
    · exact k.m.l _ g o e
  · rcases getElem?_app e with ⟨_, e⟩ | ⟨_, e⟩
    · exact hk.r i A B q e
    · exact (k.m.r _ A B q e).wide h.m.z
  · rcases getElem?_app e with ⟨_, e⟩ | ⟨_, e⟩
    · exact h.g i g o e
    · exact Nat.le_trans h.m.z (k.g _ g o e)
  · rcases getElem?_app e1 with ⟨_, e1⟩ | ⟨i1, e1⟩ <;> rcases getElem?_app e2 with ⟨_, e2⟩ | ⟨i2, e2⟩
    · exact h.d i j g o o' e1 e2
    · exact absurd (heap_lt (h.m.l i g o e1)) (Nat.not_lt.2 (k.g _ g o' e2))
    · exact absurd (heap_lt (h.m.l j g o' e2)) (Nat.not_lt.2 (k.g _ g o e1))
    · have := k.d _ _ g o o' e1 e2; omega
theorem Bx.pre (h : Bx n w0 w L' R') (hL : L <+: L') (hR : R <+: R') : Bx n w0 w L R := by
  have key : ∀ {α : Type} {l l' : List α} (i : Nat) (x : α), l <+: l' → l[i]? = some x → l'[i]? = some x := by
    rintro α l l' i x ⟨t, rfl⟩ e
    rw [List.getElem?_append_left (List.getElem?_eq_some_iff.1 e).1]; exact e
  exact ⟨⟨h.m.b, h.m.z, fun i g o e => h.m.l i g o (key i _ hL e), fun i A B q e => h.m.r i A B q (key i _ hR e)⟩, fun i g o e => h.g i g o (key i _ hL e), fun i j g o o' e e' => h.d i j g o o' (key i _ hL e) (key j _ hL e')⟩
theorem Bx.pack (h : Bx n w0 w L R) : ∃ Rel : World → Prop, Rel w ∧ (∀ w', Rel w' → Bx n w0 w' L R) ∧ (∀ w', Bx n w0 w' L R → Rel w') := ⟨fun w' => Bx n w0 w' L R, h, fun _ h => h, fun _ h => h⟩
theorem Bx.sel (h : Bx n w0 w L R) (f : Nat → Nat) (hL : ∀ (i : Nat) (x : Nat × Obj), L'[i]? = some x → L[f i]? = some x) (hf : ∀ i j, i < L'.length → j < L'.length → f i = f j → i = j)
    (hR : ∀ x, x ∈ R' → x ∈ R) : Bx n w0 w L' R' := by
  refine ⟨⟨h.m.b, h.m.z, fun i g o e => h.m.l (f i) g o (hL i _ e), fun i A B q e => ?_⟩, fun i g o e => h.g (f i) g o (hL i _ e), fun i j g o o' e1 e2 => ?_⟩
  · obtain ⟨j, hj⟩ := List.getElem?_of_mem (hR _ (List.mem_of_getElem? e))
    exact h.m.r j A B q hj
  · exact hf i j (List.getElem?_eq_some_iff.1 e1).1 (List.getElem?_eq_some_iff.1 e2).1 (h.d (f i) (f j) g o o' (hL i _ e1) (hL j _ e2))
end
end Go.Proofs.YtggfppgjabembaaGreatDoor

namespace Go.Proofs.YtggfppgjabembaaGreatDoor
open Go.RowKit Go.Proofs.YtggfppgjabembaaGreatDoorW.PrintLast
set_option linter.unusedVariables false
set_option linter.unusedSimpArgs false
theorem side_sz {a b : Pt} {n : Nat} {x y : Rat} (fa : FinP a) (fb : FinP b) (sx : Sz n x) (sy : Sz n y) : Sz (2 * n + 10000) (area2 (pl a) (pl b) (x, y)) := by
  have a1 := fval_sz fa.1
  have a2 := fval_sz fa.2
  have b1 := fval_sz fb.1
  have b2 := fval_sz fb.2
  exact (((b1.sub a1).mul (sy.sub a2)).sub ((b2.sub a2).mul (sx.sub a1))).mono (by omega)
set_option maxRecDepth 100000 in
set_option maxHeartbeats 3200000 in
theorem lSide (a b : Pt) (A B C D : Option Addr) (lo up m : Nat) (x y : Rat) (w : World) (fa : FinP a) (fb : FinP b) (hx : RatIn lo up w A B x) (hy : RatIn lo up w C D y) (hu : up ≤ w.heap.size) (sx : Sz m x) (sy : Sz m y) (hm : m ≤ 100000) :
    Calls Tryz.prog 19 #[pt a, pt b, qv A B x, qv C D y] w fun e w' => ∃ E F, e = .returned (.tuple #[qv E F (area2 (pl a) (pl b) (x, y)), .bool true]) ∧ RatFresh w.heap.size w' E F (area2 (pl a) (pl b) (x, y)) ∧ Below w.heap.size w w' := by
  have HAr : Hid (area2 (pl a) (pl b) (x, y) = (fval b.1 - fval a.1) * (y - fval a.2) - (fval b.2 - fval a.2) * (x - fval a.1)) := Lib.hid rfl
  rw [HAr.out]
  clear HAr
  have V1 := Lib.hid (fun wz => vValue a.1 wz fa.1)
  have V2 := Lib.hid (fun wz => vValue a.2 wz fa.2)
  have V3 := Lib.hid (fun wz => vValue b.1 wz fb.1)
  have V4 := Lib.hid (fun wz => vValue b.2 wz fb.2)
  have s1 := fval_sz fa.1
  have s2 := fval_sz fa.2
  have s3 := fval_sz fb.1
  have s4 := fval_sz fb.2
  generalize fval a.1 = ax at *
  generalize fval a.2 = ay at *
  generalize fval b.1 = bx at *
  generalize fval b.2 = bY at *
  have t1 := s3.sub s1
  have t2 := s4.sub s2
  have t3 := sx.sub s1
  have t4 := sy.sub s2
  have O1 := Lib.hid (fun A B C D lo up wz hp hq hu => rSubQ A B C D lo up _ _ bx ax wz hp hq hu s3 s1 (by omega))
  have O2 := Lib.hid (fun A B C D lo up wz hp hq hu => rSubQ A B C D lo up _ _ bY ay wz hp hq hu s4 s2 (by omega))
  have O3 := Lib.hid (fun A B C D lo up wz hp hq hu => rSubQ A B C D lo up _ _ x ax wz hp hq hu sx s1 (by omega))
  have O4 := Lib.hid (fun A B C D lo up wz hp hq hu => rSubQ A B C D lo up _ _ y ay wz hp hq hu sy s2 (by omega))
  generalize bx - ax = ux at *
  generalize bY - ay = uy at *
  generalize x - ax = vx at *
  generalize y - ay = vy at *
  have r1 := t1.mul t4
  have r2 := t2.mul t3
  have O5 := Lib.hid (fun A B C D lo up wz hp hq hu => rMulQ A B C D lo up _ _ ux vy wz hp hq hu t1 t4 (by omega))
  have O6 := Lib.hid (fun A B C D lo up wz hp hq hu => rMulQ A B C D lo up _ _ uy vx wz hp hq hu t2 t3 (by omega))
  generalize ux * vy = p at *
  generalize uy * vx = q at *
  have O7 := Lib.hid (fun A B C D lo up wz hp hq hu => rSubQ A B C D lo up _ _ p q wz hp hq hu r1 r2 (by omega))
  generalize p - q = r at *
  clear s1 s2 s3 s4 t1 t2 t3 t4 r1 r2 sx sy
  have hmm : Mem w.heap.size w (((((w.alloc (.cells #[.int .u64 a.1, .int .u64 a.2] 24)).alloc (.cells #[.int .u64 b.1, .int .u64 b.2] 24)).alloc (.cells #[.bool (decide (x.num < 0)), .slice A (qn x).length (qn x).length, .slice B (qd x).length (qd x).length] 45)).alloc (.cells #[.bool (decide (y.num < 0)), .slice C (qn y).length (qn y).length, .slice D (qd y).length (qd y).length] 45)).alloc (.cells #[.bool false, .slice none 0 0, .slice none 0 0] 45)) _ _ :=
    (((((Mem.start w).alloc (po a)).alloc (po b)).alloc (qo A B x)).alloc (qo C D y)).alloc (.cells #[.bool false, .slice none 0 0, .slice none 0 0] 45 (0, 0))
  have HX := Lib.hid (And.intro hx (And.intro hy hu))
  clear hx hy hu
  unfold qv pt
  go_enter Tryz.func19, Tryz.ntmps19
  go_upto_region 1 with (fail)
  generalize (World.alloc (World.alloc (World.alloc (World.alloc (World.alloc w _) _) _) _) _) = v at *
  simp only [World.size_alloc] at hmm
  have HM := Lib.hid hmm
  clear hmm
  obtain ⟨c0_0, c0_1, c0_2, c0_3⟩ := HM.out.prow 0 rfl
  have HK := Lib.hid (V1.out v)
  (try unfold qv at HK)
  (try unfold pt at HK)
  (try unfold mv at HK)
  ((try dsimp only); repeat (first | go_values | go_skip | go_guarded | go_step | go_upon))
  refine HK.out.mono ?_
  rintro e w0 ⟨E0, F0, rfl, hf, hb⟩
  have hm : Mem w.heap.size w (w0.alloc (.cells #[.bool (decide (ax.num < 0)), .slice E0 (qn ax).length (qn ax).length, .slice F0 (qd ax).length (qd ax).length] 45)) _ _ := (HM.out.call hf hb).alloc (qo E0 F0 ax)
  clear HK HM hb hf c0_0 c0_1 c0_2 c0_3
  go_upto_region 2 with (fail)
  generalize (World.alloc w0 _) = v0 at *
  have HM := Lib.hid hm
  clear hm
  obtain ⟨c0_0, c0_1, c0_2, c0_3⟩ := HM.out.prow 0 rfl
  have HK := Lib.hid (V2.out v0)
  (try unfold qv at HK)
  (try unfold pt at HK)
  (try unfold mv at HK)
  ((try dsimp only); repeat (first | go_values | go_skip | go_guarded | go_step | go_upon))
  refine HK.out.mono ?_
  rintro e w1 ⟨E1, F1, rfl, hf, hb⟩
  have hm : Mem w.heap.size w (w1.alloc (.cells #[.bool (decide (ay.num < 0)), .slice E1 (qn ay).length (qn ay).length, .slice F1 (qd ay).length (qd ay).length] 45)) _ _ := (HM.out.call hf hb).alloc (qo E1 F1 ay)
  clear HK HM hb hf c0_0 c0_1 c0_2 c0_3
  go_upto_region 3 with (fail)
  generalize (World.alloc w1 _) = v1 at *
  have HM := Lib.hid hm
  clear hm
  obtain ⟨c1_0, c1_1, c1_2, c1_3⟩ := HM.out.prow 1 rfl
  have HK := Lib.hid (V3.out v1)
  (try unfold qv at HK)
  (try unfold pt at HK)
  (try unfold mv at HK)
  ((try dsimp only); repeat (first | go_values | go_skip | go_guarded | go_step | go_upon))
  refine HK.out.mono ?_
  rintro e w2 ⟨E2, F2, rfl, hf, hb⟩
  have hm : Mem w.heap.size w (w2.alloc (.cells #[.bool (decide (bx.num < 0)), .slice E2 (qn bx).length (qn bx).length, .slice F2 (qd bx).length (qd bx).length] 45)) _ _ := (HM.out.call hf hb).alloc (qo E2 F2 bx)
  clear HK HM hb hf c1_0 c1_1 c1_2 c1_3
  go_upto_region 4 with (fail)
  generalize (World.alloc w2 _) = v2 at *
  have HM := Lib.hid hm
  clear hm
  obtain ⟨c1_0, c1_1, c1_2, c1_3⟩ := HM.out.prow 1 rfl
  have HK := Lib.hid (V4.out v2)
  (try unfold qv at HK)
  (try unfold pt at HK)
  (try unfold mv at HK)
  ((try dsimp only); repeat (first | go_values | go_skip | go_guarded | go_step | go_upon))
  refine HK.out.mono ?_
  rintro e w3 ⟨E3, F3, rfl, hf, hb⟩
  have hm : Mem w.heap.size w (w3.alloc (.cells #[.bool (decide (bY.num < 0)), .slice E3 (qn bY).length (qn bY).length, .slice F3 (qd bY).length (qd bY).length] 45)) _ _ := (HM.out.call hf hb).alloc (qo E3 F3 bY)
  clear HK HM hb hf c1_0 c1_1 c1_2 c1_3
  go_upto_region 7 with (fail)
  generalize (World.alloc w3 _) = v3 at *
  have HM := Lib.hid hm
  clear hm
  obtain ⟨c7_0, c7_1, c7_2, c7_3, c7_4, c7_5⟩ := HM.out.qrow 7 rfl
  obtain ⟨c5_0, c5_1, c5_2, c5_3, c5_4, c5_5⟩ := HM.out.qrow 5 rfl
  have HK := Lib.hid (O1.out _ _ _ _ _ _ v3 (HM.out.ins 2 rfl) (HM.out.ins 0 rfl) (Nat.le_refl _))
  (try unfold qv at HK)
  (try unfold pt at HK)
  (try unfold mv at HK)
  ((try dsimp only); repeat (first | go_values | go_skip | go_guarded | go_step | go_upon))
  refine HK.out.mono ?_
  rintro e w4 ⟨E4, F4, rfl, hf, hb⟩
  have hm : Mem w.heap.size w (w4.alloc (.cells #[.bool (decide (ux.num < 0)), .slice E4 (qn ux).length (qn ux).length, .slice F4 (qd ux).length (qd ux).length] 45)) _ _ := (HM.out.call hf hb).alloc (qo E4 F4 ux)
  clear HK HM hb hf c7_0 c7_1 c7_2 c7_3 c7_4 c7_5 c5_0 c5_1 c5_2 c5_3 c5_4 c5_5
  go_upto_region 8 with (fail)
  generalize (World.alloc w4 _) = v4 at *
  have HM := Lib.hid hm
  clear hm
  obtain ⟨c8_0, c8_1, c8_2, c8_3, c8_4, c8_5⟩ := HM.out.qrow 8 rfl
  obtain ⟨c6_0, c6_1, c6_2, c6_3, c6_4, c6_5⟩ := HM.out.qrow 6 rfl
  have HK := Lib.hid (O2.out _ _ _ _ _ _ v4 (HM.out.ins 3 rfl) (HM.out.ins 1 rfl) (Nat.le_refl _))
  (try unfold qv at HK)
  (try unfold pt at HK)
  (try unfold mv at HK)
  ((try dsimp only); repeat (first | go_values | go_skip | go_guarded | go_step | go_upon))
  refine HK.out.mono ?_
  rintro e w5 ⟨E5, F5, rfl, hf, hb⟩
  have hm : Mem w.heap.size w (w5.alloc (.cells #[.bool (decide (uy.num < 0)), .slice E5 (qn uy).length (qn uy).length, .slice F5 (qd uy).length (qd uy).length] 45)) _ _ := (HM.out.call hf hb).alloc (qo E5 F5 uy)
  clear HK HM hb hf c8_0 c8_1 c8_2 c8_3 c8_4 c8_5 c6_0 c6_1 c6_2 c6_3 c6_4 c6_5
  go_upto_region 9 with (fail)
  generalize (World.alloc w5 _) = v5 at *
  have HM := Lib.hid hm
  clear hm
  obtain ⟨c2_0, c2_1, c2_2, c2_3, c2_4, c2_5⟩ := HM.out.qrow 2 rfl
  obtain ⟨c5_0, c5_1, c5_2, c5_3, c5_4, c5_5⟩ := HM.out.qrow 5 rfl
  have HK := Lib.hid (O3.out _ _ _ _ 0 _ v5 ((HM.out.arg HX.out.1 HX.out.2.2).wide (Nat.zero_le _) (Nat.le_refl _)) ((HM.out.ins 0 rfl).wide (Nat.zero_le _) (Nat.le_refl _)) (Nat.le_refl _))
  (try unfold qv at HK)
  (try unfold pt at HK)
  (try unfold mv at HK)
  ((try dsimp only); repeat (first | go_values | go_skip | go_guarded | go_step | go_upon))
  refine HK.out.mono ?_
  rintro e w6 ⟨E6, F6, rfl, hf, hb⟩
  have hm : Mem w.heap.size w (w6.alloc (.cells #[.bool (decide (vx.num < 0)), .slice E6 (qn vx).length (qn vx).length, .slice F6 (qd vx).length (qd vx).length] 45)) _ _ := (HM.out.call hf hb).alloc (qo E6 F6 vx)
  clear HK HM hb hf c2_0 c2_1 c2_2 c2_3 c2_4 c2_5 c5_0 c5_1 c5_2 c5_3 c5_4 c5_5
  go_upto_region 10 with (fail)
  generalize (World.alloc w6 _) = v6 at *
  have HM := Lib.hid hm
  clear hm
  obtain ⟨c3_0, c3_1, c3_2, c3_3, c3_4, c3_5⟩ := HM.out.qrow 3 rfl
  obtain ⟨c6_0, c6_1, c6_2, c6_3, c6_4, c6_5⟩ := HM.out.qrow 6 rfl
  have HK := Lib.hid (O4.out _ _ _ _ 0 _ v6 ((HM.out.arg HX.out.2.1 HX.out.2.2).wide (Nat.zero_le _) (Nat.le_refl _)) ((HM.out.ins 1 rfl).wide (Nat.zero_le _) (Nat.le_refl _)) (Nat.le_refl _))
  (try unfold qv at HK)
  (try unfold pt at HK)
  (try unfold mv at HK)
  ((try dsimp only); repeat (first | go_values | go_skip | go_guarded | go_step | go_upon))
  refine HK.out.mono ?_
  rintro e w7 ⟨E7, F7, rfl, hf, hb⟩
  have hm : Mem w.heap.size w (w7.alloc (.cells #[.bool (decide (vy.num < 0)), .slice E7 (qn vy).length (qn vy).length, .slice F7 (qd vy).length (qd vy).length] 45)) _ _ := (HM.out.call hf hb).alloc (qo E7 F7 vy)
  clear HK HM hb hf c3_0 c3_1 c3_2 c3_3 c3_4 c3_5 c6_0 c6_1 c6_2 c6_3 c6_4 c6_5
  go_upto_region 13 with (fail)
  generalize (World.alloc w7 _) = v7 at *
  have HM := Lib.hid hm
  clear hm
  obtain ⟨c9_0, c9_1, c9_2, c9_3, c9_4, c9_5⟩ := HM.out.qrow 9 rfl
  obtain ⟨c12_0, c12_1, c12_2, c12_3, c12_4, c12_5⟩ := HM.out.qrow 12 rfl
  have HK := Lib.hid (O5.out _ _ _ _ _ _ v7 (HM.out.ins 4 rfl) (HM.out.ins 7 rfl) (Nat.le_refl _))
  (try unfold qv at HK)
  (try unfold pt at HK)
  (try unfold mv at HK)
  ((try dsimp only); repeat (first | go_values | go_skip | go_guarded | go_step | go_upon))
  refine HK.out.mono ?_
  rintro e w8 ⟨E8, F8, rfl, hf, hb⟩
  have hm : Mem w.heap.size w (w8.alloc (.cells #[.bool (decide (p.num < 0)), .slice E8 (qn p).length (qn p).length, .slice F8 (qd p).length (qd p).length] 45)) _ _ := (HM.out.call hf hb).alloc (qo E8 F8 p)
  clear HK HM hb hf c9_0 c9_1 c9_2 c9_3 c9_4 c9_5 c12_0 c12_1 c12_2 c12_3 c12_4 c12_5
  go_upto_region 14 with (fail)
  generalize (World.alloc w8 _) = v8 at *
  have HM := Lib.hid hm
  clear hm
  obtain ⟨c10_0, c10_1, c10_2, c10_3, c10_4, c10_5⟩ := HM.out.qrow 10 rfl
  obtain ⟨c11_0, c11_1, c11_2, c11_3, c11_4, c11_5⟩ := HM.out.qrow 11 rfl
  have HK := Lib.hid (O6.out _ _ _ _ _ _ v8 (HM.out.ins 5 rfl) (HM.out.ins 6 rfl) (Nat.le_refl _))
  (try unfold qv at HK)
  (try unfold pt at HK)
  (try unfold mv at HK)
  ((try dsimp only); repeat (first | go_values | go_skip | go_guarded | go_step | go_upon))
  refine HK.out.mono ?_
  rintro e w9 ⟨E9, F9, rfl, hf, hb⟩
  have hm : Mem w.heap.size w (w9.alloc (.cells #[.bool (decide (q.num < 0)), .slice E9 (qn q).length (qn q).length, .slice F9 (qd q).length (qd q).length] 45)) _ _ := (HM.out.call hf hb).alloc (qo E9 F9 q)
  clear HK HM hb hf c10_0 c10_1 c10_2 c10_3 c10_4 c10_5 c11_0 c11_1 c11_2 c11_3 c11_4 c11_5
  go_upto_region 17 with (fail)
  generalize (World.alloc w9 _) = v9 at *
  have HM := Lib.hid hm
  clear hm
  obtain ⟨c13_0, c13_1, c13_2, c13_3, c13_4, c13_5⟩ := HM.out.qrow 13 rfl
  obtain ⟨c14_0, c14_1, c14_2, c14_3, c14_4, c14_5⟩ := HM.out.qrow 14 rfl
  have HK := Lib.hid (O7.out _ _ _ _ _ _ v9 (HM.out.ins 8 rfl) (HM.out.ins 9 rfl) (Nat.le_refl _))
  (try unfold qv at HK)
  (try unfold pt at HK)
  (try unfold mv at HK)
  ((try dsimp only); repeat (first | go_values | go_skip | go_guarded | go_step | go_upon))
  refine HK.out.mono ?_
  rintro e w10 ⟨E10, F10, rfl, hf, hb⟩
  have hm : Mem w.heap.size w (w10.alloc (.cells #[.bool (decide (r.num < 0)), .slice E10 (qn r).length (qn r).length, .slice F10 (qd r).length (qd r).length] 45)) _ _ := (HM.out.call hf hb).alloc (qo E10 F10 r)
  clear HK HM hb hf c13_0 c13_1 c13_2 c13_3 c13_4 c13_5 c14_0 c14_1 c14_2 c14_3 c14_4 c14_5
  go_upto_region 18 with (fail)
  generalize (World.alloc w10 _) = v10 at *
  have HM := Lib.hid hm
  clear hm
  obtain ⟨c15_0, c15_1, c15_2, c15_3, c15_4, c15_5⟩ := HM.out.qrow 15 rfl
  obtain ⟨c4_0, c4_1, c4_2, c4_3, c4_4, c4_5⟩ := row3 (HM.out.l 4 _ _ rfl)
  ((try dsimp only); repeat (first | go_values | go_skip | go_guarded | go_step | go_upon))
  have hg := heap_set_three (HM.out.l 4 _ _ rfl) (.bool (decide (r.num < 0))) (.slice E10 (qn r).length (qn r).length) (.slice F10 (qd r).length (qd r).length)
  refine bodyPost_ret (results_row_tmp rfl _ _ (w.heap.size + 1 + 1 + 1 + 1) _ _ _ _ rfl hg rfl rfl rfl) rfl ?_
  have hl := HM.out
  have g0 : ∀ k, w.heap.size + k ≠ w.heap.size + k + 1 := by intro k; omega
  refine ⟨E10, F10, rfl, ?_, (((hl.b.setCell (by show _ ≤ w.heap.size + 1 + 1 + 1 + 1; omega) _).setCell (by show _ ≤ w.heap.size + 1 + 1 + 1 + 1; omega) _).setCell (by show _ ≤ w.heap.size + 1 + 1 + 1 + 1; omega) _)⟩
  exact (hl.r 10 _ _ _ rfl).off3 (hl.l 4 _ _ rfl) (by decide) _ _ _
end Go.Proofs.YtggfppgjabembaaGreatDoor

namespace Go.Proofs.YtggfppgjabembaaGreatDoor
open Go.RowKit Go.Proofs.YtggfppgjabembaaGreatDoorW.PrintLast
set_option linter.unusedVariables false
set_option linter.unusedSimpArgs false
theorem fcl_inf {b : Int} (hu : U64 b) (h : ¬ Fin64 b) : 3 ≤ fcl b := by
  have he : fe b = 2047 := Classical.byContradiction fun e => h ⟨hu.1, hu.2, e⟩
  unfold fcl
  rw [he]
  simp
  split <;> omega
set_option maxRecDepth 100000 in
set_option maxHeartbeats 1600000 in
theorem sFiniteNo (b o : Nat) (ps : List Pt) (w : World) (hp : PtsAt w b o ps) (hb : b < w.heap.size) (hl : ps.length ≤ 1000000) (hu : ∀ p ∈ ps, PtU p) (hn : ∃ p ∈ ps, ¬ FinP p) :
    Calls Tryz.prog 34 #[.slice (some ⟨b, o, none⟩) ps.length ps.length] w fun e w' => e = .returned (.bool false) ∧ Below w.heap.size w w' := by
  have HP := Lib.hid hp
  have HU := Lib.hid hu
  have hn' : ∃ j : Nat, j < ps.length ∧ ¬ FinP (ps.getD j (0, 0)) := by
    obtain ⟨p, hm, hf⟩ := hn
    obtain ⟨j, hj, he⟩ := List.getElem_of_mem hm
    exact ⟨j, hj, by rw [List.getD_eq_getElem?_getD, List.getElem?_eq_getElem hj]; simpa [he] using hf⟩
  obtain ⟨j, hj, hf⟩ := hn'
  have HF := Lib.hid (And.intro hj hf)
  clear hp hu hn hj hf
  go_enter Tryz.func34, Tryz.ntmps34
  ((try dsimp only); repeat (first | go_values | go_skip | go_guarded | go_step | go_upon))
  go_loopw [7] (fun i wr => ∃ k : Nat, i = .int .i64 k ∧ k ≤ j ∧ Below w.heap.size w wr) (fun i _ => ps.length - (intOf i).toNat)
  case atStart => exact ⟨0, rfl, Nat.zero_le _, Below.refl _ _⟩
  case round =>
    obtain ⟨k, rfl, hk, hB⟩ := hrel
    have sB := hB.size
    have hj := HF.out.1
    have h0 : k < ps.length := by omega
    have hpk := (HP.out k h0)
    have hp1 := (hB.cell (p := ⟨b, o + k * 2, none⟩) hb).trans hpk.1
    have hp2 := (hB.cell (p := ⟨b, o + k * 2 + 1, none⟩) hb).trans hpk.2
    have hmem : ps.getD k (0, 0) ∈ ps := by rw [List.getD_eq_getElem?_getD, List.getElem?_eq_getElem h0]; exact List.getElem_mem h0
    have hfk := HU.out _ hmem
    have hkj : k = j → ¬ FinP (ps.getD k (0, 0)) := fun e => by rw [e]; exact HF.out.2
    have HD := Lib.hid hB
    clear hpk hmem hB
    generalize ps.getD k (0, 0) = pt at *
    have HC := Lib.hid (fun wz => And.intro (fClass pt.1 wz hfk.1.1 hfk.1.2) (fClass pt.2 wz hfk.2.1 hfk.2.2))
    have e1 : ¬ 3 ≤ fcl pt.1 → Fin64 pt.1 := fun h => Classical.byContradiction fun e => h (fcl_inf hfk.1 e)
    have e2 : ¬ 3 ≤ fcl pt.2 → Fin64 pt.2 := fun h => Classical.byContradiction fun e => h (fcl_inf hfk.2 e)
    have hkj' : ¬ 3 ≤ fcl pt.1 → ¬ 3 ≤ fcl pt.2 → k + 1 ≤ j := fun h1 h2 => by
      have : k ≠ j := fun e => hkj e ⟨e1 h1, e2 h2⟩
      omega
    have HJ := Lib.hid hkj'
    clear hfk e1 e2 hkj hkj'
    generalize fcl pt.1 = c1 at *
    generalize fcl pt.2 = c2 at *
    by_cases h1 : 3 ≤ c1
    · ((try dsimp only); repeat (first | go_values | go_skip | go_guarded | go_step | go_upon))
      refine (HC.out _).1.mono ?_
      rintro e w1 ⟨rfl, rfl⟩
      ((try dsimp only); repeat (first | go_values | go_skip | go_guarded | go_step | go_upon))
      go_ret
      exact ⟨rfl, HD.out.alloc (by omega) _⟩
    · ((try dsimp only); repeat (first | go_values | go_skip | go_guarded | go_step | go_upon))
      refine (HC.out _).1.mono ?_
      rintro e w1 ⟨rfl, rfl⟩
      ((try dsimp only); repeat (first | go_values | go_skip | go_guarded | go_step | go_upon))
      by_cases h2 : 3 ≤ c2
      · refine (HC.out _).2.mono ?_
        rintro e w1 ⟨rfl, rfl⟩
        ((try dsimp only); repeat (first | go_values | go_skip | go_guarded | go_step | go_upon))
        go_ret
        exact ⟨rfl, HD.out.alloc (by omega) _⟩
      · refine (HC.out _).2.mono ?_
        rintro e w1 ⟨rfl, rfl⟩
        ((try dsimp only); repeat (first | go_values | go_skip | go_guarded | go_step | go_upon))
        have hj1 := HJ.out h1 h2
        exact ⟨⟨k + 1, vint (by omega), hj1, HD.out.alloc (by omega) _⟩, by simp [intOf]; omega⟩
set_option maxRecDepth 100000 in
theorem nMeet (a b c d : Pt) (w : World) (ua : PtU a) (ub : PtU b) (uc : PtU c) (ud : PtU d) (hn : ¬ (FinP a ∧ FinP b ∧ FinP c ∧ FinP d)) :
    Calls Tryz.prog 10 #[pt a, pt b, pt c, pt d] w fun e w' => e = .returned (.tuple #[.agg #[.int .i64 0, .bool false, .int .u64 0, .int .u64 0, .int .u64 0, .int .u64 0], .int .i64 220]) ∧ Below w.heap.size w w' := by
  have hu : ∀ p ∈ [a, b, c, d], PtU p := by intro p h; simp at h; rcases h with rfl | rfl | rfl | rfl <;> assumption
  have hx : ∃ p ∈ [a, b, c, d], ¬ FinP p := Classical.byContradiction fun h => hn (by
    have k : ∀ p ∈ [a, b, c, d], FinP p := fun p hp => Classical.byContradiction fun e => h ⟨p, hp, e⟩
    exact ⟨k a (by simp), k b (by simp), k c (by simp), k d (by simp)⟩)
  have HFI := Lib.hid (fun wz g hp hb => sFiniteNo g 0 [a, b, c, d] wz hp hb (by simp) hu hx)
  clear hu hx hn ua ub uc ud
  unfold pt
  have hmm : Bx w.heap.size w (((((w.alloc (.cells #[.int .u64 a.1, .int .u64 a.2] 24)).alloc (.cells #[.int .u64 b.1, .int .u64 b.2] 24)).alloc (.cells #[.int .u64 c.1, .int .u64 c.2] 24)).alloc (.cells #[.int .u64 d.1, .int .u64 d.2] 24)).alloc (.cells #[.int .i64 0, .bool false, .int .u64 0, .int .u64 0, .int .u64 0, .int .u64 0] 29)) _ _ := (((((Bx.start w).alloc (.cells #[.int .u64 a.1, .int .u64 a.2] 24 (0, 0))).alloc (.cells #[.int .u64 b.1, .int .u64 b.2] 24 (0, 0))).alloc (.cells #[.int .u64 c.1, .int .u64 c.2] 24 (0, 0))).alloc (.cells #[.int .u64 d.1, .int .u64 d.2] 24 (0, 0))).alloc (.cells #[.int .i64 0, .bool false, .int .u64 0, .int .u64 0, .int .u64 0, .int .u64 0] 29 (0, 0))
  go_enter Tryz.func10, Tryz.ntmps10
  go_upto_region 1 with (fail)
  generalize (World.alloc (World.alloc (World.alloc (World.alloc (World.alloc w _) _) _) _) _) = v at *
  (try simp only [List.nil_append, List.cons_append, World.size_alloc, List.set_cons_zero, List.set_cons_succ, putsC, pB, pC, pD] at hmm)
  have HM := Lib.hid hmm
  clear hmm
  obtain ⟨c0_0, c0_1, c0_2, c0_3⟩ := rw2 (HM.out.at 0 rfl)
  obtain ⟨c1_0, c1_1, c1_2, c1_3⟩ := rw2 (HM.out.at 1 rfl)
  obtain ⟨c2_0, c2_1, c2_2, c2_3⟩ := rw2 (HM.out.at 2 rfl)
  obtain ⟨c3_0, c3_1, c3_2, c3_3⟩ := rw2 (HM.out.at 3 rfl)
  have hn : Bx w.heap.size w (World.alloc v (.cells #[.int .u64 a.1, .int .u64 a.2, .int .u64 b.1, .int .u64 b.2, .int .u64 c.1, .int .u64 c.2, .int .u64 d.1, .int .u64 d.2] 24)) _ _ := (HM.out.alloc (.cells #[.int .u64 a.1, .int .u64 a.2, .int .u64 b.1, .int .u64 b.2, .int .u64 c.1, .int .u64 c.2, .int .u64 d.1, .int .u64 d.2] 24 (0, 0)))
  (try simp only [List.nil_append, List.cons_append, World.size_alloc, List.set_cons_zero, List.set_cons_succ, putsC, pB, pC, pD] at hn)
  have HN := Lib.hid hn
  clear hn
  have HK := Lib.hid (HFI.out (World.alloc v (.cells #[.int .u64 a.1, .int .u64 a.2, .int .u64 b.1, .int .u64 b.2, .int .u64 c.1, .int .u64 c.2, .int .u64 d.1, .int .u64 d.2] 24)) _ (pts4 (HN.out.at 5 rfl)) (HN.out.lt 5 rfl))
  ((try dsimp only); repeat (first | go_values | go_skip | go_guarded | go_step | go_upon))
  refine HK.out.mono ?_
  rintro e w0 ⟨rfl, hb⟩
  have hm := (HN.out.keep hb)
  clear HK HM hb c0_0 c0_1 c0_2 c0_3 c1_0 c1_1 c1_2 c1_3 c2_0 c2_1 c2_2 c2_3 c3_0 c3_1 c3_2 c3_3 HN
  (try simp only [List.nil_append, List.cons_append, World.size_alloc, List.set_cons_zero, List.set_cons_succ, putsC, pB, pC, pD] at hm)
  have HM := Lib.hid hm
  clear hm
  go_upto_region 2 with (fail)
  obtain ⟨c4_0, c4_1, c4_2, c4_3, c4_4, c4_5, c4_6, c4_7, c4_8, c4_9, c4_10, c4_11⟩ := rw6 (HM.out.at 4 rfl)
  ((try dsimp only); repeat (first | go_values | go_skip | go_guarded | go_step | go_upon))
  refine bodyPost_ret (results_row_tmp rfl _ _ (w.heap.size + 1 + 1 + 1 + 1) _ _ _ _ rfl ((HM.out.puts 4 rfl (by decide) [(0, .int .i64 0), (1, .bool false), (2, .int .u64 0), (3, .int .u64 0), (4, .int .u64 0), (5, .int .u64 0)]).at 4 rfl) rfl rfl rfl) rfl ?_
  exact ⟨rfl, (HM.out.puts 4 rfl (by decide) [(0, .int .i64 0), (1, .bool false), (2, .int .u64 0), (3, .int .u64 0), (4, .int .u64 0), (5, .int .u64 0)]).m.b⟩
set_option maxRecDepth 100000 in
theorem nCross (a b c d : Pt) (w : World) (ua : PtU a) (ub : PtU b) (uc : PtU c) (ud : PtU d) (hn : ¬ (FinP a ∧ FinP b ∧ FinP c ∧ FinP d)) :
    Calls Tryz.prog 17 #[pt a, pt b, pt c, pt d] w fun e w' => e = .returned (.tuple #[.agg #[.bool false, .slice none 0 0, .slice none 0 0], .agg #[.bool false, .slice none 0 0, .slice none 0 0], .int .i64 220]) ∧ Below w.heap.size w w' := by
  have hu : ∀ p ∈ [a, b, c, d], PtU p := by intro p h; simp at h; rcases h with rfl | rfl | rfl | rfl <;> assumption
  have hx : ∃ p ∈ [a, b, c, d], ¬ FinP p := Classical.byContradiction fun h => hn (by
    have k : ∀ p ∈ [a, b, c, d], FinP p := fun p hp => Classical.byContradiction fun e => h ⟨p, hp, e⟩
    exact ⟨k a (by simp), k b (by simp), k c (by simp), k d (by simp)⟩)
  have HFI := Lib.hid (fun wz g hp hb => sFiniteNo g 0 [a, b, c, d] wz hp hb (by simp) hu hx)
  clear hu hx hn ua ub uc ud
  unfold pt
  have hmm : Bx w.heap.size w ((((((w.alloc (.cells #[.int .u64 a.1, .int .u64 a.2] 24)).alloc (.cells #[.int .u64 b.1, .int .u64 b.2] 24)).alloc (.cells #[.int .u64 c.1, .int .u64 c.2] 24)).alloc (.cells #[.int .u64 d.1, .int .u64 d.2] 24)).alloc (.cells #[.bool false, .slice none 0 0, .slice none 0 0] 45)).alloc (.cells #[.bool false, .slice none 0 0, .slice none 0 0] 45)) _ _ := ((((((Bx.start w).alloc (.cells #[.int .u64 a.1, .int .u64 a.2] 24 (0, 0))).alloc (.cells #[.int .u64 b.1, .int .u64 b.2] 24 (0, 0))).alloc (.cells #[.int .u64 c.1, .int .u64 c.2] 24 (0, 0))).alloc (.cells #[.int .u64 d.1, .int .u64 d.2] 24 (0, 0))).alloc (.cells #[.bool false, .slice none 0 0, .slice none 0 0] 45 (0, 0))).alloc (.cells #[.bool false, .slice none 0 0, .slice none 0 0] 45 (0, 0))
  go_enter Tryz.func17, Tryz.ntmps17
  go_upto_region 1 with (fail)
  generalize (World.alloc (World.alloc (World.alloc (World.alloc (World.alloc (World.alloc w _) _) _) _) _) _) = v at *
  (try simp only [List.nil_append, List.cons_append, World.size_alloc, List.set_cons_zero, List.set_cons_succ, putsC, pB, pC, pD] at hmm)
  have HM := Lib.hid hmm
  clear hmm
  obtain ⟨c0_0, c0_1, c0_2, c0_3⟩ := rw2 (HM.out.at 0 rfl)
  obtain ⟨c1_0, c1_1, c1_2, c1_3⟩ := rw2 (HM.out.at 1 rfl)
  obtain ⟨c2_0, c2_1, c2_2, c2_3⟩ := rw2 (HM.out.at 2 rfl)
  obtain ⟨c3_0, c3_1, c3_2, c3_3⟩ := rw2 (HM.out.at 3 rfl)
  have hn : Bx w.heap.size w (World.alloc v (.cells #[.int .u64 a.1, .int .u64 a.2, .int .u64 b.1, .int .u64 b.2, .int .u64 c.1, .int .u64 c.2, .int .u64 d.1, .int .u64 d.2] 24)) _ _ := (HM.out.alloc (.cells #[.int .u64 a.1, .int .u64 a.2, .int .u64 b.1, .int .u64 b.2, .int .u64 c.1, .int .u64 c.2, .int .u64 d.1, .int .u64 d.2] 24 (0, 0)))
  (try simp only [List.nil_append, List.cons_append, World.size_alloc, List.set_cons_zero, List.set_cons_succ, putsC, pB, pC, pD] at hn)
  have HN := Lib.hid hn
  clear hn
  have HK := Lib.hid (HFI.out (World.alloc v (.cells #[.int .u64 a.1, .int .u64 a.2, .int .u64 b.1, .int .u64 b.2, .int .u64 c.1, .int .u64 c.2, .int .u64 d.1, .int .u64 d.2] 24)) _ (pts4 (HN.out.at 6 rfl)) (HN.out.lt 6 rfl))
  ((try dsimp only); repeat (first | go_values | go_skip | go_guarded | go_step | go_upon))
  refine HK.out.mono ?_
  rintro e w0 ⟨rfl, hb⟩
  have hm := (HN.out.keep hb)
  clear HK HM hb c0_0 c0_1 c0_2 c0_3 c1_0 c1_1 c1_2 c1_3 c2_0 c2_1 c2_2 c2_3 c3_0 c3_1 c3_2 c3_3 HN
  (try simp only [List.nil_append, List.cons_append, World.size_alloc, List.set_cons_zero, List.set_cons_succ, putsC, pB, pC, pD] at hm)
  have HM := Lib.hid hm
  clear hm
  go_upto_region 2 with (fail)
  obtain ⟨c4_0, c4_1, c4_2, c4_3, c4_4, c4_5⟩ := rw3 (HM.out.at 4 rfl)
  obtain ⟨c5_0, c5_1, c5_2, c5_3, c5_4, c5_5⟩ := rw3 (HM.out.at 5 rfl)
  ((try dsimp only); repeat (first | go_values | go_skip | go_guarded | go_step | go_upon))
  refine bodyPost_ret (results_rows2 rfl _ _ (w.heap.size + 1 + 1 + 1 + 1) (w.heap.size + 1 + 1 + 1 + 1 + 1) _ _ _ _ _ _ _ _ rfl rfl (((HM.out.puts 4 rfl (by decide) [(0, .bool false), (1, .slice none 0 0), (2, .slice none 0 0)]).puts 5 rfl (by decide) [(0, .bool false), (1, .slice none 0 0), (2, .slice none 0 0)]).at 4 rfl) (((HM.out.puts 4 rfl (by decide) [(0, .bool false), (1, .slice none 0 0), (2, .slice none 0 0)]).puts 5 rfl (by decide) [(0, .bool false), (1, .slice none 0 0), (2, .slice none 0 0)]).at 5 rfl) rfl rfl rfl rfl rfl rfl) rfl ?_
  exact ⟨rfl, ((HM.out.puts 4 rfl (by decide) [(0, .bool false), (1, .slice none 0 0), (2, .slice none 0 0)]).puts 5 rfl (by decide) [(0, .bool false), (1, .slice none 0 0), (2, .slice none 0 0)]).m.b⟩
set_option maxRecDepth 100000 in
theorem nFoot (a b c : Pt) (w : World) (ua : PtU a) (ub : PtU b) (uc : PtU c) (hn : ¬ (FinP a ∧ FinP b ∧ FinP c)) :
    Calls Tryz.prog 26 #[pt a, pt b, pt c] w fun e w' => e = .returned (.tuple #[.agg #[.bool false, .slice none 0 0, .slice none 0 0], .agg #[.bool false, .slice none 0 0, .slice none 0 0], .int .i64 220]) ∧ Below w.heap.size w w' := by
  have hu : ∀ p ∈ [a, b, c], PtU p := by intro p h; simp at h; rcases h with rfl | rfl | rfl <;> assumption
  have hx : ∃ p ∈ [a, b, c], ¬ FinP p := Classical.byContradiction fun h => hn (by
    have k : ∀ p ∈ [a, b, c], FinP p := fun p hp => Classical.byContradiction fun e => h ⟨p, hp, e⟩
    exact ⟨k a (by simp), k b (by simp), k c (by simp)⟩)
  have HFI := Lib.hid (fun wz g hp hb => sFiniteNo g 0 [a, b, c] wz hp hb (by simp) hu hx)
  clear hu hx hn ua ub uc
  unfold pt
  have hmm : Bx w.heap.size w (((((w.alloc (.cells #[.int .u64 a.1, .int .u64 a.2] 24)).alloc (.cells #[.int .u64 b.1, .int .u64 b.2] 24)).alloc (.cells #[.int .u64 c.1, .int .u64 c.2] 24)).alloc (.cells #[.bool false, .slice none 0 0, .slice none 0 0] 45)).alloc (.cells #[.bool false, .slice none 0 0, .slice none 0 0] 45)) _ _ := (((((Bx.start w).alloc (.cells #[.int .u64 a.1, .int .u64 a.2] 24 (0, 0))).alloc (.cells #[.int .u64 b.1, .int .u64 b.2] 24 (0, 0))).alloc (.cells #[.int .u64 c.1, .int .u64 c.2] 24 (0, 0))).alloc (.cells #[.bool false, .slice none 0 0, .slice none 0 0] 45 (0, 0))).alloc (.cells #[.bool false, .slice none 0 0, .slice none 0 0] 45 (0, 0))
  go_enter Tryz.func26, Tryz.ntmps26
  go_upto_region 1 with (fail)
  generalize (World.alloc (World.alloc (World.alloc (World.alloc (World.alloc w _) _) _) _) _) = v at *
  (try simp only [List.nil_append, List.cons_append, World.size_alloc, List.set_cons_zero, List.set_cons_succ, putsC, pB, pC, pD] at hmm)
  have HM := Lib.hid hmm
  clear hmm
  obtain ⟨c0_0, c0_1, c0_2, c0_3⟩ := rw2 (HM.out.at 0 rfl)
  obtain ⟨c1_0, c1_1, c1_2, c1_3⟩ := rw2 (HM.out.at 1 rfl)
  obtain ⟨c2_0, c2_1, c2_2, c2_3⟩ := rw2 (HM.out.at 2 rfl)
  have hn : Bx w.heap.size w (World.alloc v (.cells #[.int .u64 a.1, .int .u64 a.2, .int .u64 b.1, .int .u64 b.2, .int .u64 c.1, .int .u64 c.2] 24)) _ _ := (HM.out.alloc (.cells #[.int .u64 a.1, .int .u64 a.2, .int .u64 b.1, .int .u64 b.2, .int .u64 c.1, .int .u64 c.2] 24 (0, 0)))
  (try simp only [List.nil_append, List.cons_append, World.size_alloc, List.set_cons_zero, List.set_cons_succ, putsC, pB, pC, pD] at hn)
  have HN := Lib.hid hn
  clear hn
  have HK := Lib.hid (HFI.out (World.alloc v (.cells #[.int .u64 a.1, .int .u64 a.2, .int .u64 b.1, .int .u64 b.2, .int .u64 c.1, .int .u64 c.2] 24)) _ (pts3 (HN.out.at 5 rfl)) (HN.out.lt 5 rfl))
  ((try dsimp only); repeat (first | go_values | go_skip | go_guarded | go_step | go_upon))
  refine HK.out.mono ?_
  rintro e w0 ⟨rfl, hb⟩
  have hm := (HN.out.keep hb)
  clear HK HM hb c0_0 c0_1 c0_2 c0_3 c1_0 c1_1 c1_2 c1_3 c2_0 c2_1 c2_2 c2_3 HN
  (try simp only [List.nil_append, List.cons_append, World.size_alloc, List.set_cons_zero, List.set_cons_succ, putsC, pB, pC, pD] at hm)
  have HM := Lib.hid hm
  clear hm
  go_upto_region 2 with (fail)
  obtain ⟨c3_0, c3_1, c3_2, c3_3, c3_4, c3_5⟩ := rw3 (HM.out.at 3 rfl)
  obtain ⟨c4_0, c4_1, c4_2, c4_3, c4_4, c4_5⟩ := rw3 (HM.out.at 4 rfl)
  ((try dsimp only); repeat (first | go_values | go_skip | go_guarded | go_step | go_upon))
  refine bodyPost_ret (results_rows2 rfl _ _ (w.heap.size + 1 + 1 + 1) (w.heap.size + 1 + 1 + 1 + 1) _ _ _ _ _ _ _ _ rfl rfl (((HM.out.puts 3 rfl (by decide) [(0, .bool false), (1, .slice none 0 0), (2, .slice none 0 0)]).puts 4 rfl (by decide) [(0, .bool false), (1, .slice none 0 0), (2, .slice none 0 0)]).at 3 rfl) (((HM.out.puts 3 rfl (by decide) [(0, .bool false), (1, .slice none 0 0), (2, .slice none 0 0)]).puts 4 rfl (by decide) [(0, .bool false), (1, .slice none 0 0), (2, .slice none 0 0)]).at 4 rfl) rfl rfl rfl rfl rfl rfl) rfl ?_
  exact ⟨rfl, ((HM.out.puts 3 rfl (by decide) [(0, .bool false), (1, .slice none 0 0), (2, .slice none 0 0)]).puts 4 rfl (by decide) [(0, .bool false), (1, .slice none 0 0), (2, .slice none 0 0)]).m.b⟩
set_option maxRecDepth 100000 in
theorem nFar (a b c : Pt) (w : World) (ua : PtU a) (ub : PtU b) (uc : PtU c) (hn : ¬ (FinP a ∧ FinP b ∧ FinP c)) :
    Calls Tryz.prog 27 #[pt a, pt b, pt c] w fun e w' => e = .returned (.tuple #[.agg #[.bool false, .slice none 0 0, .slice none 0 0], .int .i64 220]) ∧ Below w.heap.size w w' := by
  have hu : ∀ p ∈ [a, b, c], PtU p := by intro p h; simp at h; rcases h with rfl | rfl | rfl <;> assumption
  have hx : ∃ p ∈ [a, b, c], ¬ FinP p := Classical.byContradiction fun h => hn (by
    have k : ∀ p ∈ [a, b, c], FinP p := fun p hp => Classical.byContradiction fun e => h ⟨p, hp, e⟩
    exact ⟨k a (by simp), k b (by simp), k c (by simp)⟩)
  have HFI := Lib.hid (fun wz g hp hb => sFiniteNo g 0 [a, b, c] wz hp hb (by simp) hu hx)
  clear hu hx hn ua ub uc
  unfold pt
  have hmm : Bx w.heap.size w ((((w.alloc (.cells #[.int .u64 a.1, .int .u64 a.2] 24)).alloc (.cells #[.int .u64 b.1, .int .u64 b.2] 24)).alloc (.cells #[.int .u64 c.1, .int .u64 c.2] 24)).alloc (.cells #[.bool false, .slice none 0 0, .slice none 0 0] 45)) _ _ := ((((Bx.start w).alloc (.cells #[.int .u64 a.1, .int .u64 a.2] 24 (0, 0))).alloc (.cells #[.int .u64 b.1, .int .u64 b.2] 24 (0, 0))).alloc (.cells #[.int .u64 c.1, .int .u64 c.2] 24 (0, 0))).alloc (.cells #[.bool false, .slice none 0 0, .slice none 0 0] 45 (0, 0))
  go_enter Tryz.func27, Tryz.ntmps27
  go_upto_region 1 with (fail)
  generalize (World.alloc (World.alloc (World.alloc (World.alloc w _) _) _) _) = v at *
  (try simp only [List.nil_append, List.cons_append, World.size_alloc, List.set_cons_zero, List.set_cons_succ, putsC, pB, pC, pD] at hmm)
  have HM := Lib.hid hmm
  clear hmm
  obtain ⟨c0_0, c0_1, c0_2, c0_3⟩ := rw2 (HM.out.at 0 rfl)
  obtain ⟨c1_0, c1_1, c1_2, c1_3⟩ := rw2 (HM.out.at 1 rfl)
  obtain ⟨c2_0, c2_1, c2_2, c2_3⟩ := rw2 (HM.out.at 2 rfl)
  have hn : Bx w.heap.size w (World.alloc v (.cells #[.int .u64 a.1, .int .u64 a.2, .int .u64 b.1, .int .u64 b.2, .int .u64 c.1, .int .u64 c.2] 24)) _ _ := (HM.out.alloc (.cells #[.int .u64 a.1, .int .u64 a.2, .int .u64 b.1, .int .u64 b.2, .int .u64 c.1, .int .u64 c.2] 24 (0, 0)))
  (try simp only [List.nil_append, List.cons_append, World.size_alloc, List.set_cons_zero, List.set_cons_succ, putsC, pB, pC, pD] at hn)
  have HN := Lib.hid hn
  clear hn
  have HK := Lib.hid (HFI.out (World.alloc v (.cells #[.int .u64 a.1, .int .u64 a.2, .int .u64 b.1, .int .u64 b.2, .int .u64 c.1, .int .u64 c.2] 24)) _ (pts3 (HN.out.at 4 rfl)) (HN.out.lt 4 rfl))
  ((try dsimp only); repeat (first | go_values | go_skip | go_guarded | go_step | go_upon))
  refine HK.out.mono ?_
  rintro e w0 ⟨rfl, hb⟩
  have hm := (HN.out.keep hb)
  clear HK HM hb c0_0 c0_1 c0_2 c0_3 c1_0 c1_1 c1_2 c1_3 c2_0 c2_1 c2_2 c2_3 HN
  (try simp only [List.nil_append, List.cons_append, World.size_alloc, List.set_cons_zero, List.set_cons_succ, putsC, pB, pC, pD] at hm)
  have HM := Lib.hid hm
  clear hm
  go_upto_region 2 with (fail)
  obtain ⟨c3_0, c3_1, c3_2, c3_3, c3_4, c3_5⟩ := rw3 (HM.out.at 3 rfl)
  ((try dsimp only); repeat (first | go_values | go_skip | go_guarded | go_step | go_upon))
  refine bodyPost_ret (results_row_tmp rfl _ _ (w.heap.size + 1 + 1 + 1) _ _ _ _ rfl ((HM.out.puts 3 rfl (by decide) [(0, .bool false), (1, .slice none 0 0), (2, .slice none 0 0)]).at 3 rfl) rfl rfl rfl) rfl ?_
  exact ⟨rfl, (HM.out.puts 3 rfl (by decide) [(0, .bool false), (1, .slice none 0 0), (2, .slice none 0 0)]).m.b⟩
set_option maxRecDepth 100000 in
theorem nPairs (b o : Nat) (ps : List Pt) (w : World) (hp : PtsAt w b o ps) (hb : b < w.heap.size) (hl : ps.length ≤ 512) (hu : ∀ p ∈ ps, PtU p) (hn : ∃ p ∈ ps, ¬ FinP p) :
    Calls Tryz.prog 33 #[.slice (some ⟨b, o, none⟩) ps.length ps.length] w fun e w' => e = .returned (.tuple #[.slice none 0 0, .int .i64 220]) ∧ Below w.heap.size w w' := by
  have HF := Lib.hid (sFiniteNo b o ps w hp hb (by omega) hu hn)
  have hl' : ¬ 512 < ps.length := by omega
  clear hp hu hn
  go_enter Tryz.func33, Tryz.ntmps33
  ((try dsimp only); repeat (first | go_values | go_skip | go_guarded | go_step | go_upon))
  refine HF.out.mono ?_
  rintro e w1 ⟨rfl, hb1⟩
  ((try dsimp only); repeat (first | go_values | go_skip | go_guarded | go_step | go_upon))
  go_ret2
  exact ⟨rfl, hb1⟩
set_option maxRecDepth 100000 in
theorem nPairsLong (A : Option Addr) (n c : Nat) (w : World) (hl : 512 < n) :
    Calls Tryz.prog 33 #[.slice A n c] w fun e w' => e = .returned (.tuple #[.slice none 0 0, .int .i64 240]) ∧ Below w.heap.size w w' := by
  go_enter Tryz.func33, Tryz.ntmps33
  ((try dsimp only); repeat (first | go_values | go_skip | go_guarded | go_step | go_upon))
  go_ret2
  exact ⟨rfl, Below.refl _ _⟩
end Go.Proofs.YtggfppgjabembaaGreatDoor
