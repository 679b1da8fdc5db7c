/- seg.Meet's answer: finite, lawful. -/
import Derived.Test.YtggfppgjabembaaGreatDoorKJ
import Derived.Test.YtggfppgjabembaaGreatDoorKI
namespace Go.Proofs.YtggfppgjabembaaGreatDoor
open Go.RowKit
set_option linter.unusedVariables false
def fo (a b c d : Pt) : Obj := .cells #[.int .u64 a.1, .int .u64 a.2, .int .u64 b.1, .int .u64 b.2, .int .u64 c.1, .int .u64 c.2, .int .u64 d.1, .int .u64 d.2] 26 (0, 0)
def mo (m : Mt) : Obj := .cells #[.int .i64 m.kind, .bool m.proper, .int .u64 m.P.1, .int .u64 m.P.2, .int .u64 m.Q.1, .int .u64 m.Q.2] 29 (0, 0)
def zo : Obj := .cells #[.bool false, .slice none 0 0, .slice none 0 0] 45 (0, 0)
theorem Mem.four8 {n : Nat} {w0 w : World} {a b c d : Pt} (h : Mem n w0 w [(n, fo a b c d)] []) (A B C D : Pt) :
    Mem n w0 (((((((((w.setCell ⟨n, 0, none⟩ (.int .u64 A.1)).setCell ⟨n, 1, none⟩ (.int .u64 A.2)).setCell ⟨n, 2, none⟩ (.int .u64 B.1)).setCell ⟨n, 3, none⟩ (.int .u64 B.2)).setCell ⟨n, 4, none⟩ (.int .u64 C.1)).setCell ⟨n, 5, none⟩ (.int .u64 C.2)).setCell ⟨n, 6, none⟩ (.int .u64 D.1)).setCell ⟨n, 7, none⟩ (.int .u64 D.2))) [(n, fo A B C D)] [] := by
  refine ⟨eight_below h.b (Nat.le_refl _), ?_, fun i g o e => ?_, fun i X Y q e => by simp at e⟩
  · simp only [setCell_size]; exact h.z
  · match i, e with
    | 0, e => cases e; exact eight_at (h.l 0 _ _ rfl) _ _ _ _ _ _ _ _
theorem Mem.add {n : Nat} {w0 w : World} {L : List (Nat × Obj)} {R : List (Option Addr × Option Addr × Rat)} (h : Mem n w0 w L R) {g : Nat} {o : Obj} (e : w.heap[g]? = some o) : Mem n w0 w (L ++ [(g, o)]) R := by
  refine ⟨h.b, h.z, fun i g' o' e' => ?_, h.r⟩
  rcases getElem?_snoc e' with e' | ⟨_, e'⟩
  · exact h.l i g' o' e'
  · cases e'; exact e
end Go.Proofs.YtggfppgjabembaaGreatDoor

namespace Go.Proofs.YtggfppgjabembaaGreatDoor
open Go.RowKit
set_option linter.unusedVariables false
set_option linter.unusedSimpArgs false
theorem meetR_pts (X s0 s1 t0 t1 : Pt) (P : Pt → Prop) (h0 : P (0, 0)) (h1 : P s0) (h2 : P s1) (h3 : P t0) (h4 : P t1) (hX : sideP s0 s1 t0 * sideP s0 s1 t1 < 0 → sideP t0 t1 s0 * sideP t0 t1 s1 < 0 → P X) :
    P (meetR X s0 s1 t0 t1).P ∧ P (meetR X s0 s1 t0 t1).Q := by
  have hl : P (loops s0 s1 t0 t1).P ∧ P (loops s0 s1 t0 t1).Q := by
    unfold loops touch apartM
    (repeat' split) <;> exact ⟨by assumption, by assumption⟩
  have hr : ∀ a b : Pt, P a → P b → P (riseR a b).1 ∧ P (riseR a b).2 := by
    intro a b ha hb
    unfold riseR; split
    · exact ⟨hb, ha⟩
    · exact ⟨ha, hb⟩
  have ha : ∀ r0 r1 q0 q1 : Pt, P r0 → P r1 → P q0 → P q1 → P (alongR r0 r1 q0 q1).P ∧ P (alongR r0 r1 q0 q1).Q := by
    intro r0 r1 q0 q1 a1 a2 a3 a4
    have l : P (lowR r0 q0) := by unfold lowR; split <;> assumption
    have u : P (highR r1 q1) := by unfold highR; split <;> assumption
    unfold alongR touch apartM
    (repeat' split) <;> exact ⟨by assumption, by assumption⟩
  unfold meetR
  split
  · exact hl
  · split
    · exact ha _ _ _ _ (hr _ _ h1 h2).1 (hr _ _ h1 h2).2 (hr _ _ h3 h4).1 (hr _ _ h3 h4).2
    · split
      · rename_i h; exact ⟨hX h.1 h.2, h0⟩
      · exact hl
theorem meetM_fin {a b c d : Pt} (fa : FinP a) (fb : FinP b) (fc : FinP c) (fd : FinP d) : FinP (meetM a b c d).P ∧ FinP (meetM a b c d).Q := by
  have z : ∀ p : Pt, FinP p → FinP (zp p) := fun p h => ⟨zed_fin h.1, zed_fin h.2⟩
  refine meetR_pts _ _ _ _ _ FinP (fin_of 0 0 (by decide)) (z _ fa) (z _ fb) (z _ fc) (z _ fd) (fun h1 h2 => ?_)
  obtain ⟨g1, g2⟩ := crossFit (zp a) (zp b) (zp c) (zp d) (z _ fa) (z _ fb) (z _ fc) (z _ fd) h1 h2
  exact ⟨(nearR_ok g1).2, (nearR_ok g2).2⟩
theorem meetM_law {a b c d : Pt} (fa : FinP a) (fb : FinP b) (fc : FinP c) (fd : FinP d) : MeetLaw (meetM a b c d) (zp a) (zp b) (zp c) (zp d) :=
  meet_law (good_zp fa.1 fa.2) (good_zp fb.1 fb.2) (good_zp fc.1 fc.2) (good_zp fd.1 fd.2)
theorem sideP_zp (a b c : Pt) : sideP (zp a) (zp b) (zp c) = sideP a b c := by unfold sideP; rw [pl_zp, pl_zp, pl_zp]
theorem btwP_zp (a b c : Pt) : btwP (zp a) (zp b) (zp c) = btwP a b c := by unfold btwP; rw [pl_zp, pl_zp, pl_zp]
theorem placeB_zp (a b : Pt) : placeB (zp a) b = placeB a b := by unfold placeB; rw [pl_zp]
theorem placeB_self (a : Pt) : placeB a a = true := decide_eq_true rfl
theorem meetM_point (f t e : Pt) (hf : FinP f) (ht : FinP t) (he : FinP e) : meetM f t e e = if btwP f t e = true then ⟨1, false, zp e, (0, 0)⟩ else ⟨0, false, (0, 0), (0, 0)⟩ := by
  have := meet_point (meetX (zp f) (zp t) (zp e) (zp e)) (zp f) (zp t) (zp e) (good_zp hf.1 hf.2) (good_zp ht.1 ht.2) (good_zp he.1 he.2)
  unfold meetM
  rw [this, btwP_zp]
  rfl
end Go.Proofs.YtggfppgjabembaaGreatDoor
