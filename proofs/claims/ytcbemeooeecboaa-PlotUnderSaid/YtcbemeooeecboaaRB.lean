/- Layer 9, plain: the stack with which the nodes of a row are gone through, and the spots. -/
import Derived.Test.YtcbemeooeecboaaMT
namespace Go.Proofs.Tree
/-- The open nodes, the last one first: the place, and how many trees are still to come behind it. -/
abbrev Stk := List (Int × Int)
def dec : Stk → Stk
  | [] => []
  | (p, l) :: r => (p, l - 1) :: r
def popz : Stk → Stk
  | [] => []
  | (p, l) :: r => if l = 0 then popz r else (p, l) :: r
def stepS (k : Nat) (c : Int) (s : Stk) : Stk := if 0 < ar c then ((k : Int), ar c) :: dec s else if ar c = 0 then popz (dec s) else dec s
def stepX (c : Int) (x : Nat) : Nat := if 0 < ar c then x else x + 1
/-- The stack, and how many leaves have come, when j nodes are gone through. -/
def st (l : List Int) : Nat → Stk × Nat
  | 0 => ([], 0)
  | j + 1 => (stepS j (l.getD j 0) (st l j).1, stepX (l.getD j 0) (st l j).2)
def topOf : Stk → Int
  | [] => -1
  | (p, _) :: _ => p
theorem popz_len (s : Stk) : (popz s).length ≤ s.length := by
  induction s with
  | nil => exact Nat.le_refl _
  | cons x r ih =>
    obtain ⟨p, l⟩ := x
    unfold popz
    split
    · simp only [List.length_cons]; omega
    · exact Nat.le_refl _
theorem dec_len (s : Stk) : (dec s).length = s.length := by cases s <;> rfl
theorem st_len (l : List Int) (j : Nat) : (st l j).1.length ≤ j := by
  induction j with
  | zero => exact Nat.le_refl _
  | succ j ih =>
    show (stepS j _ _).length ≤ _
    unfold stepS
    split
    · simp only [List.length_cons, dec_len]; omega
    · split
      · have := popz_len (dec (st l j).1); rw [dec_len] at this; omega
      · rw [dec_len]; omega
theorem st_leaves (l : List Int) (j : Nat) : (st l j).2 ≤ j := by
  induction j with
  | zero => exact Nat.le_refl _
  | succ j ih =>
    show stepX _ _ ≤ _
    unfold stepX
    split <;> omega
/-- The numbers on the stack are small. -/
def Small (j : Nat) (s : Stk) : Prop := ∀ x ∈ s, 0 ≤ x.1 ∧ x.1 < (j : Int) ∧ -(j : Int) ≤ x.2 ∧ x.2 ≤ 2
theorem Small.dec {j : Nat} {s : Stk} (h : Small j s) : Small (j + 1) (dec s) := by
  intro x hx
  cases s with
  | nil => cases hx
  | cons y r =>
    obtain ⟨p, l⟩ := y
    rcases List.mem_cons.1 hx with rfl | hx
    · have := h (p, l) (List.mem_cons_self); simp only at this ⊢; omega
    · have := h x (List.mem_cons_of_mem _ hx); omega
theorem popz_mem {s : Stk} {x : Int × Int} (h : x ∈ popz s) : x ∈ s := by
  induction s with
  | nil => cases h
  | cons y r ih =>
    obtain ⟨p, l⟩ := y
    unfold popz at h
    split at h
    · exact List.mem_cons_of_mem _ (ih h)
    · exact h
theorem st_small (l : List Int) (j : Nat) : Small j (st l j).1 := by
  induction j with
  | zero => intro x hx; cases hx
  | succ j ih =>
    show Small (j + 1) (stepS j _ _)
    unfold stepS
    split
    · intro x hx
      rcases List.mem_cons.1 hx with rfl | hx
      · have := ar_le (l.getD j 0); simp only; omega
      · exact ih.dec x hx
    · split
      · intro x hx; exact ih.dec x (popz_mem hx)
      · exact ih.dec
end Go.Proofs.Tree
