/- Rows of nodes as trees: plain theory, without a program. -/
import Derived.RowKit
namespace Go.Proofs.Tree
/-- How many trees a node of a kind has behind it. -/
def ar (a : Int) : Int := if a = 1 ∨ a = 2 ∨ a = 3 ∨ a = 4 ∨ a = 11 then 0 else if a = 9 ∨ a = 14 then 1 else if a = 5 ∨ a = 6 ∨ a = 7 ∨ a = 8 ∨ a = 10 ∨ a = 12 ∨ a = 13 then 2 else -1
theorem ar_is (a : Int) : ar a = 0 ∨ ar a = 1 ∨ ar a = 2 ∨ ar a = -1 := by unfold ar; (repeat' split) <;> simp
theorem ar_le (a : Int) : -1 ≤ ar a ∧ ar a ≤ 2 := by rcases ar_is a with h | h | h | h <;> rw [h] <;> decide
theorem ar0 {c : Int} (h : ar c = 0) : c = 1 ∨ c = 2 ∨ c = 3 ∨ c = 4 ∨ c = 11 := by
  by_cases h1 : c = 1 ∨ c = 2 ∨ c = 3 ∨ c = 4 ∨ c = 11
  · exact h1
  · unfold ar at h; rw [if_neg h1] at h; split at h <;> (try split at h) <;> cases h
theorem ar1 {c : Int} (h : ar c = 1) : c = 9 ∨ c = 14 := by
  by_cases h1 : c = 9 ∨ c = 14
  · exact h1
  · unfold ar at h; rw [if_neg h1] at h; split at h <;> (try split at h) <;> cases h
theorem ar2 {c : Int} (h : ar c = 2) : c = 5 ∨ c = 6 ∨ c = 7 ∨ c = 8 ∨ c = 10 ∨ c = 12 ∨ c = 13 := by
  by_cases h1 : c = 5 ∨ c = 6 ∨ c = 7 ∨ c = 8 ∨ c = 10 ∨ c = 12 ∨ c = 13
  · exact h1
  · unfold ar at h; rw [if_neg h1] at h; split at h <;> (try split at h) <;> cases h
inductive Tr (N : Type) where
  | n0 (x : N)
  | n1 (x : N) (a : Tr N)
  | n2 (x : N) (a b : Tr N)
variable {N : Type}
def Tr.flat : Tr N → List N
  | .n0 x => [x]
  | .n1 x a => x :: a.flat
  | .n2 x a b => x :: (a.flat ++ b.flat)
def Tr.root : Tr N → N
  | .n0 x => x
  | .n1 x _ => x
  | .n2 x _ _ => x
def Tr.dep : Tr N → Nat
  | .n0 _ => 1
  | .n1 _ a => a.dep + 1
  | .n2 _ a b => max a.dep b.dep + 1
def Tr.kids : Tr N → List (Tr N)
  | .n0 _ => []
  | .n1 _ a => [a]
  | .n2 _ a b => [a, b]
def Tr.len (t : Tr N) : Nat := t.flat.length
/-- The nodes have as many trees as they should. -/
def Tr.ok (k : N → Int) : Tr N → Prop
  | .n0 x => ar (k x) = 0
  | .n1 x a => ar (k x) = 1 ∧ a.ok k
  | .n2 x a b => ar (k x) = 2 ∧ a.ok k ∧ b.ok k
/-- The tree with which a row begins, and what is behind it. -/
def par (k : N → Int) : Nat → List N → Option (Tr N × List N)
  | 0, _ => none
  | _ + 1, [] => none
  | f + 1, x :: r =>
    if ar (k x) = 0 then some (.n0 x, r)
    else if ar (k x) = 1 then match par k f r with | some (a, r1) => some (.n1 x a, r1) | none => none
    else if ar (k x) = 2 then match par k f r with | some (a, r1) => (match par k f r1 with | some (b, r2) => some (.n2 x a b, r2) | none => none) | none => none
    else none
theorem par_sound (k : N → Int) (f : Nat) : ∀ (l : List N) (t : Tr N) (r : List N), par k f l = some (t, r) → t.ok k ∧ l = t.flat ++ r := by
  induction f with
  | zero => intro l t r h; simp [par] at h
  | succ f ih =>
    intro l t r h
    cases l with
    | nil => simp [par] at h
    | cons x l =>
      unfold par at h
      by_cases h0 : ar (k x) = 0
      · rw [if_pos h0] at h
        injection h with h; injection h with h1 h2; subst h1; subst h2
        exact ⟨h0, rfl⟩
      · rw [if_neg h0] at h
        by_cases h1 : ar (k x) = 1
        · rw [if_pos h1] at h
          cases e : par k f l with
          | none => rw [e] at h; cases h
          | some p =>
            obtain ⟨a, r1⟩ := p
            rw [e] at h
            injection h with h; injection h with h3 h4; subst h3; subst h4
            obtain ⟨i1, i2⟩ := ih _ _ _ e
            exact ⟨⟨h1, i1⟩, by rw [i2]; rfl⟩
        · rw [if_neg h1] at h
          by_cases h2 : ar (k x) = 2
          · rw [if_pos h2] at h
            cases e : par k f l with
            | none => rw [e] at h; cases h
            | some p =>
              obtain ⟨a, r1⟩ := p
              rw [e] at h
              dsimp only at h
              cases e2 : par k f r1 with
              | none => rw [e2] at h; cases h
              | some p2 =>
                obtain ⟨b, r2⟩ := p2
                rw [e2] at h
                injection h with h; injection h with h3 h4; subst h3; subst h4
                obtain ⟨i1, i2⟩ := ih _ _ _ e
                obtain ⟨j1, j2⟩ := ih _ _ _ e2
                exact ⟨⟨h2, i1, j1⟩, by rw [i2, j2]; simp [Tr.flat]⟩
          · rw [if_neg h2] at h; cases h
theorem Tr.len_pos (t : Tr N) : 0 < t.flat.length := by cases t <;> simp [Tr.flat]
theorem par_complete (k : N → Int) (t : Tr N) : ∀ (f : Nat) (r : List N), t.ok k → t.flat.length ≤ f → par k f (t.flat ++ r) = some (t, r) := by
  induction t with
  | n0 x =>
    intro f r h hf
    obtain ⟨f, rfl⟩ : ∃ g, f = g + 1 := ⟨f - 1, by simp [Tr.flat] at hf; omega⟩
    show par k (f + 1) (x :: r) = _
    unfold par
    have h0 : ar (k x) = 0 := h
    rw [if_pos h0]
  | n1 x a ih =>
    intro f r h hf
    have hf' : a.flat.length + 1 ≤ f := by simpa [Tr.flat] using hf
    obtain ⟨f, rfl⟩ : ∃ g, f = g + 1 := ⟨f - 1, by omega⟩
    show par k (f + 1) (x :: (a.flat ++ r)) = _
    unfold par
    have h1 : ar (k x) = 1 := h.1
    rw [if_neg (by rw [h1]; decide), if_pos h1, ih f r h.2 (by omega)]
  | n2 x a b iha ihb =>
    intro f r h hf
    have hf' : a.flat.length + b.flat.length + 1 ≤ f := by simpa [Tr.flat] using hf
    obtain ⟨f, rfl⟩ : ∃ g, f = g + 1 := ⟨f - 1, by omega⟩
    have e : Tr.flat (.n2 x a b) ++ r = x :: (a.flat ++ (b.flat ++ r)) := by simp [Tr.flat]
    rw [e]
    unfold par
    have h1 : ar (k x) = 2 := h.1
    rw [if_neg (by rw [h1]; decide), if_neg (by rw [h1]; decide), if_pos h1, iha f _ h.2.1 (by omega)]
    dsimp only
    rw [ihb f r h.2.2 (by omega)]
theorem Tr.uniq (k : N → Int) {t t' : Tr N} {r r' : List N} (h : t.ok k) (h' : t'.ok k) (e : t.flat ++ r = t'.flat ++ r') : t = t' ∧ r = r' := by
  have a := par_complete k t (t.flat.length + t'.flat.length) r h (by omega)
  have b := par_complete k t' (t.flat.length + t'.flat.length) r' h' (by omega)
  rw [e, b] at a
  injection a with a; injection a with a1 a2
  exact ⟨a1.symm, a2.symm⟩
/-- The tree of a row. -/
def tree (k : N → Int) (l : List N) : Option (Tr N × List N) := par k l.length l
theorem tree_some (k : N → Int) {l : List N} {t : Tr N} {r : List N} (h : tree k l = some (t, r)) : t.ok k ∧ l = t.flat ++ r := par_sound k _ _ _ _ h
theorem tree_of (k : N → Int) (t : Tr N) (r : List N) (h : t.ok k) : tree k (t.flat ++ r) = some (t, r) := par_complete k t _ r h (by simp)
theorem tree_of' (k : N → Int) (t : Tr N) (h : t.ok k) : tree k t.flat = some (t, []) := by
  have := tree_of k t [] h; rwa [List.append_nil] at this
/-- With more rounds than nodes nothing changes. -/
theorem par_tree (k : N → Int) (f : Nat) (l : List N) (hf : l.length ≤ f) : par k f l = tree k l := by
  cases e : tree k l with
  | some p =>
    obtain ⟨t, r⟩ := p
    obtain ⟨h1, h2⟩ := tree_some k e
    subst h2
    exact par_complete k t f r h1 (by simp at hf; omega)
  | none =>
    cases e2 : par k f l with
    | none => rfl
    | some p =>
      obtain ⟨t, r⟩ := p
      obtain ⟨h1, h2⟩ := par_sound k _ _ _ _ e2
      subst h2
      rw [tree_of k t r h1] at e
      cases e
/-- How many nodes the tree has, and how deep it is; 0: there is none. -/
def size (k : N → Int) (l : List N) : Nat := match tree k l with | some (t, _) => t.len | none => 0
def depth (k : N → Int) (l : List N) : Nat := match tree k l with | some (t, _) => t.dep | none => 0
/-- One step of the tree of a row. -/
theorem tree_nil (k : N → Int) : tree k [] = none := rfl
theorem tree_cons (k : N → Int) (x : N) (l : List N) : tree k (x :: l) =
    if ar (k x) = 0 then some (.n0 x, l)
    else if ar (k x) = 1 then match tree k l with | some (a, r1) => some (.n1 x a, r1) | none => none
    else if ar (k x) = 2 then match tree k l with | some (a, r1) => (match tree k r1 with | some (b, r2) => some (.n2 x a b, r2) | none => none) | none => none
    else none := by
  unfold tree
  show par k (l.length + 1) (x :: l) = _
  conv => lhs; unfold par
  cases e : par k l.length l with
  | none => rfl
  | some p =>
    obtain ⟨a, r1⟩ := p
    have h2 := (par_sound k _ _ _ _ e).2
    have : r1.length ≤ l.length := by rw [h2]; simp
    dsimp only
    rw [par_tree k l.length r1 this]
    rfl
theorem size_le (k : N → Int) (l : List N) : size k l ≤ l.length := by
  unfold size
  cases e : tree k l with
  | none => simp
  | some p => obtain ⟨t, r⟩ := p; have := (tree_some k e).2; subst this; simp [Tr.len]
theorem depth_le (k : N → Int) (l : List N) : depth k l ≤ size k l := by
  have hd : ∀ t : Tr N, t.dep ≤ t.flat.length := by
    intro t
    induction t with
    | n0 x => simp [Tr.dep, Tr.flat]
    | n1 x a ih => simp [Tr.dep, Tr.flat]; omega
    | n2 x a b iha ihb => simp [Tr.dep, Tr.flat]; omega
  unfold depth size
  cases e : tree k l with
  | none => simp
  | some p => obtain ⟨t, r⟩ := p; exact hd t
end Go.Proofs.Tree
/- How many nodes the first tree of a row has, counted with the trees that are still to come: plain theory. -/
namespace Go.Proofs.Tree
open Go.RowKit
variable {N : Type}
/-- The nodes that are left, how many trees are still to come, the place. -/
def szw (k : N → Int) : List N → Int → Int → Int
  | [], _, _ => 0
  | x :: r, o, j => if ar (k x) < 0 then 0 else if wrap64 (o + wrap64 (ar (k x) - 1)) = 0 then wrap64 (j + 1) else szw k r (wrap64 (o + wrap64 (ar (k x) - 1))) (wrap64 (j + 1))
theorem wrap_in (n : Int) (h0 : -9223372036854775808 ≤ n) (h1 : n < 9223372036854775808) : wrap64 n = n := by unfold wrap64; omega
theorem szw_step (k : N → Int) (x : N) (r : List N) (o j : Int) : szw k (x :: r) o j = if ar (k x) < 0 then 0 else if wrap64 (o + wrap64 (ar (k x) - 1)) = 0 then wrap64 (j + 1) else szw k r (wrap64 (o + wrap64 (ar (k x) - 1))) (wrap64 (j + 1)) := rfl
theorem szw_cons (k : N → Int) (x : N) (r : List N) (o j : Nat) (ho : o < 4611686018427387904) (hj : j < 4611686018427387904) :
    szw k (x :: r) ((o : Int) + 1) j = if ar (k x) = 0 then (if o = 0 then ((j + 1 : Nat) : Int) else szw k r (o : Int) ((j + 1 : Nat) : Int)) else if ar (k x) = 1 then szw k r ((o : Int) + 1) ((j + 1 : Nat) : Int) else if ar (k x) = 2 then szw k r (((o + 1 : Nat) : Int) + 1) ((j + 1 : Nat) : Int) else 0 := by
  have ej : wrap64 ((j : Int) + 1) = ((j + 1 : Nat) : Int) := by unfold wrap64; omega
  rw [szw_step, ej]
  rcases ar_is (k x) with h | h | h | h
  · have e0 : wrap64 ((0 : Int) - 1) = -1 := by decide
    rw [h, e0, if_neg (by decide : ¬ (0 : Int) < 0), if_pos rfl]
    have e1 : wrap64 ((o : Int) + 1 + -1) = o := by unfold wrap64; omega
    rw [e1]
    by_cases z : o = 0
    · rw [if_pos (by omega), if_pos z]
    · rw [if_neg (by omega), if_neg z]
  · have e0 : wrap64 ((1 : Int) - 1) = 0 := by decide
    rw [h, e0, if_neg (by decide : ¬ (1 : Int) < 0), if_neg (by decide : ¬ (1 : Int) = 0), if_pos rfl]
    have e1 : wrap64 ((o : Int) + 1 + 0) = (o : Int) + 1 := by unfold wrap64; omega
    rw [e1, if_neg (by omega)]
  · have e0 : wrap64 ((2 : Int) - 1) = 1 := by decide
    rw [h, e0, if_neg (by decide : ¬ (2 : Int) < 0), if_neg (by decide : ¬ (2 : Int) = 0), if_neg (by decide : ¬ (2 : Int) = 1), if_pos rfl]
    have e1 : wrap64 ((o : Int) + 1 + 1) = ((o + 1 : Nat) : Int) + 1 := by unfold wrap64; omega
    rw [e1, if_neg (by omega)]
  · rw [h, if_pos (by decide), if_neg (by decide), if_neg (by decide), if_neg (by decide)]
theorem szw_tree (k : N → Int) (f : Nat) : ∀ (l : List N) (o j : Nat), l.length ≤ f → 2 * l.length + o + j < 4611686018427387904 →
    szw k l ((o : Int) + 1) j = match tree k l with | some (t, r) => if o = 0 then ((j + t.len : Nat) : Int) else szw k r (o : Int) ((j + t.len : Nat) : Int) | none => 0 := by
  induction f with
  | zero =>
    intro l o j h _
    have : l = [] := List.eq_nil_of_length_eq_zero (by omega)
    subst this; rfl
  | succ f ih =>
    intro l o j h hb
    cases l with
    | nil => rfl
    | cons x l =>
      simp only [List.length_cons] at h hb
      rw [szw_cons k x l o j (by omega) (by omega), tree_cons]
      by_cases h0 : ar (k x) = 0
      · rw [if_pos h0, if_pos h0]; rfl
      rw [if_neg h0, if_neg h0]
      by_cases h1 : ar (k x) = 1
      · rw [if_pos h1, if_pos h1, ih l o (j + 1) (by omega) (by omega)]
        cases e : tree k l with
        | none => rfl
        | some p =>
          obtain ⟨a, r1⟩ := p
          dsimp only
          have : (Tr.n1 x a).len = a.len + 1 := rfl
          rw [this, show j + 1 + a.len = j + (a.len + 1) by omega]
      rw [if_neg h1, if_neg h1]
      by_cases h2 : ar (k x) = 2
      · rw [if_pos h2, if_pos h2, ih l (o + 1) (j + 1) (by omega) (by omega)]
        cases e : tree k l with
        | none => rfl
        | some p =>
          obtain ⟨a, r1⟩ := p
          have hl := (tree_some k e).2
          have hlen : l.length = a.len + r1.length := by rw [hl, List.length_append]; rfl
          dsimp only
          rw [if_neg (by omega)]
          have := ih r1 o (j + 1 + a.len) (by omega) (by omega)
          rw [show ((o + 1 : Nat) : Int) = (o : Int) + 1 by omega, this]
          cases e2 : tree k r1 with
          | none => rfl
          | some p2 =>
            obtain ⟨b, r2⟩ := p2
            dsimp only
            have : (Tr.n2 x a b).len = a.len + b.len + 1 := by simp [Tr.len, Tr.flat]
            rw [this, show j + 1 + a.len + b.len = j + (a.len + b.len + 1) by omega]
      · rw [if_neg h2, if_neg h2]
theorem szw_size (k : N → Int) (l : List N) (hl : l.length < 2305843009213693952) : szw k l 1 0 = (size k l : Int) := by
  have := szw_tree k l.length l 0 0 (by omega) (by omega)
  rw [show ((0 : Nat) : Int) + 1 = 1 by rfl, show ((0 : Nat) : Int) = 0 by rfl] at this
  rw [this]
  unfold size
  cases e : tree k l with
  | none => rfl
  | some p => obtain ⟨t, r⟩ := p; simp
end Go.Proofs.Tree
/- The sorts of trees: plain theory. -/
namespace Go.Proofs.Tree
variable {N : Type}
/-- A sort's, of what goes on. -/
def onS (s : Int) : Int := if s = 1 ∨ s = 2 then s + 2 else s
def bothS (a b : Int) : Int := if onS a ≠ onS b then 0 else max a b
def behindS (a b t : Int) : Int := if b ≠ t ∨ onS a ≠ onS t then 0 else a
/-- The sort of a node with the sorts of its kids. -/
def s0 (c : Int) : Int := if c = 1 ∨ c = 2 ∨ c = 3 ∨ c = 4 then 1 else if c = 11 then 3 else 0
def s1 (c a : Int) : Int := if a = 0 then 0 else if c = 9 then (if onS a = 4 then a - 1 else 0) else if c = 14 then (if a = 1 then 4 else 0) else 0
def s2 (c a b : Int) : Int :=
  if a = 0 ∨ b = 0 then 0
  else if c = 6 then (if a > 2 ∨ b > 2 then 0 else bothS a b)
  else if c = 7 then bothS a b
  else if c = 5 then max (behindS a b 1) (behindS a b 2)
  else if c = 8 then behindS a b 1
  else if c = 10 then (if a = 1 ∧ b = 1 then 2 else 0)
  else if c = 12 then (if onS a = 3 ∧ b = 1 then 4 else 0)
  else if c = 13 then (if onS a = 4 ∧ b = 1 then 4 else 0)
  else 0
def Tr.srt (k : N → Int) : Tr N → Int
  | .n0 x => s0 (k x)
  | .n1 x a => s1 (k x) (a.srt k)
  | .n2 x a b => s2 (k x) (a.srt k) (b.srt k)
theorem s0_in (c : Int) : 0 ≤ s0 c ∧ s0 c ≤ 4 := by unfold s0; (repeat' split) <;> omega
theorem s1_in (c a : Int) (h : 0 ≤ a ∧ a ≤ 4) : 0 ≤ s1 c a ∧ s1 c a ≤ 4 := by unfold s1; (repeat' split) <;> omega
theorem behindS_in (a b t : Int) (h : 0 ≤ a ∧ a ≤ 4) : 0 ≤ behindS a b t ∧ behindS a b t ≤ 4 := by unfold behindS; split <;> omega
theorem bothS_in (a b : Int) (h : 0 ≤ a ∧ a ≤ 4) (h' : 0 ≤ b ∧ b ≤ 4) : 0 ≤ bothS a b ∧ bothS a b ≤ 4 := by unfold bothS; split <;> omega
theorem s2_in (c a b : Int) (h : 0 ≤ a ∧ a ≤ 4) (h' : 0 ≤ b ∧ b ≤ 4) : 0 ≤ s2 c a b ∧ s2 c a b ≤ 4 := by
  have h1 := behindS_in a b 1 h
  have h2 := behindS_in a b 2 h
  have h3 := bothS_in a b h h'
  unfold s2
  (repeat' split) <;> omega
theorem Tr.srt_in (k : N → Int) (t : Tr N) : 0 ≤ t.srt k ∧ t.srt k ≤ 4 := by
  induction t with
  | n0 x => exact s0_in _
  | n1 x a ih => exact s1_in _ _ ih
  | n2 x a b iha ihb => exact s2_in _ _ _ iha ihb
/-- Is a tree of a sort, by definition: of a node with what its kids are. -/
def i0 (c : Int) (s : Nat) : Bool := if s = 1 then decide (c = 1 ∨ c = 2 ∨ c = 3 ∨ c = 4) else if s = 2 then false else if s = 3 then decide (c = 1 ∨ c = 2 ∨ c = 3 ∨ c = 4) || decide (c = 11) else false
def i1 (c : Int) (a : Nat → Bool) (s : Nat) : Bool :=
  if s = 1 then decide (c = 9) && a 2
  else if s = 2 then false
  else if s = 3 then (decide (c = 9) && a 2) || (decide (c = 9) && a 4)
  else decide (c = 14) && a 1
def i2 (c : Int) (a b : Nat → Bool) (s : Nat) : Bool :=
  let pl := decide (c = 5 ∨ c = 6 ∨ c = 7 ∨ c = 8) && (a 1 && b 1)
  let pa := if c = 10 then a 1 && b 1 else decide (c = 5 ∨ c = 6 ∨ c = 7) && (a 2 && b 2)
  if s = 1 then pl
  else if s = 2 then pa
  else if s = 3 then pl || (if c = 5 ∨ c = 8 then a 3 && b 1 else decide (c = 7) && (a 3 && b 3))
  else pa || (if c = 12 then a 3 && b 1 else if c = 5 then a 4 && b 2 else if c = 7 then a 4 && b 4 else decide (c = 13) && (a 4 && b 1))
def Tr.is (k : N → Int) : Tr N → Nat → Bool
  | .n0 x => i0 (k x)
  | .n1 x a => i1 (k x) (a.is k)
  | .n2 x a b => i2 (k x) (a.is k) (b.is k)
/-- What 'is' says of a sort that is known. -/
def says (v : Int) (s : Nat) : Bool := if s = 1 then decide (v = 1) else if s = 2 then decide (v = 2) else if s = 3 then decide (v = 1 ∨ v = 3) else decide (v = 2 ∨ v = 4)
theorem five (v : Int) (h : 0 ≤ v ∧ v ≤ 4) : v = 0 ∨ v = 1 ∨ v = 2 ∨ v = 3 ∨ v = 4 := by omega
theorem says0 (c : Int) (hc : ar c = 0) (s : Nat) (hs : 1 ≤ s ∧ s ≤ 4) : i0 c s = says (s0 c) s := by
  have hc' : c = 1 ∨ c = 2 ∨ c = 3 ∨ c = 4 ∨ c = 11 := ar0 hc
  have hs' : s = 1 ∨ s = 2 ∨ s = 3 ∨ s = 4 := by omega
  rcases hc' with rfl | rfl | rfl | rfl | rfl <;> rcases hs' with rfl | rfl | rfl | rfl <;> decide
theorem says1 (c v : Int) (hc : ar c = 1) (hv : 0 ≤ v ∧ v ≤ 4) (s : Nat) (hs : 1 ≤ s ∧ s ≤ 4) : i1 c (says v) s = says (s1 c v) s := by
  have hc' : c = 9 ∨ c = 14 := ar1 hc
  have hs' : s = 1 ∨ s = 2 ∨ s = 3 ∨ s = 4 := by omega
  rcases hc' with rfl | rfl <;> rcases hs' with rfl | rfl | rfl | rfl <;> rcases five v hv with rfl | rfl | rfl | rfl | rfl <;> decide
theorem says2 (c v u : Int) (hc : ar c = 2) (hv : 0 ≤ v ∧ v ≤ 4) (hu : 0 ≤ u ∧ u ≤ 4) (s : Nat) (hs : 1 ≤ s ∧ s ≤ 4) : i2 c (says v) (says u) s = says (s2 c v u) s := by
  have hc' : c = 5 ∨ c = 6 ∨ c = 7 ∨ c = 8 ∨ c = 10 ∨ c = 12 ∨ c = 13 := ar2 hc
  have hs' : s = 1 ∨ s = 2 ∨ s = 3 ∨ s = 4 := by omega
  rcases hc' with rfl | rfl | rfl | rfl | rfl | rfl | rfl <;> rcases hs' with rfl | rfl | rfl | rfl <;> rcases five v hv with rfl | rfl | rfl | rfl | rfl <;> rcases five u hu with rfl | rfl | rfl | rfl | rfl <;> decide
theorem i1_congr (c : Int) (a a' : Nat → Bool) (h : ∀ s, 1 ≤ s ∧ s ≤ 4 → a s = a' s) (s : Nat) : i1 c a s = i1 c a' s := by unfold i1; rw [h 1 (by omega), h 2 (by omega), h 4 (by omega)]
theorem i2_congr (c : Int) (a a' b b' : Nat → Bool) (h : ∀ s, 1 ≤ s ∧ s ≤ 4 → a s = a' s) (h' : ∀ s, 1 ≤ s ∧ s ≤ 4 → b s = b' s) (s : Nat) : i2 c a b s = i2 c a' b' s := by
  unfold i2; rw [h 1 (by omega), h 2 (by omega), h 3 (by omega), h 4 (by omega), h' 1 (by omega), h' 2 (by omega), h' 3 (by omega), h' 4 (by omega)]
/-- The sort as the program finds it is the one by definition. -/
theorem Tr.is_srt (k : N → Int) (t : Tr N) : t.ok k → ∀ s, 1 ≤ s ∧ s ≤ 4 → t.is k s = says (t.srt k) s := by
  induction t with
  | n0 x => intro h s hs; exact says0 _ h s hs
  | n1 x a ih =>
    intro h s hs
    show i1 (k x) (a.is k) s = _
    rw [i1_congr _ _ _ (ih h.2) s]
    exact says1 _ _ h.1 (a.srt_in k) s hs
  | n2 x a b iha ihb =>
    intro h s hs
    show i2 (k x) (a.is k) (b.is k) s = _
    rw [i2_congr _ _ _ _ _ (iha h.2.1) (ihb h.2.2) s]
    exact says2 _ _ _ h.1 (a.srt_in k) (b.srt_in k) s hs
/-- The first sort that fits. -/
def firstS (f : Nat → Bool) : Int := if f 1 then 1 else if f 2 then 2 else if f 3 then 3 else if f 4 then 4 else 0
theorem firstS_says (v : Int) (h : 0 ≤ v ∧ v ≤ 4) : firstS (says v) = v := by
  rcases five v h with rfl | rfl | rfl | rfl | rfl <;> rfl
theorem Tr.first_srt (k : N → Int) (t : Tr N) (h : t.ok k) : firstS (t.is k) = t.srt k := by
  have e := t.is_srt k h
  unfold firstS
  rw [e 1 (by omega), e 2 (by omega), e 3 (by omega), e 4 (by omega)]
  exact firstS_says _ (t.srt_in k)
/-- What goes on: nodes of these kinds. -/
def goes (c : Int) : Bool := decide (c = 11 ∨ c = 12 ∨ c = 13 ∨ c = 14)
def Tr.any (p : N → Bool) : Tr N → Bool
  | .n0 x => p x
  | .n1 x a => p x || a.any p
  | .n2 x a b => p x || (a.any p || b.any p)
theorem Tr.any_flat (p : N → Bool) (t : Tr N) : t.flat.any p = t.any p := by
  induction t with
  | n0 x => simp [Tr.flat, Tr.any]
  | n1 x a ih => simp [Tr.flat, Tr.any, ih]
  | n2 x a b iha ihb => simp [Tr.flat, Tr.any, iha, ihb]
theorem g0 (c : Int) (hc : ar c = 0) : (s0 c = 1 ∨ s0 c = 2 → goes c = false) ∧ (s0 c = 3 ∨ s0 c = 4 → goes c = true) := by
  have hc' : c = 1 ∨ c = 2 ∨ c = 3 ∨ c = 4 ∨ c = 11 := ar0 hc
  rcases hc' with rfl | rfl | rfl | rfl | rfl <;> decide
theorem g1 (c v : Int) (hc : ar c = 1) (hv : 0 ≤ v ∧ v ≤ 4) (g : Bool) (h : (v = 1 ∨ v = 2 → g = false) ∧ (v = 3 ∨ v = 4 → g = true)) : (s1 c v = 1 ∨ s1 c v = 2 → (goes c || g) = false) ∧ (s1 c v = 3 ∨ s1 c v = 4 → (goes c || g) = true) := by
  have hc' : c = 9 ∨ c = 14 := ar1 hc
  revert h
  rcases hc' with rfl | rfl <;> rcases five v hv with rfl | rfl | rfl | rfl | rfl <;> revert g <;> decide
theorem g2 (c v u : Int) (hc : ar c = 2) (hv : 0 ≤ v ∧ v ≤ 4) (hu : 0 ≤ u ∧ u ≤ 4) (g g' : Bool) (h : (v = 1 ∨ v = 2 → g = false) ∧ (v = 3 ∨ v = 4 → g = true)) (h' : (u = 1 ∨ u = 2 → g' = false) ∧ (u = 3 ∨ u = 4 → g' = true)) :
    (s2 c v u = 1 ∨ s2 c v u = 2 → (goes c || (g || g')) = false) ∧ (s2 c v u = 3 ∨ s2 c v u = 4 → (goes c || (g || g')) = true) := by
  have hc' : c = 5 ∨ c = 6 ∨ c = 7 ∨ c = 8 ∨ c = 10 ∨ c = 12 ∨ c = 13 := ar2 hc
  revert h h'
  rcases hc' with rfl | rfl | rfl | rfl | rfl | rfl | rfl <;> rcases five v hv with rfl | rfl | rfl | rfl | rfl <;> rcases five u hu with rfl | rfl | rfl | rfl | rfl <;> revert g g' <;> decide
theorem Tr.goes_srt (k : N → Int) (t : Tr N) : t.ok k → (t.srt k = 1 ∨ t.srt k = 2 → t.any (fun x => goes (k x)) = false) ∧ (t.srt k = 3 ∨ t.srt k = 4 → t.any (fun x => goes (k x)) = true) := by
  induction t with
  | n0 x => intro h; exact g0 _ h
  | n1 x a ih => intro h; exact g1 _ _ h.1 (a.srt_in k) _ (ih h.2)
  | n2 x a b iha ihb => intro h; exact g2 _ _ _ h.1 (a.srt_in k) (b.srt_in k) _ _ (iha h.2.1) (ihb h.2.2)
end Go.Proofs.Tree
