/- Layer 9: what the program's functions tell of a tree is what the reference's tell. -/
import Derived.Test.YtcbemeooeecboaaRO
import Derived.Test.YtcbemeooeecboaaSP
namespace Go.Proofs.Ytcbemeooeecboaa.Rng
open Go Go.RowKit Go.Proofs.Tree Go.Proofs.Flt Go.Proofs.YtcbemeooeecboaaW.PrintWords Go.Proofs.Ytcbemeooeecboaa.PK
set_option linter.unusedVariables false
theorem one_tree {l : List S44} (h : oneB l = true) : ∃ t : Tr S44, t.ok S44.f0 ∧ l = t.flat := by
  unfold oneB at h
  simp only [Bool.and_eq_true, decide_eq_true_eq] at h
  obtain ⟨h1, h2⟩ := h
  unfold size at h2
  cases e : tree S44.f0 l with
  | none => rw [e] at h2; simp at h2; omega
  | some p =>
    obtain ⟨t, r⟩ := p
    obtain ⟨h3, h4⟩ := tree_some S44.f0 e
    rw [e] at h2
    simp only at h2
    have : r = [] := by
      apply List.eq_nil_of_length_eq_zero
      have := congrArg List.length h4
      rw [List.length_append] at this
      have hl : t.flat.length = t.len := rfl
      omega
    subst this
    exact ⟨t, h3, by rw [h4, List.append_nil]⟩
theorem ok_ar {N : Type} (k : N → Int) (t : Tr N) (h : t.ok k) : ∀ x ∈ t.flat, 0 ≤ ar (k x) := by
  induction t with
  | n0 y => intro x hx; simp [Tr.flat] at hx; subst hx; have : ar (k x) = 0 := h; omega
  | n1 y a ih =>
    intro x hx
    simp only [Tr.flat, List.mem_cons] at hx
    rcases hx with rfl | hx
    · have : ar (k x) = 1 := h.1; omega
    · exact ih h.2 x hx
  | n2 y a b iha ihb =>
    intro x hx
    simp only [Tr.flat, List.mem_cons, List.mem_append] at hx
    rcases hx with rfl | hx | hx
    · have : ar (k x) = 2 := h.1; omega
    · exact iha h.2.1 x hx
    · exact ihb h.2.2 x hx
theorem leaf_last {N : Type} (k : N → Int) (t : Tr N) (h : t.ok k) : ∃ pre y, t.flat = pre ++ [y] ∧ ar (k y) = 0 := by
  induction t with
  | n0 y => exact ⟨[], y, rfl, h⟩
  | n1 y a ih => obtain ⟨pre, z, h1, h2⟩ := ih h.2; exact ⟨y :: pre, z, by simp [Tr.flat, h1], h2⟩
  | n2 y a b iha ihb => obtain ⟨pre, z, h1, h2⟩ := ihb h.2.2; exact ⟨y :: (a.flat ++ pre), z, by simp [Tr.flat, h1], h2⟩
/-- Of a row that is one tree: the tree. -/
structure One' (l : List S44) (t : Tr S44) : Prop where
  ok : t.ok S44.f0
  flat : l = t.flat
  one : oneB l = true
theorem One'.len {l : List S44} {t : Tr S44} (h : One' l t) : l.length = t.len := by rw [h.flat]; rfl
theorem One'.many {l : List S44} {t : Tr S44} (h : One' l t) : many l = l.length := by unfold Rng.many; rw [h.one]; rfl
theorem one_of {l : List S44} (h : oneB l = true) : ∃ t, One' l t := by
  obtain ⟨t, h1, h2⟩ := one_tree h
  exact ⟨t, h1, h2, h⟩
theorem One'.kinds_ar {l : List S44} {t : Tr S44} (h : One' l t) (j : Nat) (hj : j < l.length) : 0 ≤ ar ((kinds l).getD j 0) := by
  obtain ⟨y, hy⟩ : ∃ y, l[j]? = some y := ⟨_, List.getElem?_eq_getElem hj⟩
  rw [kinds_at hy]
  exact ok_ar _ t h.ok y (by rw [← h.flat]; exact List.mem_of_getElem? hy)
theorem One'.leaf {l : List S44} {t : Tr S44} (h : One' l t) : ∀ k, k ≤ l.length → leafN (kinds l) k = (st (kinds l) k).2 := by
  intro k
  induction k with
  | zero => intro _; rfl
  | succ k ih =>
    intro hk
    have h1 := h.kinds_ar k (by omega)
    show (if ar ((kinds l).getD k 0) = 0 then _ else _) = stepX _ _
    unfold stepX
    rw [← ih (by omega)]
    by_cases h0 : ar ((kinds l).getD k 0) = 0
    · rw [if_pos h0, if_neg (by omega)]
    · rw [if_neg h0, if_pos (by omega)]
theorem One'.stack {l : List S44} {t : Tr S44} (h : One' l t) (k : Nat) (hk : k < l.length) : (st (kinds l) k).1.map Prod.fst = (t.over k).reverse.map fun q : Nat => (q : Int) := by
  have h1 := (st_tree S44.f0 t h.ok (kinds l) 0 [] (by rw [List.drop_zero, List.append_nil]; unfold kinds; rw [h.flat])).2 k (by rw [← h.len]; exact hk)
  rw [Nat.zero_add] at h1
  rw [h1]
  show _ ++ [] = _
  rw [List.append_nil]
  congr 1
  funext q
  rw [Nat.zero_add]
theorem One'.refOver {l : List S44} {t : Tr S44} (h : One' l t) (k : Nat) (hk : k < l.length) : refOver l (k : Int) = (t.over k).map fun q : Nat => (q : Int) := by
  unfold Rng.refOver
  rw [if_pos ⟨h.one, by omega, by omega⟩, Int.toNat_natCast]
  unfold ovl
  have := ov_over S44.f0 t h.ok k [] (by rw [← h.len]; exact hk)
  unfold ov at this
  rw [List.append_nil, ← h.flat] at this
  rw [this]
theorem One'.deep {l : List S44} {t : Tr S44} (h : One' l t) (k : Nat) (hk : k < l.length) : (st (kinds l) k).1.length = (t.over k).length := by
  have := congrArg List.length (h.stack k hk)
  simpa using this
theorem One'.rpt {l : List S44} {t : Tr S44} (h : One' l t) (k : Nat) (hk : k < l.length) : rpt l k = ptV l k := by
  unfold Rng.rpt ptV
  rw [h.leaf k (by omega), h.deep k hk, h.refOver k hk, List.length_map]
theorem rpts (l : List S44) : (List.range (many l)).map (rpt l) = (List.range (many l)).map (ptV l) := by
  cases ho : oneB l with
  | false => have : many l = 0 := by unfold many; rw [ho]; rfl
             rw [this]; simp only [List.range_zero, List.map_nil]
  | true =>
    obtain ⟨t, h⟩ := one_of ho
    apply List.map_congr_left
    intro k hk
    exact h.rpt k (by have := List.mem_range.1 hk; rw [h.many] at this; exact this)
theorem One'.top {l : List S44} {t : Tr S44} (h : One' l t) (k : Nat) (hk : k < l.length) : (t.over k = [] ∧ k = 0 ∧ topOf (st (kinds l) k).1 = -1) ∨ ∃ (q : List Nat) (p : Nat), t.over k = q ++ [p] ∧ topOf (st (kinds l) k).1 = (p : Int) ∧ p < k ∧ t.over p = q := by
  have hs := h.stack k hk
  rcases List.eq_nil_or_concat (t.over k) with e | ⟨q, p, e⟩
  · refine .inl ⟨e, ?_, ?_⟩
    · rcases Nat.eq_zero_or_pos k with h0 | h0
      · exact h0
      · exact absurd e (over_ne t k h0 (by rw [← h.len]; exact hk))
    · rw [e] at hs
      cases hst : (st (kinds l) k).1 with
      | nil => rfl
      | cons y r => rw [hst] at hs; simp at hs
  · rw [List.concat_eq_append] at e
    obtain ⟨h1, h2⟩ := over_last t k (by rw [← h.len]; exact hk) q p e
    refine .inr ⟨q, p, e, ?_, h1, h2⟩
    rw [e] at hs
    cases hst : (st (kinds l) k).1 with
    | nil => rw [hst] at hs; simp at hs
    | cons y r =>
      obtain ⟨a, b⟩ := y
      rw [hst] at hs
      simp at hs
      exact hs.1
theorem One'.up {l : List S44} {t : Tr S44} (h : One' l t) : ∀ (f k : Nat), k ≤ f → k < l.length → up (kinds l) f (topOf (st (kinds l) k).1) = (t.over k).map fun q : Nat => (q : Int) := by
  intro f
  induction f with
  | zero =>
    intro k hf hk
    have e : k = 0 := by omega
    subst e
    rw [over_zero]; rfl
  | succ f ih =>
    intro k hf hk
    rcases h.top k hk with ⟨e, _, e2⟩ | ⟨q, p, e, e2, hp, e3⟩
    · rw [e, e2]; rfl
    · rw [e2]
      conv => lhs; unfold Rng.up
      rw [if_neg (by omega), Int.toNat_natCast, ih p (by omega) (by omega), e3, e, List.map_append]
      rfl
theorem overs (l : List S44) (kv : Int) : overL l (many l) kv = refOver l kv := by
  cases ho : oneB l with
  | false =>
    have : many l = 0 := by unfold many; rw [ho]; rfl
    unfold overL refOver
    rw [this, if_neg (by omega), if_neg (by rw [ho]; simp)]
  | true =>
    obtain ⟨t, h⟩ := one_of ho
    by_cases hk : 0 ≤ kv ∧ kv < (l.length : Int)
    · obtain ⟨k, rfl⟩ : ∃ k : Nat, kv = (k : Int) := ⟨kv.toNat, by omega⟩
      rw [h.refOver k (by omega)]
      unfold overL
      rw [h.many, if_pos hk, Int.toNat_natCast]
      exact h.up k k (Nat.le_refl _) (by omega)
    · unfold overL refOver
      rw [h.many, if_neg hk, if_neg (fun h2 => hk h2.2)]
theorem boxX_ge (L : List Int) (n j : Nat) (hj : j < n) : (st L j).2 + 1 ≤ boxX L n := by
  induction n with
  | zero => omega
  | succ n ih =>
    rw [boxX_succ]
    rcases Nat.lt_or_ge j n with h | h
    · have := ih h; omega
    · have e : j = n := by omega
      subst e; omega
theorem boxY_ge (L : List Int) (n j : Nat) (hj : j < n) : (st L j).1.length + 1 ≤ boxY L n := by
  induction n with
  | zero => omega
  | succ n ih =>
    rw [boxY_succ]
    rcases Nat.lt_or_ge j n with h | h
    · have := ih h; omega
    · have e : j = n := by omega
      subst e; omega
theorem boxX_lub (L : List Int) (n M : Nat) (h : ∀ j, j < n → (st L j).2 + 1 ≤ M) : boxX L n ≤ M := by
  induction n with
  | zero => exact Nat.zero_le _
  | succ n ih => rw [boxX_succ]; have := ih (fun j hj => h j (by omega)); have := h n (by omega); omega
theorem boxY_lub (L : List Int) (n M : Nat) (h : ∀ j, j < n → (st L j).1.length + 1 ≤ M) : boxY L n ≤ M := by
  induction n with
  | zero => exact Nat.zero_le _
  | succ n ih => rw [boxY_succ]; have := ih (fun j hj => h j (by omega)); have := h n (by omega); omega
theorem leafN_mono (L : List Int) {a b : Nat} (h : a ≤ b) : leafN L a ≤ leafN L b := by
  induction b with
  | zero => have : a = 0 := by omega
            subst this; exact Nat.le_refl _
  | succ b ih =>
    rcases Nat.lt_or_ge b a with h1 | h1
    · have : a = b + 1 := by omega
      subst this; exact Nat.le_refl _
    · have := ih h1
      have e : leafN L (b + 1) = if ar (L.getD b 0) = 0 then leafN L b + 1 else leafN L b := rfl
      rw [e]
      split <;> omega
theorem One'.last {l : List S44} {t : Tr S44} (h : One' l t) : ∃ n, l.length = n + 1 ∧ leafN (kinds l) l.length = leafN (kinds l) n + 1 := by
  obtain ⟨pre, y, h1, h2⟩ := leaf_last S44.f0 t h.ok
  rw [← h.flat] at h1
  refine ⟨pre.length, by rw [h1]; simp, ?_⟩
  have e : l.length = pre.length + 1 := by rw [h1]; simp
  rw [e]
  show (if ar ((kinds l).getD pre.length 0) = 0 then _ else _) = _
  rw [kinds_at (y := y) (by rw [h1]; simp), if_pos h2]
theorem One'.boxX {l : List S44} {t : Tr S44} (h : One' l t) : boxX (kinds l) l.length = leafN (kinds l) l.length := by
  obtain ⟨n, h1, h2⟩ := h.last
  apply Nat.le_antisymm
  · apply boxX_lub
    intro j hj
    rw [← h.leaf j (by omega), h2]
    have := leafN_mono (kinds l) (show j ≤ n by omega)
    omega
  · have := boxX_ge (kinds l) l.length n (by omega)
    rw [← h.leaf n (by omega)] at this
    omega
theorem One'.depth {l : List S44} {t : Tr S44} (h : One' l t) : Tree.depth S44.f0 l = t.dep := by
  unfold Tree.depth
  rw [h.flat, tree_of' S44.f0 t h.ok]
theorem One'.boxY {l : List S44} {t : Tr S44} (h : One' l t) : boxY (kinds l) l.length = Tree.depth S44.f0 l := by
  rw [h.depth]
  obtain ⟨h1, i, h2, h3⟩ := over_dep t
  apply Nat.le_antisymm
  · apply boxY_lub
    intro j hj
    rw [h.deep j hj]
    exact h1 j (by rw [← h.len]; exact hj)
  · have := boxY_ge (kinds l) l.length i (by rw [h.len]; exact h2)
    rw [h.deep i (by rw [h.len]; exact h2)] at this
    omega
theorem boxes (l : List S44) : rbox l = .complex .f64 (flt (boxX (kinds l) (many l) : Int)) (flt (boxY (kinds l) (many l) : Int)) := by
  cases ho : oneB l with
  | false =>
    have : many l = 0 := by unfold many; rw [ho]; rfl
    unfold rbox
    rw [this, if_pos rfl, ← flt0]
    rfl
  | true =>
    obtain ⟨t, h⟩ := one_of ho
    unfold rbox
    rw [h.many, if_neg (by rw [h.len]; have := lenp t; omega), h.boxX, h.boxY]
    rfl
end Go.Proofs.Ytcbemeooeecboaa.Rng
