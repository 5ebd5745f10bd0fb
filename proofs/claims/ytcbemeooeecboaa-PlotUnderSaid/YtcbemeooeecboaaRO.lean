/- Layer 9, plain: the nodes above a node of a tree; the stack tells them; how wide and how high a tree is. -/
import Derived.Test.YtcbemeooeecboaaRB
namespace Go.Proofs.Tree
variable {N : Type}
/-- The places of the nodes above node i of a tree. -/
def Tr.over : Tr N → Nat → List Nat
  | .n0 _, _ => []
  | .n1 _ _, 0 => []
  | .n1 _ a, i + 1 => 0 :: (a.over i).map (1 + ·)
  | .n2 _ _ _, 0 => []
  | .n2 _ a b, i + 1 => if i < a.len then 0 :: (a.over i).map (1 + ·) else 0 :: (b.over (i - a.len)).map (1 + a.len + ·)
theorem len1 (x : N) (a : Tr N) : (Tr.n1 x a).len = a.len + 1 := by simp [Tr.len, Tr.flat]
theorem len2 (x : N) (a b : Tr N) : (Tr.n2 x a b).len = a.len + b.len + 1 := by simp [Tr.len, Tr.flat]
theorem len0 (x : N) : (Tr.n0 x).len = 1 := rfl
theorem lenp (t : Tr N) : 0 < t.len := t.len_pos
/-- The one above comes ahead; above it are the others. -/
theorem over_last (t : Tr N) : ∀ i, i < t.len → ∀ q p, t.over i = q ++ [p] → p < i ∧ t.over p = q := by
  induction t with
  | n0 x => intro i _ q p h; cases i <;> simp [Tr.over] at h
  | n1 x a ih =>
    intro i hi q p h
    cases i with
    | zero => simp [Tr.over] at h
    | succ i =>
      rw [len1] at hi
      simp only [Tr.over] at h
      rcases List.eq_nil_or_concat (a.over i) with e | ⟨q', p', e⟩
      · rw [e] at h
        cases q with
        | nil => simp at h; subst h; exact ⟨by omega, rfl⟩
        | cons y q => simp at h
      · rw [List.concat_eq_append] at e
        have e2 : 0 :: (a.over i).map (1 + ·) = (0 :: q'.map (1 + ·)) ++ [1 + p'] := by rw [e]; simp
        rw [e2] at h
        have h3 := List.append_inj_left' h rfl
        have h4 := List.append_inj_right' h rfl
        injection h4 with h4
        obtain ⟨i1, i2⟩ := ih i (by omega) q' p' e
        refine ⟨by omega, ?_⟩
        rw [← h4, ← h3, show 1 + p' = p' + 1 by omega]
        simp only [Tr.over, i2]
  | n2 x a b iha ihb =>
    intro i hi q p h
    cases i with
    | zero => simp [Tr.over] at h
    | succ i =>
      rw [len2] at hi
      by_cases hia : i < a.len
      · simp only [Tr.over, if_pos hia] at h
        rcases List.eq_nil_or_concat (a.over i) with e | ⟨q', p', e⟩
        · rw [e] at h
          cases q with
          | nil => simp at h; subst h; exact ⟨by omega, rfl⟩
          | cons y q => simp at h
        · rw [List.concat_eq_append] at e
          have e2 : 0 :: (a.over i).map (1 + ·) = (0 :: q'.map (1 + ·)) ++ [1 + p'] := by rw [e]; simp
          rw [e2] at h
          have h3 := List.append_inj_left' h rfl
          have h4 := List.append_inj_right' h rfl
          injection h4 with h4
          obtain ⟨i1, i2⟩ := iha i (by omega) q' p' e
          refine ⟨by omega, ?_⟩
          rw [← h4, ← h3, show 1 + p' = p' + 1 by omega]
          simp only [Tr.over, if_pos (show p' < a.len by omega), i2]
      · simp only [Tr.over, if_neg hia] at h
        rcases List.eq_nil_or_concat (b.over (i - a.len)) with e | ⟨q', p', e⟩
        · rw [e] at h
          cases q with
          | nil => simp at h; subst h; exact ⟨by omega, rfl⟩
          | cons y q => simp at h
        · rw [List.concat_eq_append] at e
          have e2 : 0 :: (b.over (i - a.len)).map (1 + a.len + ·) = (0 :: q'.map (1 + a.len + ·)) ++ [1 + a.len + p'] := by rw [e]; simp
          rw [e2] at h
          have h3 := List.append_inj_left' h rfl
          have h4 := List.append_inj_right' h rfl
          injection h4 with h4
          obtain ⟨i1, i2⟩ := ihb (i - a.len) (by omega) q' p' e
          refine ⟨by omega, ?_⟩
          rw [← h4, ← h3, show 1 + a.len + p' = (a.len + p') + 1 by omega]
          simp only [Tr.over, if_neg (show ¬ a.len + p' < a.len by omega), show a.len + p' - a.len = p' by omega, i2]
theorem over_ne (t : Tr N) (i : Nat) (h0 : 0 < i) (hi : i < t.len) : t.over i ≠ [] := by
  obtain ⟨i, rfl⟩ : ∃ m, i = m + 1 := ⟨i - 1, by omega⟩
  cases t with
  | n0 x => rw [len0] at hi; omega
  | n1 x a => simp [Tr.over]
  | n2 x a b => unfold Tr.over; split <;> simp
theorem over_zero (t : Tr N) : t.over 0 = [] := by cases t <;> rfl
theorem over_dep (t : Tr N) : (∀ i, i < t.len → (t.over i).length + 1 ≤ t.dep) ∧ ∃ i, i < t.len ∧ (t.over i).length + 1 = t.dep := by
  induction t with
  | n0 x => exact ⟨fun i _ => by simp [Tr.over, Tr.dep], 0, by rw [len0]; omega, rfl⟩
  | n1 x a ih =>
    obtain ⟨h1, i0, h2, h3⟩ := ih
    refine ⟨fun i hi => ?_, i0 + 1, by rw [len1]; omega, by simp [Tr.over, Tr.dep]; omega⟩
    cases i with
    | zero => simp [Tr.over, Tr.dep]
    | succ i => rw [len1] at hi; have := h1 i (by omega); simp [Tr.over, Tr.dep]; omega
  | n2 x a b iha ihb =>
    obtain ⟨h1, i0, h2, h3⟩ := iha
    obtain ⟨g1, j0, g2, g3⟩ := ihb
    refine ⟨fun i hi => ?_, ?_⟩
    · cases i with
      | zero => simp [Tr.over, Tr.dep]
      | succ i =>
        rw [len2] at hi
        unfold Tr.over
        split
        · rename_i hia; have := h1 i hia; simp [Tr.dep]; omega
        · rename_i hia; have := g1 (i - a.len) (by omega); simp [Tr.dep]; omega
    · by_cases hab : b.dep ≤ a.dep
      · refine ⟨i0 + 1, by rw [len2]; omega, ?_⟩
        simp only [Tr.over, if_pos h2, List.length_cons, List.length_map, Tr.dep]; omega
      · refine ⟨a.len + j0 + 1, by rw [len2]; omega, ?_⟩
        simp only [Tr.over, if_neg (show ¬ a.len + j0 < a.len by omega), show a.len + j0 - a.len = j0 by omega, List.length_cons, List.length_map, Tr.dep]; omega
/-- The size of the tree with which a row begins. -/
theorem size_flat (k : N → Int) (t : Tr N) (r : List N) (h : t.ok k) : size k (t.flat ++ r) = t.len := by
  unfold size; rw [tree_of k t r h]
theorem drop_two (a b : List N) (j : Nat) (h : a.length ≤ j) : (a ++ b).drop j = b.drop (j - a.length) := by
  rw [List.drop_append, List.drop_eq_nil_of_le h, List.nil_append]
theorem sub_le (k : N → Int) (t : Tr N) (h : t.ok k) : ∀ (j : Nat) (r : List N), j < t.len → j + size k ((t.flat ++ r).drop j) ≤ t.len := by
  induction t with
  | n0 x =>
    intro j r hj
    rw [len0] at hj
    have e : j = 0 := by omega
    subst e
    rw [List.drop_zero, size_flat k _ r h, len0]; omega
  | n1 x a ih =>
    intro j r hj
    cases j with
    | zero => rw [List.drop_zero, size_flat k _ r h]; omega
    | succ j =>
      rw [len1] at hj ⊢
      have := ih h.2 j r (by omega)
      have e : ((Tr.n1 x a).flat ++ r).drop (j + 1) = (a.flat ++ r).drop j := rfl
      rw [e]; omega
  | n2 x a b iha ihb =>
    intro j r hj
    cases j with
    | zero => rw [List.drop_zero, size_flat k _ r h]; omega
    | succ j =>
      rw [len2] at hj ⊢
      have e : ((Tr.n2 x a b).flat ++ r).drop (j + 1) = (a.flat ++ (b.flat ++ r)).drop j := by simp [Tr.flat]
      rw [e]
      by_cases hja : j < a.len
      · have := iha h.2.1 j (b.flat ++ r) hja; omega
      · rw [drop_two _ _ _ (show a.flat.length ≤ j by unfold Tr.len at hja; omega)]
        have hl : a.flat.length = a.len := rfl
        rw [hl]
        have := ihb h.2.2 (j - a.len) r (by omega); omega
/-- The reference's way: those whose trees reach beyond i. -/
def ov (k : N → Int) (l : List N) (i m : Nat) : List Nat := (List.range m).filter fun j => decide (i < j + size k (l.drop j))
theorem ov_over (k : N → Int) (t : Tr N) (h : t.ok k) : ∀ (i : Nat) (r : List N), i < t.len → ov k (t.flat ++ r) i i = t.over i := by
  induction t with
  | n0 x => intro i r hi; rw [len0] at hi; have e : i = 0 := by omega
            subst e; rfl
  | n1 x a ih =>
    intro i r hi
    cases i with
    | zero => rfl
    | succ i =>
      have hw : size k ((Tr.n1 x a).flat ++ r) = (Tr.n1 x a).len := size_flat k _ r h
      rw [len1] at hi hw
      have := ih h.2 i r (by omega)
      unfold ov at this ⊢
      rw [List.range_succ_eq_map, List.filter_cons, List.drop_zero, hw, if_pos (by simp; omega), List.filter_map]
      simp only [Tr.over]
      rw [← this]
      congr 1
      rw [show (fun x => 1 + x) = Nat.succ from funext fun x => by omega]
      congr 1
      apply List.filter_congr
      intro j _
      have e : ((Tr.n1 x a).flat ++ r).drop (j + 1) = (a.flat ++ r).drop j := rfl
      simp only [Function.comp, Nat.succ_eq_add_one, e]
      rw [decide_eq_decide]; omega
  | n2 x a b iha ihb =>
    intro i r hi
    cases i with
    | zero => rfl
    | succ i =>
      have hw : size k ((Tr.n2 x a b).flat ++ r) = (Tr.n2 x a b).len := size_flat k _ r h
      rw [len2] at hi hw
      have e : ∀ j, ((Tr.n2 x a b).flat ++ r).drop (j + 1) = (a.flat ++ (b.flat ++ r)).drop j := fun j => by simp [Tr.flat]
      unfold ov
      rw [List.range_succ_eq_map, List.filter_cons, List.drop_zero, hw, if_pos (by simp; omega), List.filter_map]
      have e3 : ((fun j => decide (i + 1 < j + size k (((Tr.n2 x a b).flat ++ r).drop j))) ∘ Nat.succ) = fun j => decide (i < j + size k ((a.flat ++ (b.flat ++ r)).drop j)) := by
        funext j
        simp only [Function.comp, Nat.succ_eq_add_one, e]
        rw [decide_eq_decide]; omega
      rw [e3]
      by_cases hia : i < a.len
      · have := iha h.2.1 i (b.flat ++ r) hia
        unfold ov at this
        simp only [Tr.over, if_pos hia]
        rw [this, show (fun x => 1 + x) = Nat.succ from funext fun x => by omega]
      · obtain ⟨m, rfl⟩ : ∃ m, i = a.len + m := ⟨i - a.len, by omega⟩
        have := ihb h.2.2 m r (by omega)
        unfold ov at this
        simp only [Tr.over, if_neg hia, show a.len + m - a.len = m by omega]
        rw [List.range_add, List.filter_append, List.filter_map]
        have f1 : (List.range a.len).filter (fun j => decide (a.len + m < j + size k ((a.flat ++ (b.flat ++ r)).drop j))) = [] := by
          rw [List.filter_eq_nil_iff]
          intro j hj
          have := sub_le k a h.2.1 j (b.flat ++ r) (List.mem_range.1 hj)
          simp; omega
        have f2 : ((fun j => decide (a.len + m < j + size k ((a.flat ++ (b.flat ++ r)).drop j))) ∘ fun x => a.len + x) = fun j => decide (m < j + size k ((b.flat ++ r).drop j)) := by
          funext j
          simp only [Function.comp]
          rw [drop_two _ _ _ (show a.flat.length ≤ a.len + j by have : a.flat.length = a.len := rfl; omega)]
          have hl : a.flat.length = a.len := rfl
          rw [hl, show a.len + j - a.len = j by omega, decide_eq_decide]; omega
        rw [f1, f2, List.nil_append, this, List.map_map]
        congr 1
        apply List.map_congr_left
        intro x _
        simp only [Function.comp, Nat.succ_eq_add_one]; omega
/-- The machine goes through a tree. -/
theorem dec_fst (s : Stk) : (dec s).map Prod.fst = s.map Prod.fst := by cases s <;> rfl
theorem st_tree (k : N → Int) (t : Tr N) (h : t.ok k) : ∀ (L : List Int) (p : Nat) (rest : List Int), L.drop p = t.flat.map k ++ rest →
    (st L (p + t.len)).1 = popz (dec (st L p).1) ∧ ∀ i, i < t.len → (st L (p + i)).1.map Prod.fst = ((t.over i).reverse.map fun q => ((p + q : Nat) : Int)) ++ (st L p).1.map Prod.fst := by
  have hget : ∀ (L : List Int) (p : Nat) (x : Int) (r : List Int), L.drop p = x :: r → L.getD p 0 = x ∧ L.drop (p + 1) = r := fun L p x r h => by
    have hp : p < L.length := by
      rcases Nat.lt_or_ge p L.length with h1 | h1
      · exact h1
      · rw [List.drop_eq_nil_of_le h1] at h; cases h
    rw [List.drop_eq_getElem_cons hp] at h
    injection h with h1 h2
    exact ⟨by rw [List.getD_eq_getElem?_getD, List.getElem?_eq_getElem hp]; exact h1, h2⟩
  induction t with
  | n0 x =>
    intro L p rest hL
    obtain ⟨h1, _⟩ := hget L p (k x) rest hL
    have ha : ar (k x) = 0 := h
    refine ⟨?_, fun i hi => ?_⟩
    · show stepS p (L.getD p 0) (st L p).1 = _
      rw [h1]; unfold stepS; rw [ha, if_neg (by decide), if_pos rfl]
    · rw [len0] at hi
      have e : i = 0 := by omega
      subst e; simp [Tr.over]
  | n1 x a ih =>
    intro L p rest hL
    have ha : ar (k x) = 1 := h.1
    obtain ⟨h1, h2⟩ := hget L p (k x) (a.flat.map k ++ rest) (by rw [hL]; rfl)
    have hs : (st L (p + 1)).1 = ((p : Int), 1) :: dec (st L p).1 := by
      show stepS p (L.getD p 0) (st L p).1 = _
      rw [h1]; unfold stepS; rw [ha, if_pos (by decide)]
    obtain ⟨i1, i2⟩ := ih h.2 L (p + 1) rest h2
    refine ⟨?_, fun i hi => ?_⟩
    · rw [len1, show p + (a.len + 1) = p + 1 + a.len by omega, i1, hs]
      show popz (((p : Int), 1 - 1) :: dec (st L p).1) = _
      unfold popz; rw [if_pos (by decide)]; 
      cases hd : dec (st L p).1 <;> simp [popz]
    · cases i with
      | zero => simp [Tr.over]
      | succ i =>
        rw [len1] at hi
        rw [show p + (i + 1) = p + 1 + i by omega, i2 i (by omega), hs]
        simp only [Tr.over, List.reverse_cons, List.map_append, List.map_cons, List.map_nil, dec_fst, List.append_assoc, List.singleton_append, Nat.add_zero, List.map_reverse, List.map_map]
        congr 2
        apply List.map_congr_left
        intro q _
        simp only [Function.comp]; congr 1; omega
  | n2 x a b iha ihb =>
    intro L p rest hL
    have ha : ar (k x) = 2 := h.1
    obtain ⟨h1, h2⟩ := hget L p (k x) (a.flat.map k ++ (b.flat.map k ++ rest)) (by rw [hL]; simp [Tr.flat])
    have hs : (st L (p + 1)).1 = ((p : Int), 2) :: dec (st L p).1 := by
      show stepS p (L.getD p 0) (st L p).1 = _
      rw [h1]; unfold stepS; rw [ha, if_pos (by decide)]
    obtain ⟨i1, i2⟩ := iha h.2.1 L (p + 1) _ h2
    have h3 : L.drop (p + 1 + a.len) = b.flat.map k ++ rest := by
      rw [← List.drop_drop, h2, drop_two _ _ _ (by rw [List.length_map]; exact Nat.le_refl _), List.length_map]
      have hl : a.flat.length = a.len := rfl
      rw [hl, Nat.sub_self, List.drop_zero]
    have hs2 : (st L (p + 1 + a.len)).1 = ((p : Int), 1) :: dec (st L p).1 := by
      rw [i1, hs]
      show popz (((p : Int), 2 - 1) :: dec (st L p).1) = _
      unfold popz; rw [if_neg (by decide)]; rfl
    obtain ⟨j1, j2⟩ := ihb h.2.2 L (p + 1 + a.len) rest h3
    refine ⟨?_, fun i hi => ?_⟩
    · rw [len2, show p + (a.len + b.len + 1) = p + 1 + a.len + b.len by omega, j1, hs2]
      show popz (((p : Int), 1 - 1) :: dec (st L p).1) = _
      unfold popz; rw [if_pos (by decide)]
      cases hd : dec (st L p).1 <;> simp [popz]
    · cases i with
      | zero => simp [Tr.over]
      | succ i =>
        rw [len2] at hi
        by_cases hia : i < a.len
        · rw [show p + (i + 1) = p + 1 + i by omega, i2 i hia, hs]
          simp only [Tr.over, if_pos hia, List.reverse_cons, List.map_append, List.map_cons, List.map_nil, dec_fst, List.append_assoc, List.singleton_append, Nat.add_zero, List.map_reverse, List.map_map]
          congr 2
          apply List.map_congr_left
          intro q _
          simp only [Function.comp]; congr 1; omega
        · obtain ⟨m, rfl⟩ : ∃ m, i = a.len + m := ⟨i - a.len, by omega⟩
          rw [show p + (a.len + m + 1) = p + 1 + a.len + m by omega, j2 m (by omega), hs2]
          simp only [Tr.over, if_neg hia, show a.len + m - a.len = m by omega, List.reverse_cons, List.map_append, List.map_cons, List.map_nil, dec_fst, List.append_assoc, List.singleton_append, Nat.add_zero, List.map_reverse, List.map_map]
          congr 2
          apply List.map_congr_left
          intro q _
          simp only [Function.comp]; congr 1; omega
end Go.Proofs.Tree
