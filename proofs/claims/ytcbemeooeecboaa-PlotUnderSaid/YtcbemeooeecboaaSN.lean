/- Layer 9, plain: a tree below one node more; two beside one another. -/
import Derived.Test.YtcbemeooeecboaaSF
namespace Go.Proofs.Ytcbemeooeecboaa.Rng
open Go Go.RowKit Go.Proofs.Tree Go.Proofs.Flt Go.Proofs.YtcbemeooeecboaaW.PrintWords Go.Proofs.Ytcbemeooeecboaa.PK
set_option linter.unusedVariables false
theorem getD_app_left (L1 L2 : List Int) (k : Nat) (h : k < L1.length) : (L1 ++ L2).getD k 0 = L1.getD k 0 := by
  rw [List.getD_eq_getElem?_getD, List.getD_eq_getElem?_getD, List.getElem?_append_left h]
theorem getD_app_right (L1 L2 : List Int) (k : Nat) : (L1 ++ L2).getD (L1.length + k) 0 = L2.getD k 0 := by
  rw [List.getD_eq_getElem?_getD, List.getD_eq_getElem?_getD, List.getElem?_append_right (by omega), Nat.add_sub_cancel_left]
theorem leafN_cons (c : Int) (L : List Int) (hc : ar c ≠ 0) (k : Nat) : leafN (c :: L) (k + 1) = leafN L k := by
  induction k with
  | zero => show (if ar ((c :: L).getD 0 0) = 0 then _ else _) = 0
            rw [if_neg (by simpa using hc)]; rfl
  | succ k ih =>
    have e : leafN (c :: L) (k + 1 + 1) = if ar ((c :: L).getD (k + 1) 0) = 0 then leafN (c :: L) (k + 1) + 1 else leafN (c :: L) (k + 1) := rfl
    have e2 : leafN L (k + 1) = if ar (L.getD k 0) = 0 then leafN L k + 1 else leafN L k := rfl
    rw [e, e2, ih]
    rfl
theorem leafN_left (L1 L2 : List Int) (k : Nat) (h : k ≤ L1.length) : leafN (L1 ++ L2) k = leafN L1 k := by
  induction k with
  | zero => rfl
  | succ k ih =>
    have e : leafN (L1 ++ L2) (k + 1) = if ar ((L1 ++ L2).getD k 0) = 0 then leafN (L1 ++ L2) k + 1 else leafN (L1 ++ L2) k := rfl
    have e2 : leafN L1 (k + 1) = if ar (L1.getD k 0) = 0 then leafN L1 k + 1 else leafN L1 k := rfl
    rw [e, e2, ih (by omega), getD_app_left _ _ _ (by omega)]
theorem leafN_right (L1 L2 : List Int) (k : Nat) : leafN (L1 ++ L2) (L1.length + k) = leafN L1 L1.length + leafN L2 k := by
  induction k with
  | zero => rw [Nat.add_zero, leafN_left _ _ _ (Nat.le_refl _)]; rfl
  | succ k ih =>
    have e : leafN (L1 ++ L2) (L1.length + k + 1) = if ar ((L1 ++ L2).getD (L1.length + k) 0) = 0 then leafN (L1 ++ L2) (L1.length + k) + 1 else leafN (L1 ++ L2) (L1.length + k) := rfl
    have e2 : leafN L2 (k + 1) = if ar (L2.getD k 0) = 0 then leafN L2 k + 1 else leafN L2 k := rfl
    rw [show L1.length + (k + 1) = L1.length + k + 1 by omega, e, e2, ih, getD_app_right]
    split <;> omega
def n9 : S44 := ⟨9, ⟨#[]⟩, 0⟩
def n7 : S44 := ⟨7, ⟨#[]⟩, 0⟩
theorem one_below {a : List S44} {t : Tr S44} (h : One' a t) : One' (n9 :: a) (.n1 n9 t) := by
  have hok : (Tr.n1 n9 t).ok S44.f0 := ⟨rfl, h.ok⟩
  have hfl : n9 :: a = (Tr.n1 n9 t).flat := by rw [h.flat]; rfl
  refine ⟨hok, hfl, ?_⟩
  have hs := size_flat S44.f0 (Tr.n1 n9 t) [] hok
  rw [List.append_nil, ← hfl] at hs
  unfold oneB
  rw [hs, hfl]
  simp [Tr.len, Tr.flat]
theorem one_beside {a b : List S44} {s t : Tr S44} (h : One' a s) (k : One' b t) : One' (n7 :: (a ++ b)) (.n2 n7 s t) := by
  have hok : (Tr.n2 n7 s t).ok S44.f0 := ⟨rfl, h.ok, k.ok⟩
  have hfl : n7 :: (a ++ b) = (Tr.n2 n7 s t).flat := by rw [h.flat, k.flat]; rfl
  refine ⟨hok, hfl, ?_⟩
  have hs := size_flat S44.f0 (Tr.n2 n7 s t) [] hok
  rw [List.append_nil, ← hfl] at hs
  unfold oneB
  rw [hs, hfl]
  simp [Tr.len, Tr.flat]
theorem kinds_cons (x : S44) (l : List S44) : kinds (x :: l) = x.f0 :: kinds l := rfl
theorem kinds_app (a b : List S44) : kinds (a ++ b) = kinds a ++ kinds b := List.map_append
theorem kinds_len (a : List S44) : (kinds a).length = a.length := List.length_map ..
/-- Where the nodes of a tree stand below one node more. -/
theorem below_pt {a : List S44} {t : Tr S44} (h : One' a t) (k : Nat) (hk : k < a.length) :
    (st (kinds (n9 :: a)) (k + 1)).2 = (st (kinds a) k).2 ∧ (st (kinds (n9 :: a)) (k + 1)).1.length = (st (kinds a) k).1.length + 1 := by
  have h' := one_below h
  refine ⟨?_, ?_⟩
  · rw [← h'.leaf (k + 1) (by simp; omega), ← h.leaf k (by omega), kinds_cons, leafN_cons _ _ (by decide)]
  · rw [h'.deep (k + 1) (by simp; omega), h.deep k hk]
    simp [Tr.over]
theorem beside_left {a b : List S44} {s t : Tr S44} (h : One' a s) (h2 : One' b t) (k : Nat) (hk : k < a.length) :
    (st (kinds (n7 :: (a ++ b))) (k + 1)).2 = (st (kinds a) k).2 ∧ (st (kinds (n7 :: (a ++ b))) (k + 1)).1.length = (st (kinds a) k).1.length + 1 := by
  have h' := one_beside h h2
  refine ⟨?_, ?_⟩
  · rw [← h'.leaf (k + 1) (by simp; omega), ← h.leaf k (by omega), kinds_cons, leafN_cons _ _ (by decide), kinds_app, leafN_left _ _ _ (by rw [kinds_len]; omega)]
  · rw [h'.deep (k + 1) (by simp; omega), h.deep k hk]
    simp only [Tr.over, if_pos (show k < s.len by rw [← h.len]; exact hk), List.length_cons, List.length_map]
theorem beside_right {a b : List S44} {s t : Tr S44} (h : One' a s) (h2 : One' b t) (k : Nat) (hk : k < b.length) :
    (st (kinds (n7 :: (a ++ b))) (a.length + k + 1)).2 = boxX (kinds a) a.length + (st (kinds b) k).2 ∧ (st (kinds (n7 :: (a ++ b))) (a.length + k + 1)).1.length = (st (kinds b) k).1.length + 1 := by
  have h' := one_beside h h2
  refine ⟨?_, ?_⟩
  · rw [← h'.leaf (a.length + k + 1) (by simp; omega), ← h2.leaf k (by omega), kinds_cons, leafN_cons _ _ (by decide), kinds_app, h.boxX]
    have := leafN_right (kinds a) (kinds b) k
    rw [kinds_len] at this
    exact this
  · rw [h'.deep (a.length + k + 1) (by simp; omega), h2.deep k hk]
    simp only [Tr.over, if_neg (show ¬ a.length + k < s.len by rw [← h.len]; omega), List.length_cons, List.length_map]
    rw [show a.length + k - s.len = k by rw [← h.len]; omega]
end Go.Proofs.Ytcbemeooeecboaa.Rng
