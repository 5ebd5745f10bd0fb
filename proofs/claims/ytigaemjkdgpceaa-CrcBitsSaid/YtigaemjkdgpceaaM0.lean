/- A frame of which one byte outside its length is another one is not opened. -/
import Derived.Test.YtigaemjkdgpceaaG
namespace Go.Proofs.Ytigaemjkdgpceaa
open Go.RowKit Crc PK Ref
set_option linter.unusedVariables false
set_option linter.unusedSimpArgs false

theorem seg_out (l : List Int) (k a b : Nat) (x : Int) (h : k < a ∨ b ≤ k) : ((l.set k x).take b).drop a = (l.take b).drop a := by
  apply List.ext_getElem?
  intro i
  simp only [List.getElem?_drop, List.getElem?_take, List.getElem?_set]
  by_cases h1 : a + i < b
  · rw [if_pos h1, if_pos h1, if_neg (by omega)]
  · rw [if_neg h1, if_neg h1]
theorem seg_in (l : List Int) (k a b : Nat) (x : Int) (h : a ≤ k) (h2 : k < b) (hk : k < l.length) : ((l.set k x).take b).drop a = ((l.take b).drop a).set (k - a) x := by
  apply List.ext_getElem?
  intro i
  simp only [List.getElem?_drop, List.getElem?_take, List.getElem?_set, List.length_drop, List.length_take]
  by_cases h3 : k = a + i
  · subst h3
    simp [h2, hk]
    omega
  · have h4 : ¬ (k - a = i) := by omega
    simp [h3, h4]
theorem getn8_4 (l : List Int) (h : l.length = 4) : getn 8 l = getn 4 l := by
  rw [getn_succ l 7, getn_succ l 6, getn_succ l 5, getn_succ l 4]
  have z : ∀ j, 4 ≤ j → l.getD j 0 = 0 := fun j hj => by rw [List.getD_eq_getElem?_getD, List.getElem?_eq_none (by omega)]; rfl
  rw [z 7 (by omega), z 6 (by omega), z 5 (by omega), z 4 (by omega)]
  simp
theorem set_ne (l : List Int) (k : Nat) (x : Int) (h : k < l.length) (hx : x ≠ l.getD k 0) : l.set k x ≠ l := by
  intro e
  have := congrArg (fun m => m.getD k 0) e
  simp [List.getD_eq_getElem?_getD, h] at this hx
  exact hx this
theorem okb_set (l : List Int) (k : Nat) (x : Int) (hl : okb l = true) (hx : 0 ≤ x ∧ x < 256) : okb (l.set k x) = true := by
  rw [okb_iff] at *
  intro y hy
  rcases List.mem_or_eq_of_mem_set hy with h | h
  · exact hl y h
  · rw [h]; exact hx
theorem cmore_set (s : Nat) (m : List Int) (k : Nat) (x : Int) (hs : s < 4294967296) (h : k < m.length) (hm : okb m = true) (hx : 0 ≤ x ∧ x < 256) (hne : x ≠ m.getD k 0) : cmore s (m.set k x) ≠ cmore s m := by
  have e1 : m.set k x = m.take k ++ x :: m.drop (k + 1) := List.set_eq_take_append_cons_drop .. |>.trans (by rw [if_pos h])
  have e2 : m = m.take k ++ m.getD k 0 :: m.drop (k + 1) := by
    have : m.getD k 0 = m[k] := by simp [List.getD_eq_getElem?_getD, h]
    rw [this, ← List.drop_eq_getElem_cons h, List.take_append_drop]
  have hb := (okb_iff m).1 hm (m.getD k 0) (by
    have : m.getD k 0 = m[k] := by simp [List.getD_eq_getElem?_getD, h]
    rw [this]; exact List.getElem_mem h)
  intro e
  rw [e1] at e
  have e3 : cmore s (m.take k ++ x :: m.drop (k + 1)) = cmore s (m.take k ++ m.getD k 0 :: m.drop (k + 1)) := by rw [e, ← e2]
  exact hne (cmore_one s _ x _ _ hs (okb_take _ _ hm) hx hb (okb_drop _ _ hm) e3)
/-- A frame of which one byte of its number, its sum or its data is another one is not opened. -/
theorem open_bit (n : Nat) (d : List Int) (k : Nat) (x : Int) (hn : n < 18446744073709551616) (hd : okb d = true) (hl : d.length ≤ 2048) (hk : k < (framel n d).length) (h8 : ¬ (8 ≤ k ∧ k < 12)) (hx : 0 ≤ x ∧ x < 256) (hne : x ≠ (framel n d).getD k 0) :
    (openl ((framel n d).set k x)).2.2 = false := by
  have hlen := framel_length n d
  have hcl := cmore_lt (cmore 0 (headl n d)) d (cmore_lt 0 _ (by decide) (headl_okb n d)) hd
  have f12 : (framel n d).take 12 = headl n d := by have := frame_12 n d []; rwa [List.append_nil] at this
  have f16 : ((framel n d).take 16).drop 12 = putl (cmore (cmore 0 (headl n d)) d) 4 := by
    have := frame_16 n d []; rw [List.append_nil] at this; rw [this]; exact drop_at _ _ 12 (headl_length n d)
  have fd : (framel n d).drop 16 = d := by have := frame_d n d []; rwa [List.append_nil, List.append_nil] at this
  have g8 : (((framel n d).set k x).take 12).drop 8 = putl d.length 4 := by rw [seg_out _ _ _ _ _ (by omega), f12, head_8]
  have hok := framel_okb n d hd
  obtain ⟨f, hf⟩ : ∃ f, framel n d = f := ⟨_, rfl⟩
  rw [hf] at hlen f12 f16 fd g8 hok hk hne ⊢
  unfold openl
  rw [g8, getn8_putl4 _ (by omega), List.length_set, if_neg (by omega), if_neg (by omega)]
  split
  · rfl
  rename_i hq
  exfalso
  apply hq
  by_cases hs : 12 ≤ k ∧ k < 16
  · have t12 : (f.set k x).take 12 = headl n d := by
      have := seg_out f k 0 12 x (by omega)
      rwa [List.drop_zero, List.drop_zero, f12] at this
    have td : ((f.set k x).drop 16).take d.length = d := by
      have := seg_out f k 16 (16 + d.length) x (by omega)
      rw [List.drop_take, List.drop_take, show 16 + d.length - 16 = d.length by omega] at this
      rw [this, fd, List.take_length]
    have t4 := seg_in f k 12 16 x hs.1 hs.2 hk
    rw [t12, td, t4, f16]
    intro e
    have hg : (f.take 16).drop 12 = putl (cmore (cmore 0 (headl n d)) d) 4 := f16
    have e1 : cmore (cmore 0 (headl n d)) d = getn 4 (putl (cmore (cmore 0 (headl n d)) d) 4) := by rw [getn_putl 4 _ 4 (by decide), Nat.mod_eq_of_lt (by omega)]
    rw [getn8_4 _ (by rw [List.length_set, putl_length])] at e
    have e2 := getn_inj 4 _ _ (putl_length 4 _) (by rw [List.length_set, putl_length]) (putl_okb 4 _) (okb_set _ _ _ (putl_okb 4 _) hx) (e1.symm.trans e)
    refine set_ne (putl (cmore (cmore 0 (headl n d)) d) 4) (k - 12) x (by rw [putl_length]; omega) ?_ e2.symm
    intro e3
    apply hne
    rw [e3, ← f16]
    simp only [List.getD_eq_getElem?_getD, List.getElem?_drop, List.getElem?_take]
    rw [if_pos (by omega), show 12 + (k - 12) = k by omega]
  · have t4 : ((f.set k x).take 16).drop 12 = putl (cmore (cmore 0 (headl n d)) d) 4 := by rw [seg_out _ _ _ _ _ (by omega), f16]
    rw [t4, getn8_putl4 _ (by omega), cmore_append, cmore_append]
    by_cases hk8 : k < 8
    · have t12 : (f.set k x).take 12 = (headl n d).set k x := by
        have := seg_in f k 0 12 x (by omega) (by omega) hk
        rwa [List.drop_zero, List.drop_zero, f12] at this
      have td : ((f.set k x).drop 16).take d.length = d := by
        have := seg_out f k 16 (16 + d.length) x (by omega)
        rw [List.drop_take, List.drop_take, show 16 + d.length - 16 = d.length by omega] at this
        rw [this, fd, List.take_length]
      have hh := headl_length n d
      rw [t12, td, ← List.set_append_left _ _ (by omega)]
      refine cmore_set 0 _ k x (by decide) (by rw [List.length_append]; omega) (by rw [okb_append, headl_okb, hd]; rfl) hx ?_
      intro e
      apply hne
      rw [e, ← f12]
      simp only [List.getD_eq_getElem?_getD]
      rw [List.getElem?_append_left (by rw [List.length_take]; omega), List.getElem?_take, if_pos (by omega)]
    · have t12 : (f.set k x).take 12 = headl n d := by
        have := seg_out f k 0 12 x (by omega)
        rwa [List.drop_zero, List.drop_zero, f12] at this
      have td : ((f.set k x).drop 16).take d.length = d.set (k - 16) x := by
        have := seg_in f k 16 (16 + d.length) x (by omega) (by omega) hk
        rw [List.drop_take, List.drop_take, show 16 + d.length - 16 = d.length by omega] at this
        rw [this, fd, List.take_length]
      have hh := headl_length n d
      have es : headl n d ++ d.set (k - 16) x = (headl n d ++ d).set (k - 4) x := by
        rw [List.set_append_right _ _ (by omega), hh, show k - 4 - 12 = k - 16 by omega]
      rw [t12, td, es]
      refine cmore_set 0 _ (k - 4) x (by decide) (by rw [List.length_append]; omega) (by rw [okb_append, headl_okb, hd]; rfl) hx ?_
      intro e
      apply hne
      simp only [List.getD_eq_getElem?_getD] at e ⊢
      rw [List.getElem?_append_right (by omega), hh, show k - 4 - 12 = k - 16 by omega, ← fd, List.getElem?_drop, show 16 + (k - 16) = k by omega] at e
      exact e
end Go.Proofs.Ytigaemjkdgpceaa
