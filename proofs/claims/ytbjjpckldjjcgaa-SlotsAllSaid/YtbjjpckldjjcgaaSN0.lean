/- Numbers saved in turn, the last one's writing cut: the plain law. -/
import Derived.Test.YtbjjpckldjjcgaaSM
namespace Go.Proofs.Ytbjjpckldjjcgaa
set_option linter.unusedVariables false
set_option linter.unusedSimpArgs false
namespace Disk
namespace Slots
theorem getn_zero (k : Nat) : ∀ m, Crc.getn k (List.replicate m (0 : Int)) = 0 := by
  induction k with
  | zero => intro m; rfl
  | succ k ih =>
    intro m
    cases m with
    | zero => rw [Crc.getn]; have := ih 0; simp at this ⊢; rw [this]
    | succ m => rw [Crc.getn]; simp [List.replicate_succ, ih m]
/-- The bytes of the number at a slot's end. -/
def tail (n : Nat) (db : List Int) (k : Nat) : List Int := (part db (k * (n / 2) + n / 2 - 1)).take 8
structure Torn (n : Nat) (ls : List (List Int)) (j : Nat) (db : List Int) : Prop where
  len : db.length = 16 * n
  hold : ∀ i (h : i < ls.length), j = i + 1 → slotOf n db ((j % 2 : Nat) : Int) = ((j : Int), ls[i], true)
  old : (slotOf n db (((j + 1) % 2 : Nat) : Int)).2.2 = true → (slotOf n db (((j + 1) % 2 : Nat) : Int)).1 < (j : Int)
  zero : j = 0 → ∀ k : Nat, k < 2 → (slotOf n db (k : Int)).2.2 = false
  tail_ : ∀ k : Nat, k < 2 → Crc.getn 8 (tail n db k) ≤ j
def lastVal (ls : List (List Int)) (j : Nat) : Int × List Int × Int := if j = 0 then (0, [], 180) else ((j : Int), ls.getD (j - 1) [], 0)
theorem slot_zero (n : Nat) (k : Nat) (hk : k < 2) : (slotOf n (List.replicate (16 * n) 0) (k : Int)).2.2 = false := by
  rcases Bool.eq_false_or_eq_true (slotOf n (List.replicate (16 * n) 0) (k : Int)).2.2 with h | h
  · exfalso
    have hp := slot_pos h
    unfold slotOf at h hp
    rw [if_pos (by omega)] at h hp
    split at h
    · rename_i h1
      rw [if_pos h1] at hp
      have h2 := (openl_head _ h1.1).1
      rw [h2] at hp
      unfold run at hp
      rw [List.drop_replicate, List.take_replicate, List.take_replicate, getn_zero] at hp
      exact absurd hp (by decide)
    · cases h
  · exact h
theorem Torn.start (n : Nat) (ls : List (List Int)) : Torn n ls 0 (List.replicate (16 * n) 0) := by
  refine ⟨by simp, fun i _ e => by omega, fun h => ?_, fun _ k hk => slot_zero n k hk, fun k hk => ?_⟩
  · rw [slot_zero n _ (Nat.mod_lt _ (by decide))] at h; cases h
  · unfold tail part
    rw [List.drop_replicate, List.take_replicate, List.take_replicate, getn_zero]
    exact Nat.zero_le _
theorem last_two {n : Nat} {db : List Int} {i : Nat} (hi : i < 2) {m : Int} {p : List Int} (h1 : slotOf n db (i : Int) = (m, p, true)) (h2 : (slotOf n db (((i + 1) % 2 : Nat) : Int)).2.2 = true → (slotOf n db (((i + 1) % 2 : Nat) : Int)).1 < m) :
    lastOf n db = (m, p, 0) := by
  rw [lastOf_ref]
  rcases (show i = 0 ∨ i = 1 by omega) with rfl | rfl
  · have h1' : slotOf n db 0 = (m, p, true) := h1
    have h2' : (slotOf n db 1).2.2 = true → (slotOf n db 1).1 < m := h2
    rw [h1', if_neg, if_pos rfl]
    rintro ⟨a, b⟩
    have := h2' a
    rcases b with b | b
    · cases b
    · simp at b; omega
  · have h1' : slotOf n db 1 = (m, p, true) := h1
    have h2' : (slotOf n db 0).2.2 = true → (slotOf n db 0).1 < m := h2
    rw [h1', if_pos]
    refine ⟨rfl, ?_⟩
    rcases Bool.eq_false_or_eq_true (slotOf n db 0).2.2 with h | h
    · exact .inr (h2' h)
    · exact .inl h
theorem last_none {n : Nat} {db : List Int} (h : ∀ k : Nat, k < 2 → (slotOf n db (k : Int)).2.2 = false) : lastOf n db = (0, [], 180) := by
  rw [lastOf_ref]
  have h0 : (slotOf n db 0).2.2 = false := h 0 (by decide)
  have h1 : (slotOf n db 1).2.2 = false := h 1 (by decide)
  rw [h0, h1]
  simp
theorem Torn.last {n : Nat} {ls : List (List Int)} {j : Nat} {db : List Int} (h : Torn n ls j db) (hj : j ≤ ls.length) : lastOf n db = lastVal ls j := by
  unfold lastVal
  by_cases h0 : j = 0
  · rw [if_pos h0]
    exact last_none (h.zero h0)
  · rw [if_neg h0]
    have hi : j - 1 < ls.length := by omega
    have h1 := h.hold (j - 1) hi (by omega)
    rw [show ls.getD (j - 1) [] = ls[j - 1] by simp [List.getD_eq_getElem?_getD, List.getElem?_eq_getElem hi]]
    have e : (j % 2 + 1) % 2 = (j + 1) % 2 := by omega
    exact last_two (Nat.mod_lt _ (by decide)) h1 (by rw [e]; exact h.old)
theorem tail_own {n num : Nat} {db data : List Int} (hl : db.length = 16 * n) (h3 : 3 ≤ n / 2) (hr : data.length ≤ room n) (hn : num < 18446744073709551616) : Crc.getn 8 (tail n (puts (plan n num data) db) (num % 2)) = num := by
  have hlt := Nat.mod_lt num (show 2 > 0 by decide)
  have hfl := from_le n num
  unfold tail
  have e : num % 2 * (n / 2) + n / 2 - 1 = from_ n num + n / 2 - 1 := rfl
  rw [e, saved_part hl h3 hr _ (by omega), if_pos rfl, tail_num num hn]
theorem tail_other {n num : Nat} {db data : List Int} {k : Nat} (hl : db.length = 16 * n) (h3 : 3 ≤ n / 2) (hr : data.length ≤ room n) (hk : k < 2) (hne : k ≠ num % 2) : tail n (puts (plan n num data) db) k = tail n db k := by
  have h1 := room_many num h3 hr
  have hlt := Nat.mod_lt num (show 2 > 0 by decide)
  have hfr : from_ n num = num % 2 * (n / 2) := rfl
  unfold tail
  have h2 : (k = 0 ∧ num % 2 = 1) ∨ (k = 1 ∧ num % 2 = 0) := by omega
  rcases h2 with ⟨rfl, e⟩ | ⟨rfl, e⟩
  · rw [e] at hfr
    rw [saved_part hl h3 hr _ (by omega), if_neg (by omega), row_part _ hl _ (by omega) _ (by omega), if_neg (by omega)]
  · rw [e] at hfr
    rw [saved_part hl h3 hr _ (by omega), if_neg (by omega), row_part _ hl _ (by omega) _ (by omega), if_neg (by omega)]
theorem Torn.step {n : Nat} {ls : List (List Int)} {j : Nat} {db : List Int} (h : Torn n ls j db) (hj : j < ls.length) (h3 : 3 ≤ n / 2) (hn : j + 1 < 18446744073709551616) (hr : ls[j].length ≤ room n) (hd : Crc.okb ls[j] = true) :
    Torn n ls (j + 1) (puts (plan n (j + 1) ls[j]) db) := by
  refine ⟨saved_len h.len h3 hr, fun i hi e => ?_, fun hs => ?_, fun e => by omega, fun k hk => ?_⟩
  · have e2 : j = i := by omega
    subst e2
    exact slot_saved h.len h3 hr (by omega) hn hd
  · have e3 : (j + 1 + 1) % 2 = j % 2 := by omega
    rw [e3] at hs ⊢
    have e4 := slot_other (data := ls[j]) (num := j + 1) (k := j % 2) h.len h3 hr (Nat.mod_lt _ (by decide)) (by omega)
    rw [e4] at hs ⊢
    by_cases h0 : j = 0
    · rw [h.zero h0 _ (Nat.mod_lt _ (by decide))] at hs
      cases hs
    · have h5 := h.hold (j - 1) (by omega) (by omega)
      rw [h5]
      show (j : Int) < _
      omega
  · by_cases hk2 : k = (j + 1) % 2
    · rw [hk2, tail_own h.len h3 hr hn]; exact Nat.le_refl _
    · rw [tail_other h.len h3 hr hk hk2]; have := h.tail_ k hk; omega
theorem Torn.torn {n : Nat} {ls : List (List Int)} {j a : Nat} {db : List Int} (h : Torn n ls j db) (hj : j < ls.length) (h3 : 3 ≤ n / 2) (hn : j + 1 < 18446744073709551616) (hr : ls[j].length ≤ room n) (ha : a < 2 + (ls[j].length + 15) / 16) :
    lastOf n (puts (row (from_ n (j + 1)) (Ref.framel (j + 1) ls[j]) a) db) = lastVal ls j := by
  by_cases ha0 : a = 0
  · subst ha0
    exact h.last (by omega)
  · have hm := many_frame (j + 1) ls[j]
    have hrm := room_many (j + 1) h3 hr
    have ha2 : a ≤ many (Ref.framel (j + 1) ls[j]) := by omega
    have hfr : from_ n (j + 1) + n / 2 - 1 = (j + 1) % 2 * (n / 2) + n / 2 - 1 := rfl
    have hown : slotOf n (puts (row (from_ n (j + 1)) (Ref.framel (j + 1) ls[j]) a) db) (((j + 1) % 2 : Nat) : Int) = (0, [], false) :=
      slot_torn h.len h3 (by omega) ha2 hr hn (by rw [hfr]; have := h.tail_ ((j + 1) % 2) (Nat.mod_lt _ (by decide)); unfold tail at this; omega)
    have hoth := torn_other (data := ls[j]) (num := j + 1) (a := a) (k := j % 2) h.len h3 (by omega) (Nat.mod_lt _ (by decide)) (by omega)
    unfold lastVal
    by_cases h0 : j = 0
    · rw [if_pos h0]
      refine last_none (fun k hk => ?_)
      by_cases hk2 : k = (j + 1) % 2
      · rw [hk2, hown]
      · have hk3 : k = j % 2 := by omega
        rw [hk3, hoth]
        exact h.zero h0 _ (Nat.mod_lt _ (by decide))
    · rw [if_neg h0]
      have hi : j - 1 < ls.length := by omega
      have h1 := h.hold (j - 1) hi (by omega)
      rw [show ls.getD (j - 1) [] = ls[j - 1] by simp [List.getD_eq_getElem?_getD, List.getElem?_eq_getElem hi]]
      rw [← hoth] at h1
      have e : (j % 2 + 1) % 2 = (j + 1) % 2 := by omega
      refine last_two (Nat.mod_lt _ (by decide)) h1 (fun hs => ?_)
      rw [e, hown] at hs
      cases hs
end Slots
end Disk
end Go.Proofs.Ytbjjpckldjjcgaa
