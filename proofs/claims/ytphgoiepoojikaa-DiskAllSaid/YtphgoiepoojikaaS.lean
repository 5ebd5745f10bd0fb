/- The disk as a value: what Write, Cut and Up make of it; the walk of Write in one piece. -/
import Derived.Test.YtphgoiepoojikaaF
namespace Go.Proofs.Ytphgoiepoojikaa
open Go.RowKit Go.Proofs.YtphgoiepoojikaaW.PrintWords Go.Proofs.YtphgoiepoojikaaW.PrintLast Go.Proofs.YtphgoiepoojikaaW.PrintMore Go.Proofs.Ytphgoiepoojikaa.PK
set_option linter.unusedVariables false
set_option linter.unusedSimpArgs false
namespace Disk

structure St where
  db : List Int
  many : Int
  cut : Bool
  left : Int
def St.down (s : St) : Bool := s.cut && decide (s.left ≤ 0)
def St.write (n : Nat) (s : St) (k : Int) (l : List Int) : Int × St :=
  if ¬ (0 ≤ k ∧ k < (n : Int)) ∨ 16 < l.length then (1, s)
  else if s.down = true then (170, s)
  else (0, { s with db := put s.db k.toNat l, many := s.many + 1, left := s.left - 1 })
def St.cutAt (s : St) (k : Int) : St := { s with cut := true, left := max 0 k }
def St.up (s : St) : St := { s with cut := false }
def AtS (W : World) (g b n : Nat) (s : St) : Prop := At W g b n s.db s.many s.cut s.left
/-- The counters are far from their ends. -/
def St.ok (s : St) (d : Nat) : Prop := -(d : Int) ≤ s.many ∧ s.many ≤ d ∧ -(d : Int) ≤ s.left ∧ s.left ≤ 9223372036854775807
theorem St.ok_le {s : St} {d d' : Nat} (h : s.ok d) (hd : d ≤ d') : s.ok d' := by unfold St.ok at *; exact ⟨by omega, by omega, by omega, by omega⟩
theorem St.ok_write {n : Nat} {s : St} {d : Nat} (h : s.ok d) (k : Int) (l : List Int) : (s.write n k l).2.ok (d + 1) := by
  unfold St.write
  split
  · exact St.ok_le h (by omega)
  · split
    · exact St.ok_le h (by omega)
    · obtain ⟨h1, h2, h3, h4⟩ := h
      refine ⟨?_, ?_, ?_, ?_⟩
      · show -((d + 1 : Nat) : Int) ≤ s.many + 1; omega
      · show s.many + 1 ≤ ((d + 1 : Nat) : Int); omega
      · show -((d + 1 : Nat) : Int) ≤ s.left - 1; omega
      · show s.left - 1 ≤ 9223372036854775807; omega
theorem St.ok_cut {s : St} {d : Nat} (h : s.ok d) (k : Int) (hk : k ≤ 9223372036854775807) : (s.cutAt k).ok d := by
  obtain ⟨h1, h2, h3, h4⟩ := h
  refine ⟨h1, h2, ?_, ?_⟩
  · show -(d : Int) ≤ max 0 k; omega
  · show max 0 k ≤ 9223372036854775807; omega
theorem St.ok_up {s : St} {d : Nat} (h : s.ok d) : s.up.ok d := h

theorem WriteAny {w : World} {g b n : Nat} {s : St} (h : AtS w g b n s) (k : Int) (A : Option Addr) (c : Nat) (l : List Int) (hr : Kd.C (Kd.int .u8) w A l.length l) (hc : l.length ≤ c) (hd : s.ok 1000000) :
    Calls Try.prog 17 #[.pointer (some ⟨g, 0, none⟩), .int .i64 k, .slice A l.length c] w fun e w' => e = .returned (.int .i64 (s.write n k l).1) ∧ AtS w' g b n (s.write n k l).2 ∧ Only g b w w' := by
  by_cases h1 : ¬ (0 ≤ k ∧ k < (n : Int)) ∨ 16 < l.length
  · have e : s.write n k l = (1, s) := by unfold St.write; rw [if_pos h1]
    rw [e]
    refine (Write.arg h k A c l h1).mono ?_
    rintro e w' ⟨rfl, ⟨m, rfl⟩⟩
    exact ⟨rfl, At.drewN h m, (Only.refl g b w).drewN m⟩
  · by_cases h2 : s.down = true
    · have e : s.write n k l = (170, s) := by unfold St.write; rw [if_neg h1, if_pos h2]
      rw [e]
      have h3 : 0 ≤ k ∧ k < (n : Int) := Classical.byContradiction (fun hh => h1 (.inl hh))
      have h4 : l.length ≤ 16 := by
        rcases Nat.lt_or_ge 16 l.length with hh | hh
        · exact absurd (.inr hh) h1
        · exact hh
      refine (Write.down h k A c l h3 h4 (by unfold St.down at h2; simpa using h2)).mono ?_
      rintro e w' ⟨rfl, ⟨m, rfl⟩⟩
      exact ⟨rfl, At.drewN h m, (Only.refl g b w).drewN m⟩
    · have h3 : 0 ≤ k ∧ k < (n : Int) := Classical.byContradiction (fun hh => h1 (.inl hh))
      have h4 : l.length ≤ 16 := by
        rcases Nat.lt_or_ge 16 l.length with hh | hh
        · exact absurd (.inr hh) h1
        · exact hh
      have e : s.write n k l = (0, { s with db := put s.db k.toNat l, many := s.many + 1, left := s.left - 1 }) := by unfold St.write; rw [if_neg h1, if_neg h2]
      rw [e]
      obtain ⟨q, rfl⟩ : ∃ q : Nat, k = (q : Int) := ⟨k.toNat, by omega⟩
      unfold St.ok at hd
      exact Write.ok h q A c l hr hc (by omega) h4 (by unfold St.down at h2; simpa using h2) ⟨by omega, by omega⟩ ⟨by omega, by omega⟩

/-- The document's disk that a disk is. -/
def rleft (s : St) : Int := if s.cut then s.left else -1
theorem put_get {db l : List Int} {n q : Nat} (hdb : db.length = 16 * n) (hq : q < n) (hl : l.length ≤ 16) (i : Nat) : (put db q l)[i]? = if q * 16 ≤ i ∧ i < q * 16 + 16 then (sixteen l)[i - q * 16]? else db[i]? := by
  have ht : (db.take (q * 16)).length = q * 16 := by rw [List.length_take]; omega
  have hs := sixteen_len hl
  unfold put
  by_cases h1 : i < q * 16
  · rw [List.append_assoc, List.getElem?_append_left (by omega), List.getElem?_take, if_pos h1, if_neg (by omega)]
  · by_cases h2 : i < q * 16 + 16
    · rw [if_pos ⟨by omega, h2⟩, List.append_assoc, List.getElem?_append_right (by omega), ht, List.getElem?_append_left (by omega)]
    · rw [if_neg (by omega), List.getElem?_append_right (by rw [List.length_append, ht, hs]; omega), List.length_append, ht, hs, List.getElem?_drop]
      congr 1; omega
theorem sixteen_get (l : List Int) (j : Nat) (hj : j < 16) (hl : l.length ≤ 16) : (sixteen l)[j]? = some (if j < l.length then rd l (j : Int) else 0) := by
  unfold sixteen
  by_cases h : j < l.length
  · rw [if_pos h, List.getElem?_append_left h, rd_at l j h, List.getElem?_eq_getElem h]
  · rw [if_neg h, List.getElem?_append_right (by omega), List.getElem?_replicate, if_pos (by omega)]
/-- The reference's loop: sixteen bytes, one by one. -/
theorem ref_loop (n : Nat) (q : Nat) (l : List Int) (hq : q < n) (hn : n ≤ 1024) (hl : l.length ≤ 16) (db : List Int) (hdb : db.length = 16 * n) (many rl : Int) : ∀ d j K (out : List Int), j + d = 16 → d + 2 < K → out.length = 16 * n →
    (∀ i : Nat, out[i]? = if q * 16 ≤ i ∧ i < q * 16 + j then (sixteen l)[i - q * 16]? else db[i]?) →
    redressref17_Write.l0 K (q : Int) l (j : Int) out many rl = some (put db q l, many, (if rl > 0 then wrap64 (rl - 1) else rl), 0) := by
  intro d
  induction d with
  | zero =>
    intro j K out hj hK hout hi
    obtain ⟨K, rfl⟩ : ∃ m, K = m + 1 := ⟨K - 1, by omega⟩
    have e : out = put db q l := by
      apply List.ext_getElem?
      intro i
      rw [hi i, put_get hdb hq hl i, show j = 16 by omega]
    simp only [redressref17_Write.l0]
    rw [if_neg (by omega), ← e]
    by_cases h : rl > 0
    · rw [if_pos h, if_pos h]
    · rw [if_neg h, if_neg h]
  | succ d ih =>
    intro j K out hj hK hout hi
    obtain ⟨K, rfl⟩ : ∃ m, K = m + 1 := ⟨K - 1, by omega⟩
    have ei : wrap64 ((wrap64 (16 * (q : Int))) + (j : Int)) = ((q * 16 + j : Nat) : Int) := by unfold wrap64; omega
    have ej : wrap64 ((j : Int) + 1) = ((j + 1 : Nat) : Int) := by unfold wrap64; omega
    have step : ∀ v, (sixteen l)[j]? = some v → ∀ i : Nat, ((out.set (q * 16 + j) v))[i]? = if q * 16 ≤ i ∧ i < q * 16 + (j + 1) then (sixteen l)[i - q * 16]? else db[i]? := by
      intro v hv i
      rw [List.getElem?_set]
      by_cases he : q * 16 + j = i
      · rw [if_pos he, if_pos (by omega), if_pos ⟨by omega, by omega⟩, show i - q * 16 = j by omega, hv]
      · rw [if_neg he, hi i]
        by_cases h2 : q * 16 ≤ i ∧ i < q * 16 + j
        · rw [if_pos h2, if_pos ⟨h2.1, by omega⟩]
        · rw [if_neg h2, if_neg (by omega)]
    have hv := sixteen_get l j (by omega) hl
    simp only [redressref17_Write.l0]
    rw [if_pos (by omega), ei, if_pos (by omega), if_pos (by omega), Option.bind_some, Int.toNat_natCast, ej]
    by_cases hjl : j < l.length
    · rw [if_pos hjl] at hv
      rw [if_pos (by omega), if_pos (by omega), List.set_set]
      exact ih (j + 1) K _ (by omega) (by omega) (by rw [List.length_set]; exact hout) (step _ hv)
    · rw [if_neg hjl] at hv
      rw [if_neg (by omega)]
      exact ih (j + 1) K _ (by omega) (by omega) (by rw [List.length_set]; exact hout) (step _ hv)
theorem refWrite (n : Nat) (s : St) (k : Int) (l : List Int) (K : Nat) (hK : 20 < K) (hn : n ≤ 1024) (hdb : s.db.length = 16 * n) (hc : s.cut = true → 0 ≤ s.left) (hd : s.ok 1000000) :
    redressref17_Write.f K s.db s.many (rleft s) k l = some ((s.write n k l).2.db, (s.write n k l).2.many, rleft (s.write n k l).2, (s.write n k l).1) := by
  have eq16 : wrap64 ((s.db.length : Int) / 16) = (n : Int) := by unfold wrap64; omega
  obtain ⟨K, rfl⟩ : ∃ m, K = m + 1 := ⟨K - 1, by omega⟩
  have hdn : s.down = true ↔ rleft s = 0 := by
    unfold St.down rleft
    cases hcut : s.cut
    · simp
    · have := hc hcut
      simp; omega
  unfold redressref17_Write.f
  rw [eq16]
  by_cases h1 : ¬ (0 ≤ k ∧ k < (n : Int)) ∨ 16 < l.length
  · have e : s.write n k l = (1, s) := by unfold St.write; rw [if_pos h1]
    rw [e]
    by_cases k0 : k < 0
    · rw [if_pos k0]; simp only [redressref17_Write.j0]; rfl
    · rw [if_neg k0]
      by_cases k1 : k ≥ (n : Int)
      · rw [if_pos k1]; simp only [redressref17_Write.j0]; rfl
      · rw [if_neg k1]
        have h16 : 16 < l.length := h1.elim (fun h => absurd (show 0 ≤ k ∧ k < (n : Int) from ⟨by omega, by omega⟩) h) id
        rw [decide_eq_true (show (l.length : Int) > 16 by omega)]; simp only [redressref17_Write.j0]; rfl
  · have h3 : 0 ≤ k ∧ k < (n : Int) := Classical.byContradiction (fun hh => h1 (.inl hh))
    have h4 : l.length ≤ 16 := by
      rcases Nat.lt_or_ge 16 l.length with hh | hh
      · exact absurd (.inr hh) h1
      · exact hh
    obtain ⟨q, rfl⟩ : ∃ q : Nat, k = (q : Int) := ⟨k.toNat, by omega⟩
    rw [if_neg (by omega), if_neg (by omega), decide_eq_false (show ¬ (l.length : Int) > 16 by omega)]
    simp only [redressref17_Write.j0]
    rw [if_neg (by decide)]
    by_cases h2 : s.down = true
    · have e : s.write n (q : Int) l = (170, s) := by unfold St.write; rw [if_neg h1, if_pos h2]
      rw [e, if_pos (hdn.1 h2)]
    · have e : s.write n (q : Int) l = (0, { s with db := put s.db q l, many := s.many + 1, left := s.left - 1 }) := by unfold St.write; rw [if_neg h1, if_neg h2, Int.toNat_natCast]
      rw [e, if_neg (fun h => h2 (hdn.2 h)), if_pos (by simp; omega)]
      have em : wrap64 (s.many + 1) = s.many + 1 := by unfold St.ok at hd; unfold wrap64; omega
      have := ref_loop n q l (by omega) hn h4 s.db hdb (s.many + 1) (rleft s) 16 0 K s.db (by omega) (by omega) hdb (fun i => by rw [if_neg (by omega)])
      rw [em, List.nil_append]
      refine this.trans ?_
      congr 3
      unfold rleft St.ok at *
      show (_, _) = (_, _)
      cases hcut : s.cut
      · rw [if_neg (by simp), if_neg (by simp), if_neg (by simp)]
      · have := hc hcut
        have h5 : s.left ≠ 0 := fun h => h2 (hdn.2 (by rw [hcut]; simpa using h))
        rw [if_pos (by simp; omega), if_pos rfl, if_pos rfl]
        congr 1
        show wrap64 (s.left - 1) = s.left - 1
        unfold wrap64; omega
end Disk
end Go.Proofs.Ytphgoiepoojikaa
