/- SlotsAll: what its walk needs besides: few, the writes' counts, a save's bounds. -/
import Derived.Test.YtbjjpckldjjcgaaSN
namespace Go.Proofs.Ytbjjpckldjjcgaa
open Go.RowKit Go.Proofs.YtbjjpckldjjcgaaW.PrintWords Go.Proofs.YtbjjpckldjjcgaaW.PrintLast Go.Proofs.YtbjjpckldjjcgaaW.PrintMore Go.Proofs.Ytbjjpckldjjcgaa.PK
set_option linter.unusedVariables false
set_option linter.unusedSimpArgs false
namespace Disk
namespace Slots
theorem few_l (b : List Int) (ls : List S63) (hM : ls.length ≤ 9223372036854775807) : ∀ (d j : Nat) (x : Int), j + d = ls.length →
    ∃ r, redresslaw18_few.l0 (d + 1) b ls x ls (ls.length : Int) (j : Int) = some r ∧ (r = true → b.length ≤ 5000 ∧ ls.length ≤ 40) := by
  intro d
  induction d with
  | zero =>
    intro j x h
    unfold redresslaw18_few.l0
    rw [if_neg (by omega)]
    by_cases h1 : (b.length : Int) ≤ 5000
    · rw [if_pos h1]
      by_cases h2 : (ls.length : Int) ≤ 40
      · rw [if_pos h2]; exact ⟨_, rfl, fun _ => ⟨by omega, by omega⟩⟩
      · rw [if_neg h2]; exact ⟨_, rfl, fun e => by cases e⟩
    · rw [if_neg h1]; exact ⟨_, rfl, fun e => by cases e⟩
  | succ d ih =>
    intro j x h
    unfold redresslaw18_few.l0
    rw [if_pos (by omega), if_pos (by omega), if_pos (by omega)]
    have e : wrap64 ((j : Int) + 1) = ((j + 1 : Nat) : Int) := by rw [sw64 _ (by omega) (by omega)]; omega
    rw [e]
    exact ih (j + 1) _ (by omega)
theorem Few (A0 : Option Addr) (c0 : Nat) (b : List Int) (A1 : Option Addr) (c1 : Nat) (ls : List S63) (hM : ls.length ≤ 9223372036854775807) :
    ∃ r : Bool, (r = true → b.length ≤ 5000 ∧ ls.length ≤ 40) ∧ ∀ w, Kd.C (Kd.int .u8) w A0 b.length b → b.length ≤ c0 → Kd.C k63 w A1 ls.length ls → ls.length ≤ c1 →
      Calls Try.prog 26 #[.slice A0 b.length c0, .slice A1 ls.length c1] w fun e w' => e = .returned (.bool r) ∧ Below w.heap.size w w' := by
  obtain ⟨r, h1, h2⟩ := few_l b ls hM ls.length 0 0 (by omega)
  exact ⟨r, h2, fun w hr0 hc0 hr1 hc1 => redresslaw18_few.calls (ls.length + 1) A0 c0 b A1 c1 ls r w hr0 hc0 hr1 hc1 h1⟩
/-- Both packages count alike, whatever the length. -/
def cnt (l : List Int) : Int := wrap64 (2 + wrap64 (Int.tdiv (wrap64 ((l.length : Int) + 15)) 16))
theorem wrap_less (x : Int) : wrap64 (wrap64 (x + 16) - 1) = wrap64 (x + 15) := by unfold wrap64; omega
theorem CntP (A : Option Addr) (c : Nat) (l : List Int) (w : World) (hr : Kd.C (Kd.int .u8) w A l.length l) (hc : l.length ≤ c) :
    Calls Try.prog 32 #[.slice A l.length c] w fun e w' => e = .returned (.int .i64 (cnt l)) ∧ Drawn0 w w' := by
  refine slots_Writes.calls A c l _ w hr hc ?_
  unfold slots_Writes.f cnt
  rw [wrap_less]
theorem CntR (A : Option Addr) (c : Nat) (l : List Int) (w : World) (hr : Kd.C (Kd.int .u8) w A l.length l) (hc : l.length ≤ c) :
    Calls Try.prog 16 #[.slice A l.length c] w fun e w' => e = .returned (.int .i64 (cnt l)) ∧ Drawn0 w w' := by
  refine redressref18_Writes.calls A c l _ w hr hc ?_
  unfold redressref18_Writes.f cnt
  rfl
theorem wrs_ok2 {n : Nat} : ∀ (ps : List (Nat × List Int)) (s : St) (d : Nat), s.ok d → (wrs n ps s).2.ok (d + ps.length)
  | [], s, d, h => h
  | p :: r, s, d, h => by
    have h1 := St.ok_write (n := n) h (p.1 : Int) p.2
    rw [wrs]
    split
    · have := wrs_ok2 (n := n) r _ _ h1
      rw [List.length_cons, show d + (r.length + 1) = d + 1 + r.length by omega]
      exact this
    · exact St.ok_le h1 (by rw [List.length_cons]; omega)
theorem wrs_right {n : Nat} : ∀ (ps : List (Nat × List Int)) (s : St), s.right → (wrs n ps s).2.right
  | [], s, h => h
  | p :: r, s, h => by
    have h1 := right_write (n := n) h (p.1 : Int) p.2
    rw [wrs]
    split
    · exact wrs_right (n := n) r _ h1
    · exact h1
theorem save_ok3 {n num d : Nat} {s : St} {data : List Int} (h : s.ok d) : (save n s num data).2.ok (d + 200) := by
  unfold save
  split
  · exact St.ok_le h (by omega)
  · split
    · exact St.ok_le h (by omega)
    · rename_i h1 h2
      have h3 := wrs_ok2 (n := n) (plan n num data) s d h
      refine St.ok_le h3 ?_
      rw [plan_len]
      unfold room at h2
      omega
theorem save_right {n num : Nat} {s : St} {data : List Int} (h : s.right) : (save n s num data).2.right := by
  unfold save
  split
  · exact h
  · split
    · exact h
    · exact wrs_right _ _ h
end Slots
end Disk
end Go.Proofs.Ytbjjpckldjjcgaa
