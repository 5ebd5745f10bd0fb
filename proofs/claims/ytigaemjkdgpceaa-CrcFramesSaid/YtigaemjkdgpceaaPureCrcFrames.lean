/- The frame of any data against the reference's, for every number and every row of bytes; the row that was given is overwritten behind. -/
import Derived.Test.YtigaemjkdgpceaaPLx3
namespace Go.Proofs.Ytigaemjkdgpceaa.Pure
open Go.RowKit Go.Proofs.YtigaemjkdgpceaaW.PrintWords Go.Proofs.YtigaemjkdgpceaaW.PrintLast Go.Proofs.YtigaemjkdgpceaaW.PrintMore Go.Proofs.Ytigaemjkdgpceaa Crc PK Ref PL
set_option linter.unusedVariables false
set_option linter.unusedSimpArgs false

theorem frames_okb {l : List Int} (h : ∀ x ∈ l, (Lit.int .u8 x).wf = true) : okb l = true := by
  rw [okb_iff]; intro x hx
  have := h x hx
  simp [Lit.wf, IntKind.min, IntKind.max, IntKind.bits, IntKind.signed] at this
  omega
theorem frames_u64 {a : Int} (h : (Lit.int .u64 a).wf = true) : ∃ n : Nat, a = n ∧ n < 18446744073709551616 := by
  simp [Lit.wf, IntKind.min, IntKind.max, IntKind.bits, IntKind.signed] at h
  exact ⟨a.toNat, by omega, by omega⟩
theorem frames_l (f : List Int) (b : Bool) (hf : f.length ≤ 2100) (d : Nat) : ∀ (k i : Nat) (x : List Int), i + d = x.length → x.length ≤ 2100 → d + 2200 < k →
    redresslaw16_CrcFrames.l0 k x f b f b (x.length : Int) (i : Int) = some true := by
  induction d with
  | zero =>
    intro k i x hi hx hk
    obtain ⟨k, rfl⟩ : ∃ m, k = m + 1 := ⟨k - 1, by omega⟩
    have e0 : redresslaw16_alive.f = some true := rfl
    unfold redresslaw16_CrcFrames.l0
    rw [if_neg (by omega), e0, Option.bind_some, if_pos rfl, same f f k (by omega) (by omega), Option.bind_some, if_pos (by simp)]
    simp
  | succ d ih =>
    intro k i x hi hx hk
    obtain ⟨k, rfl⟩ : ∃ m, k = m + 1 := ⟨k - 1, by omega⟩
    unfold redresslaw16_CrcFrames.l0
    rw [if_pos (by omega), if_pos (by omega), if_pos (by omega), w64 i (by omega)]
    have := ih k (i + 1) (x.set ((i : Int)).toNat ((rd x (i : Int) + 1) % 256)) (by simp; omega) (by simpa using hx) (by omega)
    rw [List.length_set] at this
    exact this

theorem CrcFrames : redresslaw16_CrcFrames.Pure := by
  intro a0 l w0 hm _ hw
  obtain ⟨n, rfl, hn⟩ := frames_u64 w0
  have ho := frames_okb hw
  refine ⟨10000, ?_⟩
  have e0 : redresslaw16_alive.f = some true := rfl
  unfold redresslaw16_CrcFrames.f redresslaw16_few.f
  rw [Option.bind_some]
  by_cases hl : (l.length : Int) ≤ 2100
  · rw [if_pos (by simpa using hl), Option.bind_some, if_pos (by simp; omega), Option.bind_some, List.nil_append]
    by_cases h2 : l.length ≤ 2048
    · rw [crcFrame n l hn ho h2, Option.bind_some, refFrame n 10000 l hn ho h2 (by decide), Option.bind_some]
      exact frames_l (framel n l) true (by rw [framel_length]; omega) l.length 10000 0 l (by omega) (by omega) (by omega)
    · have c1 : crc_Frame.f (n : Int) l = some ([], false) := by unfold crc_Frame.f; rw [if_pos (by omega)]
      have c2 : redressref16_Frame.f 10000 (n : Int) l = some ([], false) := by unfold redressref16_Frame.f; rw [if_pos (by omega)]
      rw [c1, Option.bind_some, c2, Option.bind_some]
      exact frames_l [] false (by decide) l.length 10000 0 l (by omega) (by omega) (by omega)
  · rw [if_neg (by simpa using hl), e0, Option.bind_some]
end Go.Proofs.Ytigaemjkdgpceaa.Pure
