/- The bytes of any number and the number of any bytes: the code's own rows against the reference's, for every number and every row of at most 2100 bytes. -/
import Derived.Test.YtigaemjkdgpceaaPLx2
namespace Go.Proofs.Ytigaemjkdgpceaa.Pure
open Go.RowKit Go.Proofs.YtigaemjkdgpceaaW.PrintWords Go.Proofs.YtigaemjkdgpceaaW.PrintLast Go.Proofs.YtigaemjkdgpceaaW.PrintMore Go.Proofs.Ytigaemjkdgpceaa Crc PK Ref PL
set_option linter.unusedVariables false
set_option linter.unusedSimpArgs false

theorem okb_wf {l : List Int} (h : ∀ x ∈ l, (Lit.int .u8 x).wf = true) : okb l = true := by
  rw [okb_iff]; intro x hx
  have := h x hx
  simp [Lit.wf, IntKind.min, IntKind.max, IntKind.bits, IntKind.signed] at this
  omega
theorem u64_wf {a : Int} (h : (Lit.int .u64 a).wf = true) : ∃ n : Nat, a = n ∧ n < 18446744073709551616 := by
  simp [Lit.wf, IntKind.min, IntKind.max, IntKind.bits, IntKind.signed] at h
  exact ⟨a.toNat, by omega, by omega⟩
theorem shl8 (m : Nat) (h : m < 8) : shl .u64 1 (wrap64 (8 * (m : Int))) = ((256 ^ m : Nat) : Int) := by
  rcases m with _ | _ | _ | _ | _ | _ | _ | _ | m <;> first | omega | decide +kernel
theorem wrap8 (m : Nat) (h : m < 8) : 0 ≤ wrap64 (8 * (m : Int)) := by unfold wrap64; omega
theorem clamp8_le (b : Int) : clamp8 b ≤ 8 := by
  unfold clamp8 mx mn
  repeat' split
  all_goals omega
theorem numbers_end (n : Nat) (b : Int) (l : List Int) (hn : n < 18446744073709551616) (ho : okb l = true) (v : Int) (hv : v = ((getn 8 (putl n (clamp8 b)) : Nat) : Int)) :
    redresslaw16_CrcNumbers.j0 1000 (n : Int) b l (putl n (clamp8 b)) v = some true := by
  have e1 := put n 999 b hn (by decide)
  have e2 := same (putl n (clamp8 b)) (putl n (clamp8 b)) 999 (by rw [putl_length]; have := clamp8_le b; omega) (by rw [putl_length]; have := clamp8_le b; omega)
  have e3 : crc_Get.f l = some ((getn 8 l : Nat) : Int) := by unfold crc_Get.f; rw [if_pos ho]
  have e4 := get l 999 ho (by decide)
  have e5 : crc_Get.f (putl n (clamp8 b)) = some ((getn 8 (putl n (clamp8 b)) : Nat) : Int) := by unfold crc_Get.f; rw [if_pos (putl_okb _ _)]
  have e0 : redresslaw16_alive.f = some true := rfl
  show redresslaw16_CrcNumbers.j0 (999 + 1) (n : Int) b l (putl n (clamp8 b)) v = some true
  simp only [redresslaw16_CrcNumbers.j0]
  rw [e0, Option.bind_some, if_pos rfl, e1, Option.bind_some, e2, Option.bind_some, if_pos (by simp), e3, Option.bind_some, e4, Option.bind_some, if_pos rfl, e5, Option.bind_some, hv]
  simp

theorem CrcNumbers : redresslaw16_CrcNumbers.Pure := by
  intro a0 b l w0 w1 hm _ hw
  obtain ⟨n, rfl, hn⟩ := u64_wf w0
  have ho := okb_wf hw
  refine ⟨1000, ?_⟩
  have e0 : redresslaw16_alive.f = some true := rfl
  have h8 := clamp8_le b
  have hg := getn_putl (clamp8 b) n 8 h8
  unfold redresslaw16_CrcNumbers.f redresslaw16_few.f
  rw [Option.bind_some]
  by_cases hl : (l.length : Int) ≤ 2100
  · rw [if_pos (by simpa using hl), crcPut n b hn, Option.bind_some, putl_length]
    by_cases hc : clamp8 b < 8
    · have hp : 0 < 256 ^ clamp8 b := Nat.pow_pos (by decide)
      rw [if_pos (by omega), if_pos (wrap8 _ hc), shl8 _ hc, if_neg (by omega)]
      refine numbers_end n b l hn ho _ ?_
      rw [hg]; rfl
    · have hc8 : clamp8 b = 8 := by omega
      rw [if_neg (by omega)]
      refine numbers_end n b l hn ho _ ?_
      rw [hg, hc8, Nat.mod_eq_of_lt (by omega)]
  · rw [if_neg (by simpa using hl), e0, Option.bind_some]
end Go.Proofs.Ytigaemjkdgpceaa.Pure
