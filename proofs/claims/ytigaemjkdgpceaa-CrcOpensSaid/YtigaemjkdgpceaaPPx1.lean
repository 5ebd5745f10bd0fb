-- Of this seat's own make: written by a program of this session's repo (wip/inject.py) over the kit's printer, with some functions given by hand.
import Derived.Test.YtigaemjkdgpceaaPPx0
namespace Go.Proofs.Ytigaemjkdgpceaa.PP
open Go.Proofs.Ytigaemjkdgpceaa.PK
open Go.RowKit Go.Proofs.YtigaemjkdgpceaaW.PrintWords Go.Proofs.YtigaemjkdgpceaaW.PrintLast Go.Proofs.YtigaemjkdgpceaaW.PrintMore
attribute [local go_sem] max2_int min2_int max_two min_two max_three min_three max_four min_four   -- for this text's walks alone
set_option linter.unusedVariables false
set_option linter.unusedSimpArgs false

-- by hand: function 9 (redresslaw16_few)

-- by hand: function 11 (crc_More)

-- by hand: function 13 (crc_Sum)

-- by hand: function 14 (crc_Put)

-- by hand: function 15 (redressref16_Same)

-- by hand: function 17 (crc_Get)

-- by hand: function 19 (crc_Frame)

-- by hand: function 21 (crc_Open)

-- by hand: function 10 (redresslaw16_alive)

-- by hand: function 18 (redressref16_Get)

-- by hand: function 23 (redressref16_bits)

-- by hand: function 12 (redressref16_More)

-- by hand: function 16 (redressref16_Put)

-- by hand: function 20 (redressref16_Frame)

-- NOT PRINTED: function 22 (redressref16_Open)

-- by hand: function 6 (redresslaw16_CrcOpens)

/-- THE ONE PURE STATEMENT of redresslaw16_CrcOpens: yours. -/
def redresslaw16_CrcOpens.Pure : Prop := ∀ (l0 : List Int), l0.length ≤ maxLen → l0.length * 1 ≤ 140737488351232 → (∀ x ∈ l0, (Lit.int .u8 x).wf = true) → redresslaw16_CrcOpens.f l0 = some true
theorem redresslaw16_CrcOpens.walk (P : redresslaw16_CrcOpens.Pure) (a0 : Option Addr) (len0 cap0 : Nat) (z0 : List Int) (w : World) (w0 : (a0 = none ∧ len0 = 0 ∧ cap0 = 0 ∧ z0 = []) ∨ ∃ x, a0 = some x ∧ len0 ≤ cap0 ∧ cap0 ≤ maxLen ∧ z0.length = cap0 ∧ (∀ i, i < z0.length → w.cell? (x.add i) = some (.int .u8 (z0.getD i 0))) ∧ ∀ n ∈ z0, (Lit.int .u8 n).wf = true) (y0 : len0 * 1 ≤ 140737488351232) :
    Calls Try.prog 6 #[.slice a0 len0 cap0] w fun e w' => e = .returned (.bool true) ∧ Below w.heap.size w w' := by
  obtain ⟨l0, rfl, hr0, hm0, hw0, hc0⟩ := ReadsInt.ofRowC w0
  have h := P l0 hm0 y0 hw0
  refine (redresslaw16_CrcOpens.calls _ _ l0 true w (Kd.C_of_reads (d := (0 : Int)) (h1 := fun _ => rfl) hr0) hc0 h).mono ?_
  rintro e w' ⟨rfl, hd⟩
  exact ⟨rfl, hd⟩

end Go.Proofs.Ytigaemjkdgpceaa.PP
