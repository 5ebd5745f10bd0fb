-- Of this seat's own make: written by a program of this session's repo (wip/inject.py) over the kit's printer, with some functions given by hand.
import Derived.Test.YtphgoiepoojikaaPMx0
namespace Go.Proofs.Ytphgoiepoojikaa.PM
open Go.Proofs.Ytphgoiepoojikaa.Disk Go.Proofs.Ytphgoiepoojikaa.PK
open Go.RowKit Go.Proofs.YtphgoiepoojikaaW.PrintWords Go.Proofs.YtphgoiepoojikaaW.PrintLast Go.Proofs.YtphgoiepoojikaaW.PrintMore
attribute [local go_sem] max2_int min2_int max_two min_two max_three min_three max_four min_four   -- for this text's walks alone
set_option linter.unusedVariables false
set_option linter.unusedSimpArgs false

-- NOT PRINTED: function 10 (disk_New)

-- NOT PRINTED: function 13 (disk_Load)

-- NOT PRINTED: function 27 (disk_Disk_Down)

-- NOT PRINTED: function 30 (disk_Disk_has)

-- NOT PRINTED: function 17 (disk_Disk_Write)

-- NOT PRINTED: function 18 (disk_Disk_Cut)

-- NOT PRINTED: function 20 (disk_Disk_Up)

-- NOT PRINTED: function 23 (disk_Disk_Read)

-- NOT PRINTED: function 25 (disk_Disk_Bytes)

-- NOT PRINTED: function 26 (disk_Disk_Writes)

-- NOT PRINTED: function 28 (disk_Disk_Blocks)

-- NOT PRINTED: function 9 (redresslaw17_alive)

-- by hand: function 14 (redressref17_Right)

-- by hand: function 15 (redresslaw17_few)

-- by hand: function 22 (redressref16_Same)

-- by hand: function 7 (redresslaw17_DiskOwn)

/-- THE ONE PURE STATEMENT of redresslaw17_DiskOwn: yours. -/
def redresslaw17_DiskOwn.Pure : Prop := ∀ (l0 : List Int) (a1 : Int), l0.length ≤ maxLen → l0.length * 1 ≤ 140737488351232 → (∀ x ∈ l0, (Lit.int .u8 x).wf = true) → (Lit.int .i64 a1).wf = true → redresslaw17_DiskOwn.f l0 a1 = some true
theorem redresslaw17_DiskOwn.walk (P : redresslaw17_DiskOwn.Pure) (a0 : Option Addr) (len0 cap0 : Nat) (z0 : List Int) (a1 : Int) (w : World) (w0 : (a0 = none ∧ len0 = 0 ∧ cap0 = 0 ∧ z0 = []) ∨ ∃ x, a0 = some x ∧ len0 ≤ cap0 ∧ cap0 ≤ maxLen ∧ z0.length = cap0 ∧ (∀ i, i < z0.length → w.cell? (x.add i) = some (.int .u8 (z0.getD i 0))) ∧ ∀ n ∈ z0, (Lit.int .u8 n).wf = true) (y0 : len0 * 1 ≤ 140737488351232) (w1 : (Lit.int .i64 a1).wf = true) :
    Calls Try.prog 7 #[.slice a0 len0 cap0, .int .i64 a1] w fun e w' => e = .returned (.bool true) ∧ Below w.heap.size w w' := by
  obtain ⟨l0, rfl, hr0, hm0, hw0, hc0⟩ := ReadsInt.ofRowC w0
  have h := P l0 a1 hm0 y0 hw0 w1
  refine (redresslaw17_DiskOwn.calls _ _ l0 a1 true w (Kd.C_of_reads (d := (0 : Int)) (h1 := fun _ => rfl) hr0) hc0 h).mono ?_
  rintro e w' ⟨rfl, hd⟩
  exact ⟨rfl, hd⟩

end Go.Proofs.Ytphgoiepoojikaa.PM
