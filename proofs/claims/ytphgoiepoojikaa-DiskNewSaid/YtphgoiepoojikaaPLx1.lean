-- Of this seat's own make: written by a program of this session's repo (wip/inject.py) over the kit's printer, with some functions given by hand.
import Derived.Test.YtphgoiepoojikaaPLx0
namespace Go.Proofs.Ytphgoiepoojikaa.PL
open Go.Proofs.Ytphgoiepoojikaa.Disk Go.Proofs.Ytphgoiepoojikaa.PK
open Go.RowKit Go.Proofs.YtphgoiepoojikaaW.PrintWords Go.Proofs.YtphgoiepoojikaaW.PrintLast Go.Proofs.YtphgoiepoojikaaW.PrintMore
attribute [local go_sem] max2_int min2_int max_two min_two max_three min_three max_four min_four   -- for this text's walks alone
set_option linter.unusedVariables false
set_option linter.unusedSimpArgs false

-- NOT PRINTED: function 10 (disk_New)

-- NOT PRINTED: function 13 (disk_Load)

-- NOT PRINTED: function 27 (disk_Disk_Down)

-- NOT PRINTED: function 30 (disk_Disk_has)

-- NOT PRINTED: function 17 (disk_Disk_Write)

-- NOT PRINTED: function 18 (disk_Disk_Cut)

-- NOT PRINTED: function 20 (disk_Disk_Up)

-- NOT PRINTED: function 23 (disk_Disk_Read)

-- NOT PRINTED: function 25 (disk_Disk_Bytes)

-- NOT PRINTED: function 26 (disk_Disk_Writes)

-- NOT PRINTED: function 28 (disk_Disk_Blocks)

-- NOT PRINTED: function 9 (redresslaw17_alive)

-- by hand: function 22 (redressref16_Same)

-- by hand: function 29 (redressref17_Down)

-- NOT PRINTED: function 11 (redresslaw17_Same)

-- by hand: function 12 (redressref17_New)

-- by hand: function 14 (redressref17_Right)

-- by hand: function 3 (redresslaw17_DiskNew)

/-- THE ONE PURE STATEMENT of redresslaw17_DiskNew: yours. -/
def redresslaw17_DiskNew.Pure : Prop := ∀ (a0 : Int) (l1 : List Int), (Lit.int .i64 a0).wf = true → l1.length ≤ maxLen → l1.length * 1 ≤ 140737488351232 → (∀ x ∈ l1, (Lit.int .u8 x).wf = true) → redresslaw17_DiskNew.f a0 l1 = some true
theorem redresslaw17_DiskNew.walk (P : redresslaw17_DiskNew.Pure) (a0 : Int) (a1 : Option Addr) (len1 cap1 : Nat) (z1 : List Int) (w : World) (w0 : (Lit.int .i64 a0).wf = true) (w1 : (a1 = none ∧ len1 = 0 ∧ cap1 = 0 ∧ z1 = []) ∨ ∃ x, a1 = some x ∧ len1 ≤ cap1 ∧ cap1 ≤ maxLen ∧ z1.length = cap1 ∧ (∀ i, i < z1.length → w.cell? (x.add i) = some (.int .u8 (z1.getD i 0))) ∧ ∀ n ∈ z1, (Lit.int .u8 n).wf = true) (y1 : len1 * 1 ≤ 140737488351232) :
    Calls Try.prog 3 #[.int .i64 a0, .slice a1 len1 cap1] w fun e w' => e = .returned (.bool true) ∧ Below w.heap.size w w' := by
  obtain ⟨l1, rfl, hr1, hm1, hw1, hc1⟩ := ReadsInt.ofRowC w1
  have h := P a0 l1 w0 hm1 y1 hw1
  refine (redresslaw17_DiskNew.calls a0 _ _ l1 true w (Kd.C_of_reads (d := (0 : Int)) (h1 := fun _ => rfl) hr1) hc1 h).mono ?_
  rintro e w' ⟨rfl, hd⟩
  exact ⟨rfl, hd⟩

end Go.Proofs.Ytphgoiepoojikaa.PL
