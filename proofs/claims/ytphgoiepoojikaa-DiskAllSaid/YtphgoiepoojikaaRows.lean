/-
  No cell of these rows narrows 'for every input' (looked for: loops, veiled, ifaces, maps, wideKeys, modest, calm, conditions, laid).
  DERIVED. THE GIVEN ROWS OF THIS SEAT. 6 by the template 'for every input the law returns true; each argument reads behind the call as it read before'; 0 by the template 'total and deterministic' (their statements: YtphgoiepoojikaaTotals.lean).
  GIVEN WITH THE SEED: the statements are not yours to turn. If you find one false, say at which input.
  Laid BY PROGRAM, IN A SANDBOX (cutbox-rows.mjs): the forced cells as the released guide's own fill.sh prints them over the translation c09048cac1f1b9a8… (all of the seat's roots in one cut). By AI agents, Wed Nov 11 2026. No macro, syntax, notation, axiom, sorry.
-/
import Derived.Test.YtphgoiepoojikaaChecked
import GoSem.Claim
import GoSem.ClaimJoined
import GoSem.ClaimMapViews
import Derived.JoinedTies
import Derived.KernelRfl
namespace Go.Proofs.Ytphgoiepoojikaa
/- THE CELL 'sum', in the pinned program and in every row, IS THE sha256 OF THE DUMP (.gsa) THAT YtphgoiepoojikaaProg.lean LOADS. Nothing in Lean hashes anything: it is a label: what it is worth is what the hold of that sum in a sandbox is worth. -/
noncomputable def Try.pinned : Pinned := { name := "ytphgoiepoojikaa", sum := "c09048cac1f1b9a80dda374a60685983f4b23239671ac95703604b0d3c7d3479", checked := Try.checked }
namespace Rows
def none {H : Type} : Left H := { results := [], args := [] }

/-- 'redresslaw17.DiskNew': WHATEVER THE INPUT: true; the input reads as it did. -/
def diskNewSpec : ChangeSpec := { name := "diskNew", fn := fun _ => fun
  | [d1, d2] => { results := [.lit (.bool true)], args := [d1, d2] }
  | _ => none }
def diskNewRow : OpenClaim := { program := "ytphgoiepoojikaa", sum := "c09048cac1f1b9a80dda374a60685983f4b23239671ac95703604b0d3c7d3479", func := "redress/redresslaw17.DiskNew", spec := "diskNew", apart := false }
def DiskNewSaid : Prop := diskNewRow.holds Try.pinned (OpenSpec.ofChange diskNewSpec)

/-- ITS FALSE NEIGHBOUR: 'it returns false'. Refute it at one input. -/
def diskNewWrong : ChangeSpec := { name := "diskNew", fn := fun _ => fun
  | [d1, d2] => { results := [.lit (.bool false)], args := [d1, d2] }
  | _ => none }
def DiskNewWrongFalsely : Prop := diskNewRow.holds Try.pinned (OpenSpec.ofChange diskNewWrong)

/-- 'redresslaw17.DiskAll': WHATEVER THE INPUT: true; the input reads as it did. -/
def diskAllSpec : ChangeSpec := { name := "diskAll", fn := fun _ => fun
  | [d1, d2] => { results := [.lit (.bool true)], args := [d1, d2] }
  | _ => none }
def diskAllRow : OpenClaim := { program := "ytphgoiepoojikaa", sum := "c09048cac1f1b9a80dda374a60685983f4b23239671ac95703604b0d3c7d3479", func := "redress/redresslaw17.DiskAll", spec := "diskAll", apart := false }
def DiskAllSaid : Prop := diskAllRow.holds Try.pinned (OpenSpec.ofChange diskAllSpec)

/-- ITS FALSE NEIGHBOUR: 'it returns false'. Refute it at one input. -/
def diskAllWrong : ChangeSpec := { name := "diskAll", fn := fun _ => fun
  | [d1, d2] => { results := [.lit (.bool false)], args := [d1, d2] }
  | _ => none }
def DiskAllWrongFalsely : Prop := diskAllRow.holds Try.pinned (OpenSpec.ofChange diskAllWrong)

/-- 'redresslaw17.DiskOne': WHATEVER THE INPUT: true; the input reads as it did. -/
def diskOneSpec : ChangeSpec := { name := "diskOne", fn := fun _ => fun
  | [d1, d2, d3] => { results := [.lit (.bool true)], args := [d1, d2, d3] }
  | _ => none }
def diskOneRow : OpenClaim := { program := "ytphgoiepoojikaa", sum := "c09048cac1f1b9a80dda374a60685983f4b23239671ac95703604b0d3c7d3479", func := "redress/redresslaw17.DiskOne", spec := "diskOne", apart := false }
def DiskOneSaid : Prop := diskOneRow.holds Try.pinned (OpenSpec.ofChange diskOneSpec)

/-- ITS FALSE NEIGHBOUR: 'it returns false'. Refute it at one input. -/
def diskOneWrong : ChangeSpec := { name := "diskOne", fn := fun _ => fun
  | [d1, d2, d3] => { results := [.lit (.bool false)], args := [d1, d2, d3] }
  | _ => none }
def DiskOneWrongFalsely : Prop := diskOneRow.holds Try.pinned (OpenSpec.ofChange diskOneWrong)

/-- 'redresslaw17.DiskCut': WHATEVER THE INPUT: true; the input reads as it did. -/
def diskCutSpec : ChangeSpec := { name := "diskCut", fn := fun _ => fun
  | [d1, d2, d3] => { results := [.lit (.bool true)], args := [d1, d2, d3] }
  | _ => none }
def diskCutRow : OpenClaim := { program := "ytphgoiepoojikaa", sum := "c09048cac1f1b9a80dda374a60685983f4b23239671ac95703604b0d3c7d3479", func := "redress/redresslaw17.DiskCut", spec := "diskCut", apart := false }
def DiskCutSaid : Prop := diskCutRow.holds Try.pinned (OpenSpec.ofChange diskCutSpec)

/-- ITS FALSE NEIGHBOUR: 'it returns false'. Refute it at one input. -/
def diskCutWrong : ChangeSpec := { name := "diskCut", fn := fun _ => fun
  | [d1, d2, d3] => { results := [.lit (.bool false)], args := [d1, d2, d3] }
  | _ => none }
def DiskCutWrongFalsely : Prop := diskCutRow.holds Try.pinned (OpenSpec.ofChange diskCutWrong)

/-- 'redresslaw17.DiskOwn': WHATEVER THE INPUT: true; the input reads as it did. -/
def diskOwnSpec : ChangeSpec := { name := "diskOwn", fn := fun _ => fun
  | [d1, d2] => { results := [.lit (.bool true)], args := [d1, d2] }
  | _ => none }
def diskOwnRow : OpenClaim := { program := "ytphgoiepoojikaa", sum := "c09048cac1f1b9a80dda374a60685983f4b23239671ac95703604b0d3c7d3479", func := "redress/redresslaw17.DiskOwn", spec := "diskOwn", apart := false }
def DiskOwnSaid : Prop := diskOwnRow.holds Try.pinned (OpenSpec.ofChange diskOwnSpec)

/-- ITS FALSE NEIGHBOUR: 'it returns false'. Refute it at one input. -/
def diskOwnWrong : ChangeSpec := { name := "diskOwn", fn := fun _ => fun
  | [d1, d2] => { results := [.lit (.bool false)], args := [d1, d2] }
  | _ => none }
def DiskOwnWrongFalsely : Prop := diskOwnRow.holds Try.pinned (OpenSpec.ofChange diskOwnWrong)

/-- 'redresslaw17.DiskAgain': WHATEVER THE INPUT: true; the input reads as it did. -/
def diskAgainSpec : ChangeSpec := { name := "diskAgain", fn := fun _ => fun
  | [d1, d2, d3] => { results := [.lit (.bool true)], args := [d1, d2, d3] }
  | _ => none }
def diskAgainRow : OpenClaim := { program := "ytphgoiepoojikaa", sum := "c09048cac1f1b9a80dda374a60685983f4b23239671ac95703604b0d3c7d3479", func := "redress/redresslaw17.DiskAgain", spec := "diskAgain", apart := false }
def DiskAgainSaid : Prop := diskAgainRow.holds Try.pinned (OpenSpec.ofChange diskAgainSpec)

/-- ITS FALSE NEIGHBOUR: 'it returns false'. Refute it at one input. -/
def diskAgainWrong : ChangeSpec := { name := "diskAgain", fn := fun _ => fun
  | [d1, d2, d3] => { results := [.lit (.bool false)], args := [d1, d2, d3] }
  | _ => none }
def DiskAgainWrongFalsely : Prop := diskAgainRow.holds Try.pinned (OpenSpec.ofChange diskAgainWrong)

/- THE SECOND FORM. 'bulk': how many values and letters a reading holds, each counted each time it is reached (what is shared counts as often as it is met; a slice's spare places count too). A statement '..UptoSaid' is the law's where the arguments, and the package variables that the reading takes, are together of bulk at most 1048576: NARROWER than '..Said'. Prove '..Said' where nothing that the law and all that it calls make is longer than what came in: it says more and counts as full. Else prove '..UptoSaid'. A law counts once. -/
mutual
def uptoBulk {H : Type} : DataW H → Nat
  | .lit (.string bytes) => bytes.length + 1
  | .lit _ => 1
  | .nil => 1
  | .ptr d => uptoBulk d + 1
  | .slice elems spare => uptoBulkAll elems + uptoBulkAll spare + 1
  | .agg parts => uptoBulkAll parts + 1
  | .iface _ d => uptoBulk d + 1
  | .map entries => uptoBulkEntries entries + 1
  | .held _ => 1
def uptoBulkAll {H : Type} : List (DataW H) → Nat
  | [] => 0
  | d :: r => uptoBulk d + uptoBulkAll r
def uptoBulkEntries {H : Type} : List (Lit × DataW H) → Nat
  | [] => 0
  | x :: r => uptoBulkEntry x + uptoBulkEntries r
def uptoBulkEntry {H : Type} : Lit × DataW H → Nat
  | (.string bytes, d) => bytes.length + uptoBulk d + 1
  | (_, d) => uptoBulk d + 1
 end
def uptoSmall : (H : Type) → List (DataW H) → Bool := fun _ ds => decide (uptoBulkAll ds ≤ 1048576)
def OpenSpec.upto (s : _root_.Go.ChangeSpec) : _root_.Go.OpenSpec := { _root_.Go.OpenSpec.ofChange s with cond := some uptoSmall }

/-- 'redresslaw17.DiskNew', WHERE WHAT IT READS IS OF BULK AT MOST 1048576: true; the input reads as it did. -/
def diskNewUptoRow : OpenClaim := { program := "ytphgoiepoojikaa", sum := "c09048cac1f1b9a80dda374a60685983f4b23239671ac95703604b0d3c7d3479", func := "redress/redresslaw17.DiskNew", spec := "diskNew", apart := false, narrowed := true }
def DiskNewUptoSaid : Prop := diskNewUptoRow.holds Try.pinned (OpenSpec.upto diskNewSpec)

/-- 'redresslaw17.DiskAll', WHERE WHAT IT READS IS OF BULK AT MOST 1048576: true; the input reads as it did. -/
def diskAllUptoRow : OpenClaim := { program := "ytphgoiepoojikaa", sum := "c09048cac1f1b9a80dda374a60685983f4b23239671ac95703604b0d3c7d3479", func := "redress/redresslaw17.DiskAll", spec := "diskAll", apart := false, narrowed := true }
def DiskAllUptoSaid : Prop := diskAllUptoRow.holds Try.pinned (OpenSpec.upto diskAllSpec)

/-- 'redresslaw17.DiskOne', WHERE WHAT IT READS IS OF BULK AT MOST 1048576: true; the input reads as it did. -/
def diskOneUptoRow : OpenClaim := { program := "ytphgoiepoojikaa", sum := "c09048cac1f1b9a80dda374a60685983f4b23239671ac95703604b0d3c7d3479", func := "redress/redresslaw17.DiskOne", spec := "diskOne", apart := false, narrowed := true }
def DiskOneUptoSaid : Prop := diskOneUptoRow.holds Try.pinned (OpenSpec.upto diskOneSpec)

/-- 'redresslaw17.DiskCut', WHERE WHAT IT READS IS OF BULK AT MOST 1048576: true; the input reads as it did. -/
def diskCutUptoRow : OpenClaim := { program := "ytphgoiepoojikaa", sum := "c09048cac1f1b9a80dda374a60685983f4b23239671ac95703604b0d3c7d3479", func := "redress/redresslaw17.DiskCut", spec := "diskCut", apart := false, narrowed := true }
def DiskCutUptoSaid : Prop := diskCutUptoRow.holds Try.pinned (OpenSpec.upto diskCutSpec)

/-- 'redresslaw17.DiskOwn', WHERE WHAT IT READS IS OF BULK AT MOST 1048576: true; the input reads as it did. -/
def diskOwnUptoRow : OpenClaim := { program := "ytphgoiepoojikaa", sum := "c09048cac1f1b9a80dda374a60685983f4b23239671ac95703604b0d3c7d3479", func := "redress/redresslaw17.DiskOwn", spec := "diskOwn", apart := false, narrowed := true }
def DiskOwnUptoSaid : Prop := diskOwnUptoRow.holds Try.pinned (OpenSpec.upto diskOwnSpec)

/-- 'redresslaw17.DiskAgain', WHERE WHAT IT READS IS OF BULK AT MOST 1048576: true; the input reads as it did. -/
def diskAgainUptoRow : OpenClaim := { program := "ytphgoiepoojikaa", sum := "c09048cac1f1b9a80dda374a60685983f4b23239671ac95703604b0d3c7d3479", func := "redress/redresslaw17.DiskAgain", spec := "diskAgain", apart := false, narrowed := true }
def DiskAgainUptoSaid : Prop := diskAgainUptoRow.holds Try.pinned (OpenSpec.upto diskAgainSpec)

end Rows
end Go.Proofs.Ytphgoiepoojikaa
