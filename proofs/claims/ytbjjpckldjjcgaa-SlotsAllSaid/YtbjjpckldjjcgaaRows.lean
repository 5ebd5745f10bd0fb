/-
  No cell of these rows narrows 'for every input' (looked for: loops, veiled, ifaces, maps, wideKeys, modest, calm, conditions, laid).
  DERIVED. THE GIVEN ROWS OF THIS SEAT. 7 by the template 'for every input the law returns true; each argument reads behind the call as it read before'; 0 by the template 'total and deterministic' (their statements: YtbjjpckldjjcgaaTotals.lean).
  GIVEN WITH THE SEED: the statements are not yours to turn. If you find one false, say at which input.
  Laid BY PROGRAM, IN A SANDBOX (cutbox-rows.mjs): the forced cells as the released guide's own fill.sh prints them over the translation 359d476c0c2e9df3… (all of the seat's roots in one cut). By AI agents, Wed Nov 11 2026. No macro, syntax, notation, axiom, sorry.
-/
import Derived.Test.YtbjjpckldjjcgaaChecked
import GoSem.Claim
import GoSem.ClaimJoined
import GoSem.ClaimMapViews
import Derived.JoinedTies
import Derived.KernelRfl
namespace Go.Proofs.Ytbjjpckldjjcgaa
/- THE CELL 'sum', in the pinned program and in every row, IS THE sha256 OF THE DUMP (.gsa) THAT YtbjjpckldjjcgaaProg.lean LOADS. Nothing in Lean hashes anything: it is a label: what it is worth is what the hold of that sum in a sandbox is worth. -/
noncomputable def Try.pinned : Pinned := { name := "ytbjjpckldjjcgaa", sum := "359d476c0c2e9df3f81da19aa6be47c83e87524458e306ab44c8c91287e0cae0", checked := Try.checked }
namespace Rows
def none {H : Type} : Left H := { results := [], args := [] }

/-- 'redresslaw18.SlotsTorn': WHATEVER THE INPUT: true; the input reads as it did. -/
def slotsTornSpec : ChangeSpec := { name := "slotsTorn", fn := fun _ => fun
  | [d1, d2, d3] => { results := [.lit (.bool true)], args := [d1, d2, d3] }
  | _ => none }
def slotsTornRow : OpenClaim := { program := "ytbjjpckldjjcgaa", sum := "359d476c0c2e9df3f81da19aa6be47c83e87524458e306ab44c8c91287e0cae0", func := "redress/redresslaw18.SlotsTorn", spec := "slotsTorn", apart := false }
def SlotsTornSaid : Prop := slotsTornRow.holds Try.pinned (OpenSpec.ofChange slotsTornSpec)

/-- ITS FALSE NEIGHBOUR: 'it returns false'. Refute it at one input. -/
def slotsTornWrong : ChangeSpec := { name := "slotsTorn", fn := fun _ => fun
  | [d1, d2, d3] => { results := [.lit (.bool false)], args := [d1, d2, d3] }
  | _ => none }
def SlotsTornWrongFalsely : Prop := slotsTornRow.holds Try.pinned (OpenSpec.ofChange slotsTornWrong)

/-- 'redresslaw18.SlotsNew': WHATEVER THE INPUT: true; the input reads as it did. -/
def slotsNewSpec : ChangeSpec := { name := "slotsNew", fn := fun _ => fun
  | [d] => { results := [.lit (.bool true)], args := [d] }
  | _ => none }
def slotsNewRow : OpenClaim := { program := "ytbjjpckldjjcgaa", sum := "359d476c0c2e9df3f81da19aa6be47c83e87524458e306ab44c8c91287e0cae0", func := "redress/redresslaw18.SlotsNew", spec := "slotsNew", apart := false }
def SlotsNewSaid : Prop := slotsNewRow.holds Try.pinned (OpenSpec.ofChange slotsNewSpec)

/-- ITS FALSE NEIGHBOUR: 'it returns false'. Refute it at one input. -/
def slotsNewWrong : ChangeSpec := { name := "slotsNew", fn := fun _ => fun
  | [d] => { results := [.lit (.bool false)], args := [d] }
  | _ => none }
def SlotsNewWrongFalsely : Prop := slotsNewRow.holds Try.pinned (OpenSpec.ofChange slotsNewWrong)

/-- 'redresslaw18.SlotsBoth': WHATEVER THE INPUT: true; the input reads as it did. -/
def slotsBothSpec : ChangeSpec := { name := "slotsBoth", fn := fun _ => fun
  | [d1, d2, d3] => { results := [.lit (.bool true)], args := [d1, d2, d3] }
  | _ => none }
def slotsBothRow : OpenClaim := { program := "ytbjjpckldjjcgaa", sum := "359d476c0c2e9df3f81da19aa6be47c83e87524458e306ab44c8c91287e0cae0", func := "redress/redresslaw18.SlotsBoth", spec := "slotsBoth", apart := false }
def SlotsBothSaid : Prop := slotsBothRow.holds Try.pinned (OpenSpec.ofChange slotsBothSpec)

/-- ITS FALSE NEIGHBOUR: 'it returns false'. Refute it at one input. -/
def slotsBothWrong : ChangeSpec := { name := "slotsBoth", fn := fun _ => fun
  | [d1, d2, d3] => { results := [.lit (.bool false)], args := [d1, d2, d3] }
  | _ => none }
def SlotsBothWrongFalsely : Prop := slotsBothRow.holds Try.pinned (OpenSpec.ofChange slotsBothWrong)

/-- 'redresslaw18.SlotsCut': WHATEVER THE INPUT: true; the input reads as it did. -/
def slotsCutSpec : ChangeSpec := { name := "slotsCut", fn := fun _ => fun
  | [d1, d2, d3] => { results := [.lit (.bool true)], args := [d1, d2, d3] }
  | _ => none }
def slotsCutRow : OpenClaim := { program := "ytbjjpckldjjcgaa", sum := "359d476c0c2e9df3f81da19aa6be47c83e87524458e306ab44c8c91287e0cae0", func := "redress/redresslaw18.SlotsCut", spec := "slotsCut", apart := false }
def SlotsCutSaid : Prop := slotsCutRow.holds Try.pinned (OpenSpec.ofChange slotsCutSpec)

/-- ITS FALSE NEIGHBOUR: 'it returns false'. Refute it at one input. -/
def slotsCutWrong : ChangeSpec := { name := "slotsCut", fn := fun _ => fun
  | [d1, d2, d3] => { results := [.lit (.bool false)], args := [d1, d2, d3] }
  | _ => none }
def SlotsCutWrongFalsely : Prop := slotsCutRow.holds Try.pinned (OpenSpec.ofChange slotsCutWrong)

/-- 'redresslaw18.SlotsTurn': WHATEVER THE INPUT: true; the input reads as it did. -/
def slotsTurnSpec : ChangeSpec := { name := "slotsTurn", fn := fun _ => fun
  | [d1, d2, d3] => { results := [.lit (.bool true)], args := [d1, d2, d3] }
  | _ => none }
def slotsTurnRow : OpenClaim := { program := "ytbjjpckldjjcgaa", sum := "359d476c0c2e9df3f81da19aa6be47c83e87524458e306ab44c8c91287e0cae0", func := "redress/redresslaw18.SlotsTurn", spec := "slotsTurn", apart := false }
def SlotsTurnSaid : Prop := slotsTurnRow.holds Try.pinned (OpenSpec.ofChange slotsTurnSpec)

/-- ITS FALSE NEIGHBOUR: 'it returns false'. Refute it at one input. -/
def slotsTurnWrong : ChangeSpec := { name := "slotsTurn", fn := fun _ => fun
  | [d1, d2, d3] => { results := [.lit (.bool false)], args := [d1, d2, d3] }
  | _ => none }
def SlotsTurnWrongFalsely : Prop := slotsTurnRow.holds Try.pinned (OpenSpec.ofChange slotsTurnWrong)

/-- 'redresslaw18.SlotsRefused': WHATEVER THE INPUT: true; the input reads as it did. -/
def slotsRefusedSpec : ChangeSpec := { name := "slotsRefused", fn := fun _ => fun
  | [d1, d2, d3] => { results := [.lit (.bool true)], args := [d1, d2, d3] }
  | _ => none }
def slotsRefusedRow : OpenClaim := { program := "ytbjjpckldjjcgaa", sum := "359d476c0c2e9df3f81da19aa6be47c83e87524458e306ab44c8c91287e0cae0", func := "redress/redresslaw18.SlotsRefused", spec := "slotsRefused", apart := false }
def SlotsRefusedSaid : Prop := slotsRefusedRow.holds Try.pinned (OpenSpec.ofChange slotsRefusedSpec)

/-- ITS FALSE NEIGHBOUR: 'it returns false'. Refute it at one input. -/
def slotsRefusedWrong : ChangeSpec := { name := "slotsRefused", fn := fun _ => fun
  | [d1, d2, d3] => { results := [.lit (.bool false)], args := [d1, d2, d3] }
  | _ => none }
def SlotsRefusedWrongFalsely : Prop := slotsRefusedRow.holds Try.pinned (OpenSpec.ofChange slotsRefusedWrong)

/-- 'redresslaw18.SlotsAll': WHATEVER THE INPUT: true; the input reads as it did. -/
def slotsAllSpec : ChangeSpec := { name := "slotsAll", fn := fun _ => fun
  | [d1, d2] => { results := [.lit (.bool true)], args := [d1, d2] }
  | _ => none }
def slotsAllRow : OpenClaim := { program := "ytbjjpckldjjcgaa", sum := "359d476c0c2e9df3f81da19aa6be47c83e87524458e306ab44c8c91287e0cae0", func := "redress/redresslaw18.SlotsAll", spec := "slotsAll", apart := false }
def SlotsAllSaid : Prop := slotsAllRow.holds Try.pinned (OpenSpec.ofChange slotsAllSpec)

/-- ITS FALSE NEIGHBOUR: 'it returns false'. Refute it at one input. -/
def slotsAllWrong : ChangeSpec := { name := "slotsAll", fn := fun _ => fun
  | [d1, d2] => { results := [.lit (.bool false)], args := [d1, d2] }
  | _ => none }
def SlotsAllWrongFalsely : Prop := slotsAllRow.holds Try.pinned (OpenSpec.ofChange slotsAllWrong)

/- THE SECOND FORM. 'bulk': how many values and letters a reading holds, each counted each time it is reached (what is shared counts as often as it is met; a slice's spare places count too). A statement '..UptoSaid' is the law's where the arguments, and the package variables that the reading takes, are together of bulk at most 1048576: NARROWER than '..Said'. Prove '..Said' where nothing that the law and all that it calls make is longer than what came in: it says more and counts as full. Else prove '..UptoSaid'. A law counts once. -/
mutual
def uptoBulk {H : Type} : DataW H → Nat
  | .lit (.string bytes) => bytes.length + 1
  | .lit _ => 1
  | .nil => 1
  | .ptr d => uptoBulk d + 1
  | .slice elems spare => uptoBulkAll elems + uptoBulkAll spare + 1
  | .agg parts => uptoBulkAll parts + 1
  | .iface _ d => uptoBulk d + 1
  | .map entries => uptoBulkEntries entries + 1
  | .held _ => 1
def uptoBulkAll {H : Type} : List (DataW H) → Nat
  | [] => 0
  | d :: r => uptoBulk d + uptoBulkAll r
def uptoBulkEntries {H : Type} : List (Lit × DataW H) → Nat
  | [] => 0
  | x :: r => uptoBulkEntry x + uptoBulkEntries r
def uptoBulkEntry {H : Type} : Lit × DataW H → Nat
  | (.string bytes, d) => bytes.length + uptoBulk d + 1
  | (_, d) => uptoBulk d + 1
 end
def uptoSmall : (H : Type) → List (DataW H) → Bool := fun _ ds => decide (uptoBulkAll ds ≤ 1048576)
def OpenSpec.upto (s : _root_.Go.ChangeSpec) : _root_.Go.OpenSpec := { _root_.Go.OpenSpec.ofChange s with cond := some uptoSmall }

/-- 'redresslaw18.SlotsTorn', WHERE WHAT IT READS IS OF BULK AT MOST 1048576: true; the input reads as it did. -/
def slotsTornUptoRow : OpenClaim := { program := "ytbjjpckldjjcgaa", sum := "359d476c0c2e9df3f81da19aa6be47c83e87524458e306ab44c8c91287e0cae0", func := "redress/redresslaw18.SlotsTorn", spec := "slotsTorn", apart := false, narrowed := true }
def SlotsTornUptoSaid : Prop := slotsTornUptoRow.holds Try.pinned (OpenSpec.upto slotsTornSpec)

/-- 'redresslaw18.SlotsNew', WHERE WHAT IT READS IS OF BULK AT MOST 1048576: true; the input reads as it did. -/
def slotsNewUptoRow : OpenClaim := { program := "ytbjjpckldjjcgaa", sum := "359d476c0c2e9df3f81da19aa6be47c83e87524458e306ab44c8c91287e0cae0", func := "redress/redresslaw18.SlotsNew", spec := "slotsNew", apart := false, narrowed := true }
def SlotsNewUptoSaid : Prop := slotsNewUptoRow.holds Try.pinned (OpenSpec.upto slotsNewSpec)

/-- 'redresslaw18.SlotsBoth', WHERE WHAT IT READS IS OF BULK AT MOST 1048576: true; the input reads as it did. -/
def slotsBothUptoRow : OpenClaim := { program := "ytbjjpckldjjcgaa", sum := "359d476c0c2e9df3f81da19aa6be47c83e87524458e306ab44c8c91287e0cae0", func := "redress/redresslaw18.SlotsBoth", spec := "slotsBoth", apart := false, narrowed := true }
def SlotsBothUptoSaid : Prop := slotsBothUptoRow.holds Try.pinned (OpenSpec.upto slotsBothSpec)

/-- 'redresslaw18.SlotsCut', WHERE WHAT IT READS IS OF BULK AT MOST 1048576: true; the input reads as it did. -/
def slotsCutUptoRow : OpenClaim := { program := "ytbjjpckldjjcgaa", sum := "359d476c0c2e9df3f81da19aa6be47c83e87524458e306ab44c8c91287e0cae0", func := "redress/redresslaw18.SlotsCut", spec := "slotsCut", apart := false, narrowed := true }
def SlotsCutUptoSaid : Prop := slotsCutUptoRow.holds Try.pinned (OpenSpec.upto slotsCutSpec)

/-- 'redresslaw18.SlotsTurn', WHERE WHAT IT READS IS OF BULK AT MOST 1048576: true; the input reads as it did. -/
def slotsTurnUptoRow : OpenClaim := { program := "ytbjjpckldjjcgaa", sum := "359d476c0c2e9df3f81da19aa6be47c83e87524458e306ab44c8c91287e0cae0", func := "redress/redresslaw18.SlotsTurn", spec := "slotsTurn", apart := false, narrowed := true }
def SlotsTurnUptoSaid : Prop := slotsTurnUptoRow.holds Try.pinned (OpenSpec.upto slotsTurnSpec)

/-- 'redresslaw18.SlotsRefused', WHERE WHAT IT READS IS OF BULK AT MOST 1048576: true; the input reads as it did. -/
def slotsRefusedUptoRow : OpenClaim := { program := "ytbjjpckldjjcgaa", sum := "359d476c0c2e9df3f81da19aa6be47c83e87524458e306ab44c8c91287e0cae0", func := "redress/redresslaw18.SlotsRefused", spec := "slotsRefused", apart := false, narrowed := true }
def SlotsRefusedUptoSaid : Prop := slotsRefusedUptoRow.holds Try.pinned (OpenSpec.upto slotsRefusedSpec)

/-- 'redresslaw18.SlotsAll', WHERE WHAT IT READS IS OF BULK AT MOST 1048576: true; the input reads as it did. -/
def slotsAllUptoRow : OpenClaim := { program := "ytbjjpckldjjcgaa", sum := "359d476c0c2e9df3f81da19aa6be47c83e87524458e306ab44c8c91287e0cae0", func := "redress/redresslaw18.SlotsAll", spec := "slotsAll", apart := false, narrowed := true }
def SlotsAllUptoSaid : Prop := slotsAllUptoRow.holds Try.pinned (OpenSpec.upto slotsAllSpec)

end Rows
end Go.Proofs.Ytbjjpckldjjcgaa
