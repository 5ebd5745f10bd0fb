/-
  No cell of these rows narrows 'for every input' (looked for: loops, veiled, ifaces, maps, wideKeys, modest, calm, conditions, laid).
  DERIVED. THE GIVEN ROWS OF THIS SEAT. 6 by the template 'for every input the law returns true; each argument reads behind the call as it read before'; 0 by the template 'total and deterministic' (their statements: YtnlljjcbfhagfaaTotals.lean).
  GIVEN WITH THE SEED: the statements are not yours to turn. If you find one false, say at which input.
  Laid BY PROGRAM, IN A SANDBOX (cutbox-rows.mjs): the forced cells as the released guide's own fill.sh prints them over the translation 59b98e8f4116d78e… (all of the seat's roots in one cut). By AI agents, Wed Nov 11 2026. No macro, syntax, notation, axiom, sorry.
-/
import Derived.Test.YtnlljjcbfhagfaaChecked
import GoSem.Claim
import GoSem.ClaimJoined
import GoSem.ClaimMapViews
import Derived.JoinedTies
import Derived.KernelRfl
namespace Go.Proofs.Ytnlljjcbfhagfaa
/- THE CELL 'sum', in the pinned program and in every row, IS THE sha256 OF THE DUMP (.gsa) THAT YtnlljjcbfhagfaaProg.lean LOADS. Nothing in Lean hashes anything: it is a label: what it is worth is what the hold of that sum in a sandbox is worth. -/
noncomputable def Try.pinned : Pinned := { name := "ytnlljjcbfhagfaa", sum := "59b98e8f4116d78e9455445aae40c60d27811d6c66a6e9ffee332a59c9c27ebd", checked := Try.checked }
namespace Rows
def none {H : Type} : Left H := { results := [], args := [] }

/-- 'redresslaw01.SignIs': WHATEVER THE INPUT: true; the input reads as it did. -/
def signIsSpec : ChangeSpec := { name := "signIs", fn := fun _ => fun
  | [d1, d2] => { results := [.lit (.bool true)], args := [d1, d2] }
  | _ => none }
def signIsRow : OpenClaim := { program := "ytnlljjcbfhagfaa", sum := "59b98e8f4116d78e9455445aae40c60d27811d6c66a6e9ffee332a59c9c27ebd", func := "redress/redresslaw01.SignIs", spec := "signIs", apart := false }
def SignIsSaid : Prop := signIsRow.holds Try.pinned (OpenSpec.ofChange signIsSpec)

/-- ITS FALSE NEIGHBOUR: 'it returns false'. Refute it at one input. -/
def signIsWrong : ChangeSpec := { name := "signIs", fn := fun _ => fun
  | [d1, d2] => { results := [.lit (.bool false)], args := [d1, d2] }
  | _ => none }
def SignIsWrongFalsely : Prop := signIsRow.holds Try.pinned (OpenSpec.ofChange signIsWrong)

/-- 'redresslaw01.SignBoth': WHATEVER THE INPUT: true; the input reads as it did. -/
def signBothSpec : ChangeSpec := { name := "signBoth", fn := fun _ => fun
  | [d1, d2] => { results := [.lit (.bool true)], args := [d1, d2] }
  | _ => none }
def signBothRow : OpenClaim := { program := "ytnlljjcbfhagfaa", sum := "59b98e8f4116d78e9455445aae40c60d27811d6c66a6e9ffee332a59c9c27ebd", func := "redress/redresslaw01.SignBoth", spec := "signBoth", apart := false }
def SignBothSaid : Prop := signBothRow.holds Try.pinned (OpenSpec.ofChange signBothSpec)

/-- ITS FALSE NEIGHBOUR: 'it returns false'. Refute it at one input. -/
def signBothWrong : ChangeSpec := { name := "signBoth", fn := fun _ => fun
  | [d1, d2] => { results := [.lit (.bool false)], args := [d1, d2] }
  | _ => none }
def SignBothWrongFalsely : Prop := signBothRow.holds Try.pinned (OpenSpec.ofChange signBothWrong)

/-- 'redresslaw01.SignThree': WHATEVER THE INPUT: true; the input reads as it did. -/
def signThreeSpec : ChangeSpec := { name := "signThree", fn := fun _ => fun
  | [d1, d2, d3] => { results := [.lit (.bool true)], args := [d1, d2, d3] }
  | _ => none }
def signThreeRow : OpenClaim := { program := "ytnlljjcbfhagfaa", sum := "59b98e8f4116d78e9455445aae40c60d27811d6c66a6e9ffee332a59c9c27ebd", func := "redress/redresslaw01.SignThree", spec := "signThree", apart := false }
def SignThreeSaid : Prop := signThreeRow.holds Try.pinned (OpenSpec.ofChange signThreeSpec)

/-- ITS FALSE NEIGHBOUR: 'it returns false'. Refute it at one input. -/
def signThreeWrong : ChangeSpec := { name := "signThree", fn := fun _ => fun
  | [d1, d2, d3] => { results := [.lit (.bool false)], args := [d1, d2, d3] }
  | _ => none }
def SignThreeWrongFalsely : Prop := signThreeRow.holds Try.pinned (OpenSpec.ofChange signThreeWrong)

/-- 'redresslaw01.SignAll': WHATEVER THE INPUT: true; the input reads as it did. -/
def signAllSpec : ChangeSpec := { name := "signAll", fn := fun _ => fun
  | [d] => { results := [.lit (.bool true)], args := [d] }
  | _ => none }
def signAllRow : OpenClaim := { program := "ytnlljjcbfhagfaa", sum := "59b98e8f4116d78e9455445aae40c60d27811d6c66a6e9ffee332a59c9c27ebd", func := "redress/redresslaw01.SignAll", spec := "signAll", apart := false }
def SignAllSaid : Prop := signAllRow.holds Try.pinned (OpenSpec.ofChange signAllSpec)

/-- ITS FALSE NEIGHBOUR: 'it returns false'. Refute it at one input. -/
def signAllWrong : ChangeSpec := { name := "signAll", fn := fun _ => fun
  | [d] => { results := [.lit (.bool false)], args := [d] }
  | _ => none }
def SignAllWrongFalsely : Prop := signAllRow.holds Try.pinned (OpenSpec.ofChange signAllWrong)

/-- 'redresslaw01.SignSame': WHATEVER THE INPUT: true; the input reads as it did. -/
def signSameSpec : ChangeSpec := { name := "signSame", fn := fun _ => fun
  | [d] => { results := [.lit (.bool true)], args := [d] }
  | _ => none }
def signSameRow : OpenClaim := { program := "ytnlljjcbfhagfaa", sum := "59b98e8f4116d78e9455445aae40c60d27811d6c66a6e9ffee332a59c9c27ebd", func := "redress/redresslaw01.SignSame", spec := "signSame", apart := false }
def SignSameSaid : Prop := signSameRow.holds Try.pinned (OpenSpec.ofChange signSameSpec)

/-- ITS FALSE NEIGHBOUR: 'it returns false'. Refute it at one input. -/
def signSameWrong : ChangeSpec := { name := "signSame", fn := fun _ => fun
  | [d] => { results := [.lit (.bool false)], args := [d] }
  | _ => none }
def SignSameWrongFalsely : Prop := signSameRow.holds Try.pinned (OpenSpec.ofChange signSameWrong)

/-- 'redresslaw01.SignParts': WHATEVER THE INPUT: true; the input reads as it did. -/
def signPartsSpec : ChangeSpec := { name := "signParts", fn := fun _ => fun
  | [d1, d2] => { results := [.lit (.bool true)], args := [d1, d2] }
  | _ => none }
def signPartsRow : OpenClaim := { program := "ytnlljjcbfhagfaa", sum := "59b98e8f4116d78e9455445aae40c60d27811d6c66a6e9ffee332a59c9c27ebd", func := "redress/redresslaw01.SignParts", spec := "signParts", apart := false }
def SignPartsSaid : Prop := signPartsRow.holds Try.pinned (OpenSpec.ofChange signPartsSpec)

/-- ITS FALSE NEIGHBOUR: 'it returns false'. Refute it at one input. -/
def signPartsWrong : ChangeSpec := { name := "signParts", fn := fun _ => fun
  | [d1, d2] => { results := [.lit (.bool false)], args := [d1, d2] }
  | _ => none }
def SignPartsWrongFalsely : Prop := signPartsRow.holds Try.pinned (OpenSpec.ofChange signPartsWrong)

/- THE SECOND FORM. 'bulk': how many values and letters a reading holds, each counted each time it is reached (what is shared counts as often as it is met; a slice's spare places count too). A statement '..UptoSaid' is the law's where the arguments, and the package variables that the reading takes, are together of bulk at most 1048576: NARROWER than '..Said'. Prove '..Said' where nothing that the law and all that it calls make is longer than what came in: it says more and counts as full. Else prove '..UptoSaid'. A law counts once. -/
mutual
def uptoBulk {H : Type} : DataW H → Nat
  | .lit (.string bytes) => bytes.length + 1
  | .lit _ => 1
  | .nil => 1
  | .ptr d => uptoBulk d + 1
  | .slice elems spare => uptoBulkAll elems + uptoBulkAll spare + 1
  | .agg parts => uptoBulkAll parts + 1
  | .iface _ d => uptoBulk d + 1
  | .map entries => uptoBulkEntries entries + 1
  | .held _ => 1
def uptoBulkAll {H : Type} : List (DataW H) → Nat
  | [] => 0
  | d :: r => uptoBulk d + uptoBulkAll r
def uptoBulkEntries {H : Type} : List (Lit × DataW H) → Nat
  | [] => 0
  | x :: r => uptoBulkEntry x + uptoBulkEntries r
def uptoBulkEntry {H : Type} : Lit × DataW H → Nat
  | (.string bytes, d) => bytes.length + uptoBulk d + 1
  | (_, d) => uptoBulk d + 1
 end
def uptoSmall : (H : Type) → List (DataW H) → Bool := fun _ ds => decide (uptoBulkAll ds ≤ 1048576)
def OpenSpec.upto (s : _root_.Go.ChangeSpec) : _root_.Go.OpenSpec := { _root_.Go.OpenSpec.ofChange s with cond := some uptoSmall }

/-- 'redresslaw01.SignIs', WHERE WHAT IT READS IS OF BULK AT MOST 1048576: true; the input reads as it did. -/
def signIsUptoRow : OpenClaim := { program := "ytnlljjcbfhagfaa", sum := "59b98e8f4116d78e9455445aae40c60d27811d6c66a6e9ffee332a59c9c27ebd", func := "redress/redresslaw01.SignIs", spec := "signIs", apart := false, narrowed := true }
def SignIsUptoSaid : Prop := signIsUptoRow.holds Try.pinned (OpenSpec.upto signIsSpec)

/-- 'redresslaw01.SignBoth', WHERE WHAT IT READS IS OF BULK AT MOST 1048576: true; the input reads as it did. -/
def signBothUptoRow : OpenClaim := { program := "ytnlljjcbfhagfaa", sum := "59b98e8f4116d78e9455445aae40c60d27811d6c66a6e9ffee332a59c9c27ebd", func := "redress/redresslaw01.SignBoth", spec := "signBoth", apart := false, narrowed := true }
def SignBothUptoSaid : Prop := signBothUptoRow.holds Try.pinned (OpenSpec.upto signBothSpec)

/-- 'redresslaw01.SignThree', WHERE WHAT IT READS IS OF BULK AT MOST 1048576: true; the input reads as it did. -/
def signThreeUptoRow : OpenClaim := { program := "ytnlljjcbfhagfaa", sum := "59b98e8f4116d78e9455445aae40c60d27811d6c66a6e9ffee332a59c9c27ebd", func := "redress/redresslaw01.SignThree", spec := "signThree", apart := false, narrowed := true }
def SignThreeUptoSaid : Prop := signThreeUptoRow.holds Try.pinned (OpenSpec.upto signThreeSpec)

/-- 'redresslaw01.SignAll', WHERE WHAT IT READS IS OF BULK AT MOST 1048576: true; the input reads as it did. -/
def signAllUptoRow : OpenClaim := { program := "ytnlljjcbfhagfaa", sum := "59b98e8f4116d78e9455445aae40c60d27811d6c66a6e9ffee332a59c9c27ebd", func := "redress/redresslaw01.SignAll", spec := "signAll", apart := false, narrowed := true }
def SignAllUptoSaid : Prop := signAllUptoRow.holds Try.pinned (OpenSpec.upto signAllSpec)

/-- 'redresslaw01.SignSame', WHERE WHAT IT READS IS OF BULK AT MOST 1048576: true; the input reads as it did. -/
def signSameUptoRow : OpenClaim := { program := "ytnlljjcbfhagfaa", sum := "59b98e8f4116d78e9455445aae40c60d27811d6c66a6e9ffee332a59c9c27ebd", func := "redress/redresslaw01.SignSame", spec := "signSame", apart := false, narrowed := true }
def SignSameUptoSaid : Prop := signSameUptoRow.holds Try.pinned (OpenSpec.upto signSameSpec)

/-- 'redresslaw01.SignParts', WHERE WHAT IT READS IS OF BULK AT MOST 1048576: true; the input reads as it did. -/
def signPartsUptoRow : OpenClaim := { program := "ytnlljjcbfhagfaa", sum := "59b98e8f4116d78e9455445aae40c60d27811d6c66a6e9ffee332a59c9c27ebd", func := "redress/redresslaw01.SignParts", spec := "signParts", apart := false, narrowed := true }
def SignPartsUptoSaid : Prop := signPartsUptoRow.holds Try.pinned (OpenSpec.upto signPartsSpec)

end Rows
end Go.Proofs.Ytnlljjcbfhagfaa
