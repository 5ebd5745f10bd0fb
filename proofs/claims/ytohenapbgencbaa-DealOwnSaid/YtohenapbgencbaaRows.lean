/-
  No cell of these rows narrows 'for every input' (looked for: loops, veiled, ifaces, maps, wideKeys, modest, calm, conditions, laid).
  DERIVED. THE GIVEN ROWS OF THIS SEAT. 6 by the template 'for every input the law returns true; each argument reads behind the call as it read before'; 0 by the template 'total and deterministic' (their statements: YtohenapbgencbaaTotals.lean).
  GIVEN WITH THE SEED: the statements are not yours to turn. If you find one false, say at which input.
  Laid BY PROGRAM, IN A SANDBOX (cutbox-rows.mjs): the forced cells as the released guide's own fill.sh prints them over the translation c467365aaf4d0384… (all of the seat's roots in one cut). By AI agents, Wed Nov 11 2026. No macro, syntax, notation, axiom, sorry.
-/
import Derived.Test.YtohenapbgencbaaChecked
import GoSem.Claim
import GoSem.ClaimJoined
import GoSem.ClaimMapViews
import Derived.JoinedTies
import Derived.KernelRfl
namespace Go.Proofs.Ytohenapbgencbaa
/- THE CELL 'sum', in the pinned program and in every row, IS THE sha256 OF THE DUMP (.gsa) THAT YtohenapbgencbaaProg.lean LOADS. Nothing in Lean hashes anything: it is a label: what it is worth is what the hold of that sum in a sandbox is worth. -/
noncomputable def Try.pinned : Pinned := { name := "ytohenapbgencbaa", sum := "c467365aaf4d03849c8b54071b8894b73903fc7117bebc7a1b1bb69885104df8", checked := Try.checked }
namespace Rows
def none {H : Type} : Left H := { results := [], args := [] }

/-- 'redresslaw20.DealAll': WHATEVER THE INPUT: true; the input reads as it did. -/
def dealAllSpec : ChangeSpec := { name := "dealAll", fn := fun _ => fun
  | [d1, d2] => { results := [.lit (.bool true)], args := [d1, d2] }
  | _ => none }
def dealAllRow : OpenClaim := { program := "ytohenapbgencbaa", sum := "c467365aaf4d03849c8b54071b8894b73903fc7117bebc7a1b1bb69885104df8", func := "redress/redresslaw20.DealAll", spec := "dealAll", unfollowed := true, recurses := true, apart := false }
def DealAllSaid : Prop := dealAllRow.holds Try.pinned (OpenSpec.ofChange dealAllSpec)

/-- ITS FALSE NEIGHBOUR: 'it returns false'. Refute it at one input. -/
def dealAllWrong : ChangeSpec := { name := "dealAll", fn := fun _ => fun
  | [d1, d2] => { results := [.lit (.bool false)], args := [d1, d2] }
  | _ => none }
def DealAllWrongFalsely : Prop := dealAllRow.holds Try.pinned (OpenSpec.ofChange dealAllWrong)

/-- 'redresslaw20.DealAgain': WHATEVER THE INPUT: true; the input reads as it did. -/
def dealAgainSpec : ChangeSpec := { name := "dealAgain", fn := fun _ => fun
  | [d1, d2, d3] => { results := [.lit (.bool true)], args := [d1, d2, d3] }
  | _ => none }
def dealAgainRow : OpenClaim := { program := "ytohenapbgencbaa", sum := "c467365aaf4d03849c8b54071b8894b73903fc7117bebc7a1b1bb69885104df8", func := "redress/redresslaw20.DealAgain", spec := "dealAgain", unfollowed := true, recurses := true, apart := false }
def DealAgainSaid : Prop := dealAgainRow.holds Try.pinned (OpenSpec.ofChange dealAgainSpec)

/-- ITS FALSE NEIGHBOUR: 'it returns false'. Refute it at one input. -/
def dealAgainWrong : ChangeSpec := { name := "dealAgain", fn := fun _ => fun
  | [d1, d2, d3] => { results := [.lit (.bool false)], args := [d1, d2, d3] }
  | _ => none }
def DealAgainWrongFalsely : Prop := dealAgainRow.holds Try.pinned (OpenSpec.ofChange dealAgainWrong)

/-- 'redresslaw20.DealOnce': WHATEVER THE INPUT: true; the input reads as it did. -/
def dealOnceSpec : ChangeSpec := { name := "dealOnce", fn := fun _ => fun
  | [d1, d2] => { results := [.lit (.bool true)], args := [d1, d2] }
  | _ => none }
def dealOnceRow : OpenClaim := { program := "ytohenapbgencbaa", sum := "c467365aaf4d03849c8b54071b8894b73903fc7117bebc7a1b1bb69885104df8", func := "redress/redresslaw20.DealOnce", spec := "dealOnce", unfollowed := true, recurses := true, apart := false }
def DealOnceSaid : Prop := dealOnceRow.holds Try.pinned (OpenSpec.ofChange dealOnceSpec)

/-- ITS FALSE NEIGHBOUR: 'it returns false'. Refute it at one input. -/
def dealOnceWrong : ChangeSpec := { name := "dealOnce", fn := fun _ => fun
  | [d1, d2] => { results := [.lit (.bool false)], args := [d1, d2] }
  | _ => none }
def DealOnceWrongFalsely : Prop := dealOnceRow.holds Try.pinned (OpenSpec.ofChange dealOnceWrong)

/-- 'redresslaw20.DealNone': WHATEVER THE INPUT: true; the input reads as it did. -/
def dealNoneSpec : ChangeSpec := { name := "dealNone", fn := fun _ => fun
  | [d] => { results := [.lit (.bool true)], args := [d] }
  | _ => none }
def dealNoneRow : OpenClaim := { program := "ytohenapbgencbaa", sum := "c467365aaf4d03849c8b54071b8894b73903fc7117bebc7a1b1bb69885104df8", func := "redress/redresslaw20.DealNone", spec := "dealNone", unfollowed := true, recurses := true, apart := false }
def DealNoneSaid : Prop := dealNoneRow.holds Try.pinned (OpenSpec.ofChange dealNoneSpec)

/-- ITS FALSE NEIGHBOUR: 'it returns false'. Refute it at one input. -/
def dealNoneWrong : ChangeSpec := { name := "dealNone", fn := fun _ => fun
  | [d] => { results := [.lit (.bool false)], args := [d] }
  | _ => none }
def DealNoneWrongFalsely : Prop := dealNoneRow.holds Try.pinned (OpenSpec.ofChange dealNoneWrong)

/-- 'redresslaw20.DealOwn': WHATEVER THE INPUT: true; the input reads as it did. -/
def dealOwnSpec : ChangeSpec := { name := "dealOwn", fn := fun _ => fun
  | [d1, d2] => { results := [.lit (.bool true)], args := [d1, d2] }
  | _ => none }
def dealOwnRow : OpenClaim := { program := "ytohenapbgencbaa", sum := "c467365aaf4d03849c8b54071b8894b73903fc7117bebc7a1b1bb69885104df8", func := "redress/redresslaw20.DealOwn", spec := "dealOwn", unfollowed := true, recurses := true, apart := false }
def DealOwnSaid : Prop := dealOwnRow.holds Try.pinned (OpenSpec.ofChange dealOwnSpec)

/-- ITS FALSE NEIGHBOUR: 'it returns false'. Refute it at one input. -/
def dealOwnWrong : ChangeSpec := { name := "dealOwn", fn := fun _ => fun
  | [d1, d2] => { results := [.lit (.bool false)], args := [d1, d2] }
  | _ => none }
def DealOwnWrongFalsely : Prop := dealOwnRow.holds Try.pinned (OpenSpec.ofChange dealOwnWrong)

/-- 'redresslaw20.DealMore': WHATEVER THE INPUT: true; the input reads as it did. -/
def dealMoreSpec : ChangeSpec := { name := "dealMore", fn := fun _ => fun
  | [d1, d2, d3] => { results := [.lit (.bool true)], args := [d1, d2, d3] }
  | _ => none }
def dealMoreRow : OpenClaim := { program := "ytohenapbgencbaa", sum := "c467365aaf4d03849c8b54071b8894b73903fc7117bebc7a1b1bb69885104df8", func := "redress/redresslaw20.DealMore", spec := "dealMore", unfollowed := true, recurses := true, apart := false }
def DealMoreSaid : Prop := dealMoreRow.holds Try.pinned (OpenSpec.ofChange dealMoreSpec)

/-- ITS FALSE NEIGHBOUR: 'it returns false'. Refute it at one input. -/
def dealMoreWrong : ChangeSpec := { name := "dealMore", fn := fun _ => fun
  | [d1, d2, d3] => { results := [.lit (.bool false)], args := [d1, d2, d3] }
  | _ => none }
def DealMoreWrongFalsely : Prop := dealMoreRow.holds Try.pinned (OpenSpec.ofChange dealMoreWrong)

/- THE SECOND FORM. 'bulk': how many values and letters a reading holds, each counted each time it is reached (what is shared counts as often as it is met; a slice's spare places count too). A statement '..UptoSaid' is the law's where the arguments, and the package variables that the reading takes, are together of bulk at most 1048576: NARROWER than '..Said'. Prove '..Said' where nothing that the law and all that it calls make is longer than what came in: it says more and counts as full. Else prove '..UptoSaid'. A law counts once. -/
mutual
def uptoBulk {H : Type} : DataW H → Nat
  | .lit (.string bytes) => bytes.length + 1
  | .lit _ => 1
  | .nil => 1
  | .ptr d => uptoBulk d + 1
  | .slice elems spare => uptoBulkAll elems + uptoBulkAll spare + 1
  | .agg parts => uptoBulkAll parts + 1
  | .iface _ d => uptoBulk d + 1
  | .map entries => uptoBulkEntries entries + 1
  | .held _ => 1
def uptoBulkAll {H : Type} : List (DataW H) → Nat
  | [] => 0
  | d :: r => uptoBulk d + uptoBulkAll r
def uptoBulkEntries {H : Type} : List (Lit × DataW H) → Nat
  | [] => 0
  | x :: r => uptoBulkEntry x + uptoBulkEntries r
def uptoBulkEntry {H : Type} : Lit × DataW H → Nat
  | (.string bytes, d) => bytes.length + uptoBulk d + 1
  | (_, d) => uptoBulk d + 1
 end
def uptoSmall : (H : Type) → List (DataW H) → Bool := fun _ ds => decide (uptoBulkAll ds ≤ 1048576)
def OpenSpec.upto (s : _root_.Go.ChangeSpec) : _root_.Go.OpenSpec := { _root_.Go.OpenSpec.ofChange s with cond := some uptoSmall }

/-- 'redresslaw20.DealAll', WHERE WHAT IT READS IS OF BULK AT MOST 1048576: true; the input reads as it did. -/
def dealAllUptoRow : OpenClaim := { program := "ytohenapbgencbaa", sum := "c467365aaf4d03849c8b54071b8894b73903fc7117bebc7a1b1bb69885104df8", func := "redress/redresslaw20.DealAll", spec := "dealAll", unfollowed := true, recurses := true, apart := false, narrowed := true }
def DealAllUptoSaid : Prop := dealAllUptoRow.holds Try.pinned (OpenSpec.upto dealAllSpec)

/-- 'redresslaw20.DealAgain', WHERE WHAT IT READS IS OF BULK AT MOST 1048576: true; the input reads as it did. -/
def dealAgainUptoRow : OpenClaim := { program := "ytohenapbgencbaa", sum := "c467365aaf4d03849c8b54071b8894b73903fc7117bebc7a1b1bb69885104df8", func := "redress/redresslaw20.DealAgain", spec := "dealAgain", unfollowed := true, recurses := true, apart := false, narrowed := true }
def DealAgainUptoSaid : Prop := dealAgainUptoRow.holds Try.pinned (OpenSpec.upto dealAgainSpec)

/-- 'redresslaw20.DealOnce', WHERE WHAT IT READS IS OF BULK AT MOST 1048576: true; the input reads as it did. -/
def dealOnceUptoRow : OpenClaim := { program := "ytohenapbgencbaa", sum := "c467365aaf4d03849c8b54071b8894b73903fc7117bebc7a1b1bb69885104df8", func := "redress/redresslaw20.DealOnce", spec := "dealOnce", unfollowed := true, recurses := true, apart := false, narrowed := true }
def DealOnceUptoSaid : Prop := dealOnceUptoRow.holds Try.pinned (OpenSpec.upto dealOnceSpec)

/-- 'redresslaw20.DealNone', WHERE WHAT IT READS IS OF BULK AT MOST 1048576: true; the input reads as it did. -/
def dealNoneUptoRow : OpenClaim := { program := "ytohenapbgencbaa", sum := "c467365aaf4d03849c8b54071b8894b73903fc7117bebc7a1b1bb69885104df8", func := "redress/redresslaw20.DealNone", spec := "dealNone", unfollowed := true, recurses := true, apart := false, narrowed := true }
def DealNoneUptoSaid : Prop := dealNoneUptoRow.holds Try.pinned (OpenSpec.upto dealNoneSpec)

/-- 'redresslaw20.DealOwn', WHERE WHAT IT READS IS OF BULK AT MOST 1048576: true; the input reads as it did. -/
def dealOwnUptoRow : OpenClaim := { program := "ytohenapbgencbaa", sum := "c467365aaf4d03849c8b54071b8894b73903fc7117bebc7a1b1bb69885104df8", func := "redress/redresslaw20.DealOwn", spec := "dealOwn", unfollowed := true, recurses := true, apart := false, narrowed := true }
def DealOwnUptoSaid : Prop := dealOwnUptoRow.holds Try.pinned (OpenSpec.upto dealOwnSpec)

/-- 'redresslaw20.DealMore', WHERE WHAT IT READS IS OF BULK AT MOST 1048576: true; the input reads as it did. -/
def dealMoreUptoRow : OpenClaim := { program := "ytohenapbgencbaa", sum := "c467365aaf4d03849c8b54071b8894b73903fc7117bebc7a1b1bb69885104df8", func := "redress/redresslaw20.DealMore", spec := "dealMore", unfollowed := true, recurses := true, apart := false, narrowed := true }
def DealMoreUptoSaid : Prop := dealMoreUptoRow.holds Try.pinned (OpenSpec.upto dealMoreSpec)

end Rows
end Go.Proofs.Ytohenapbgencbaa
