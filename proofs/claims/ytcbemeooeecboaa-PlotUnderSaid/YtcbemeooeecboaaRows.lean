/-
  No cell of these rows narrows 'for every input' (looked for: loops, veiled, ifaces, maps, wideKeys, modest, calm, conditions, laid).
  DERIVED. THE GIVEN ROWS OF THIS SEAT. 6 by the template 'for every input the law returns true; each argument reads behind the call as it read before'; 0 by the template 'total and deterministic' (their statements: YtcbemeooeecboaaTotals.lean).
  GIVEN WITH THE SEED: the statements are not yours to turn. If you find one false, say at which input.
  Laid BY PROGRAM, IN A SANDBOX (cutbox-rows.mjs): the forced cells as the released guide's own fill.sh prints them over the translation f4b120e4f15c4919… (all of the seat's roots in one cut). By AI agents, Wed Nov 11 2026. No macro, syntax, notation, axiom, sorry.
-/
import Derived.Test.YtcbemeooeecboaaChecked
import GoSem.Claim
import GoSem.ClaimJoined
import GoSem.ClaimMapViews
import Derived.JoinedTies
import Derived.KernelRfl
namespace Go.Proofs.Ytcbemeooeecboaa
/- THE CELL 'sum', in the pinned program and in every row, IS THE sha256 OF THE DUMP (.gsa) THAT YtcbemeooeecboaaProg.lean LOADS. Nothing in Lean hashes anything: it is a label: what it is worth is what the hold of that sum in a sandbox is worth. -/
noncomputable def Try.pinned : Pinned := { name := "ytcbemeooeecboaa", sum := "f4b120e4f15c4919d5da0dff4ad0213868bb69e25e8ddbb567f689c9281259ec", checked := Try.checked }
namespace Rows
def none {H : Type} : Left H := { results := [], args := [] }

/-- 'redresslaw09.PlotPoints': WHATEVER THE INPUT: true; the input reads as it did. -/
def plotPointsSpec : ChangeSpec := { name := "plotPoints", fn := fun _ => fun
  | [d] => { results := [.lit (.bool true)], args := [d] }
  | _ => none }
def plotPointsRow : OpenClaim := { program := "ytcbemeooeecboaa", sum := "f4b120e4f15c4919d5da0dff4ad0213868bb69e25e8ddbb567f689c9281259ec", func := "redress/redresslaw09.PlotPoints", spec := "plotPoints", unfollowed := true, recurses := true, apart := false }
def PlotPointsSaid : Prop := plotPointsRow.holds Try.pinned (OpenSpec.ofChange plotPointsSpec)

/-- ITS FALSE NEIGHBOUR: 'it returns false'. Refute it at one input. -/
def plotPointsWrong : ChangeSpec := { name := "plotPoints", fn := fun _ => fun
  | [d] => { results := [.lit (.bool false)], args := [d] }
  | _ => none }
def PlotPointsWrongFalsely : Prop := plotPointsRow.holds Try.pinned (OpenSpec.ofChange plotPointsWrong)

/-- 'redresslaw09.PlotLines': WHATEVER THE INPUT: true; the input reads as it did. -/
def plotLinesSpec : ChangeSpec := { name := "plotLines", fn := fun _ => fun
  | [d] => { results := [.lit (.bool true)], args := [d] }
  | _ => none }
def plotLinesRow : OpenClaim := { program := "ytcbemeooeecboaa", sum := "f4b120e4f15c4919d5da0dff4ad0213868bb69e25e8ddbb567f689c9281259ec", func := "redress/redresslaw09.PlotLines", spec := "plotLines", unfollowed := true, recurses := true, apart := false }
def PlotLinesSaid : Prop := plotLinesRow.holds Try.pinned (OpenSpec.ofChange plotLinesSpec)

/-- ITS FALSE NEIGHBOUR: 'it returns false'. Refute it at one input. -/
def plotLinesWrong : ChangeSpec := { name := "plotLines", fn := fun _ => fun
  | [d] => { results := [.lit (.bool false)], args := [d] }
  | _ => none }
def PlotLinesWrongFalsely : Prop := plotLinesRow.holds Try.pinned (OpenSpec.ofChange plotLinesWrong)

/-- 'redresslaw09.PlotAt': WHATEVER THE INPUT: true; the input reads as it did. -/
def plotAtSpec : ChangeSpec := { name := "plotAt", fn := fun _ => fun
  | [d1, d2] => { results := [.lit (.bool true)], args := [d1, d2] }
  | _ => none }
def plotAtRow : OpenClaim := { program := "ytcbemeooeecboaa", sum := "f4b120e4f15c4919d5da0dff4ad0213868bb69e25e8ddbb567f689c9281259ec", func := "redress/redresslaw09.PlotAt", spec := "plotAt", unfollowed := true, recurses := true, apart := false }
def PlotAtSaid : Prop := plotAtRow.holds Try.pinned (OpenSpec.ofChange plotAtSpec)

/-- ITS FALSE NEIGHBOUR: 'it returns false'. Refute it at one input. -/
def plotAtWrong : ChangeSpec := { name := "plotAt", fn := fun _ => fun
  | [d1, d2] => { results := [.lit (.bool false)], args := [d1, d2] }
  | _ => none }
def PlotAtWrongFalsely : Prop := plotAtRow.holds Try.pinned (OpenSpec.ofChange plotAtWrong)

/-- 'redresslaw09.PlotOver': WHATEVER THE INPUT: true; the input reads as it did. -/
def plotOverSpec : ChangeSpec := { name := "plotOver", fn := fun _ => fun
  | [d1, d2] => { results := [.lit (.bool true)], args := [d1, d2] }
  | _ => none }
def plotOverRow : OpenClaim := { program := "ytcbemeooeecboaa", sum := "f4b120e4f15c4919d5da0dff4ad0213868bb69e25e8ddbb567f689c9281259ec", func := "redress/redresslaw09.PlotOver", spec := "plotOver", unfollowed := true, recurses := true, apart := false }
def PlotOverSaid : Prop := plotOverRow.holds Try.pinned (OpenSpec.ofChange plotOverSpec)

/-- ITS FALSE NEIGHBOUR: 'it returns false'. Refute it at one input. -/
def plotOverWrong : ChangeSpec := { name := "plotOver", fn := fun _ => fun
  | [d1, d2] => { results := [.lit (.bool false)], args := [d1, d2] }
  | _ => none }
def PlotOverWrongFalsely : Prop := plotOverRow.holds Try.pinned (OpenSpec.ofChange plotOverWrong)

/-- 'redresslaw09.PlotApart': WHATEVER THE INPUT: true; the input reads as it did. -/
def plotApartSpec : ChangeSpec := { name := "plotApart", fn := fun _ => fun
  | [d] => { results := [.lit (.bool true)], args := [d] }
  | _ => none }
def plotApartRow : OpenClaim := { program := "ytcbemeooeecboaa", sum := "f4b120e4f15c4919d5da0dff4ad0213868bb69e25e8ddbb567f689c9281259ec", func := "redress/redresslaw09.PlotApart", spec := "plotApart", unfollowed := true, recurses := true, apart := false }
def PlotApartSaid : Prop := plotApartRow.holds Try.pinned (OpenSpec.ofChange plotApartSpec)

/-- ITS FALSE NEIGHBOUR: 'it returns false'. Refute it at one input. -/
def plotApartWrong : ChangeSpec := { name := "plotApart", fn := fun _ => fun
  | [d] => { results := [.lit (.bool false)], args := [d] }
  | _ => none }
def PlotApartWrongFalsely : Prop := plotApartRow.holds Try.pinned (OpenSpec.ofChange plotApartWrong)

/-- 'redresslaw09.PlotUnder': WHATEVER THE INPUT: true; the input reads as it did. -/
def plotUnderSpec : ChangeSpec := { name := "plotUnder", fn := fun _ => fun
  | [d1, d2] => { results := [.lit (.bool true)], args := [d1, d2] }
  | _ => none }
def plotUnderRow : OpenClaim := { program := "ytcbemeooeecboaa", sum := "f4b120e4f15c4919d5da0dff4ad0213868bb69e25e8ddbb567f689c9281259ec", func := "redress/redresslaw09.PlotUnder", spec := "plotUnder", unfollowed := true, recurses := true, apart := false }
def PlotUnderSaid : Prop := plotUnderRow.holds Try.pinned (OpenSpec.ofChange plotUnderSpec)

/-- ITS FALSE NEIGHBOUR: 'it returns false'. Refute it at one input. -/
def plotUnderWrong : ChangeSpec := { name := "plotUnder", fn := fun _ => fun
  | [d1, d2] => { results := [.lit (.bool false)], args := [d1, d2] }
  | _ => none }
def PlotUnderWrongFalsely : Prop := plotUnderRow.holds Try.pinned (OpenSpec.ofChange plotUnderWrong)

/- THE SECOND FORM. 'bulk': how many values and letters a reading holds, each counted each time it is reached (what is shared counts as often as it is met; a slice's spare places count too). A statement '..UptoSaid' is the law's where the arguments, and the package variables that the reading takes, are together of bulk at most 1048576: NARROWER than '..Said'. Prove '..Said' where nothing that the law and all that it calls make is longer than what came in: it says more and counts as full. Else prove '..UptoSaid'. A law counts once. -/
mutual
def uptoBulk {H : Type} : DataW H → Nat
  | .lit (.string bytes) => bytes.length + 1
  | .lit _ => 1
  | .nil => 1
  | .ptr d => uptoBulk d + 1
  | .slice elems spare => uptoBulkAll elems + uptoBulkAll spare + 1
  | .agg parts => uptoBulkAll parts + 1
  | .iface _ d => uptoBulk d + 1
  | .map entries => uptoBulkEntries entries + 1
  | .held _ => 1
def uptoBulkAll {H : Type} : List (DataW H) → Nat
  | [] => 0
  | d :: r => uptoBulk d + uptoBulkAll r
def uptoBulkEntries {H : Type} : List (Lit × DataW H) → Nat
  | [] => 0
  | x :: r => uptoBulkEntry x + uptoBulkEntries r
def uptoBulkEntry {H : Type} : Lit × DataW H → Nat
  | (.string bytes, d) => bytes.length + uptoBulk d + 1
  | (_, d) => uptoBulk d + 1
 end
def uptoSmall : (H : Type) → List (DataW H) → Bool := fun _ ds => decide (uptoBulkAll ds ≤ 1048576)
def OpenSpec.upto (s : _root_.Go.ChangeSpec) : _root_.Go.OpenSpec := { _root_.Go.OpenSpec.ofChange s with cond := some uptoSmall }

/-- 'redresslaw09.PlotPoints', WHERE WHAT IT READS IS OF BULK AT MOST 1048576: true; the input reads as it did. -/
def plotPointsUptoRow : OpenClaim := { program := "ytcbemeooeecboaa", sum := "f4b120e4f15c4919d5da0dff4ad0213868bb69e25e8ddbb567f689c9281259ec", func := "redress/redresslaw09.PlotPoints", spec := "plotPoints", unfollowed := true, recurses := true, apart := false, narrowed := true }
def PlotPointsUptoSaid : Prop := plotPointsUptoRow.holds Try.pinned (OpenSpec.upto plotPointsSpec)

/-- 'redresslaw09.PlotLines', WHERE WHAT IT READS IS OF BULK AT MOST 1048576: true; the input reads as it did. -/
def plotLinesUptoRow : OpenClaim := { program := "ytcbemeooeecboaa", sum := "f4b120e4f15c4919d5da0dff4ad0213868bb69e25e8ddbb567f689c9281259ec", func := "redress/redresslaw09.PlotLines", spec := "plotLines", unfollowed := true, recurses := true, apart := false, narrowed := true }
def PlotLinesUptoSaid : Prop := plotLinesUptoRow.holds Try.pinned (OpenSpec.upto plotLinesSpec)

/-- 'redresslaw09.PlotAt', WHERE WHAT IT READS IS OF BULK AT MOST 1048576: true; the input reads as it did. -/
def plotAtUptoRow : OpenClaim := { program := "ytcbemeooeecboaa", sum := "f4b120e4f15c4919d5da0dff4ad0213868bb69e25e8ddbb567f689c9281259ec", func := "redress/redresslaw09.PlotAt", spec := "plotAt", unfollowed := true, recurses := true, apart := false, narrowed := true }
def PlotAtUptoSaid : Prop := plotAtUptoRow.holds Try.pinned (OpenSpec.upto plotAtSpec)

/-- 'redresslaw09.PlotOver', WHERE WHAT IT READS IS OF BULK AT MOST 1048576: true; the input reads as it did. -/
def plotOverUptoRow : OpenClaim := { program := "ytcbemeooeecboaa", sum := "f4b120e4f15c4919d5da0dff4ad0213868bb69e25e8ddbb567f689c9281259ec", func := "redress/redresslaw09.PlotOver", spec := "plotOver", unfollowed := true, recurses := true, apart := false, narrowed := true }
def PlotOverUptoSaid : Prop := plotOverUptoRow.holds Try.pinned (OpenSpec.upto plotOverSpec)

/-- 'redresslaw09.PlotApart', WHERE WHAT IT READS IS OF BULK AT MOST 1048576: true; the input reads as it did. -/
def plotApartUptoRow : OpenClaim := { program := "ytcbemeooeecboaa", sum := "f4b120e4f15c4919d5da0dff4ad0213868bb69e25e8ddbb567f689c9281259ec", func := "redress/redresslaw09.PlotApart", spec := "plotApart", unfollowed := true, recurses := true, apart := false, narrowed := true }
def PlotApartUptoSaid : Prop := plotApartUptoRow.holds Try.pinned (OpenSpec.upto plotApartSpec)

/-- 'redresslaw09.PlotUnder', WHERE WHAT IT READS IS OF BULK AT MOST 1048576: true; the input reads as it did. -/
def plotUnderUptoRow : OpenClaim := { program := "ytcbemeooeecboaa", sum := "f4b120e4f15c4919d5da0dff4ad0213868bb69e25e8ddbb567f689c9281259ec", func := "redress/redresslaw09.PlotUnder", spec := "plotUnder", unfollowed := true, recurses := true, apart := false, narrowed := true }
def PlotUnderUptoSaid : Prop := plotUnderUptoRow.holds Try.pinned (OpenSpec.upto plotUnderSpec)

end Rows
end Go.Proofs.Ytcbemeooeecboaa
