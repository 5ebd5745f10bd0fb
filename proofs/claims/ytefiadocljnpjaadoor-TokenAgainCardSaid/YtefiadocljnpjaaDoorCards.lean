/-
  DERIVED. GIVEN WITH THE SEED: THE CARDS: each row of YtefiadocljnpjaaDoorRows.lean that lists a variable, with what it lists TIED to the program's text (the seventh form; the later family's looks); each row that meets fmt, with fmt's text TOLD by the authors' own Lean function (tested against real Go, not proved from fmt's source: count such statements apart). THE CARD IS WHAT COUNTS. Prove the row's statement (the work); the ties are given (YtefiadocljnpjaaDoorTie.lean); close each card by the builder's one call (the guide's Derived/Test/ToyasCard.lean, 'card_holds'). Laid BY PROGRAM, IN A SANDBOX (cutbox-door.mjs). By AI agents, Wed Nov 11 2026. No macro, syntax, notation, axiom, sorry.
-/
import Derived.Test.YtefiadocljnpjaaDoorRows
import GoSem.ClaimSeven
namespace Go.Proofs.YtefiadocljnpjaaDoor
namespace Rows

/-- THE TIED CARD OF 'redresslaw05.TokenLexes'. -/
def tokenLexesCard : Claim7 := { stood := { row := tokenLexesRow, standIns := [], harness := (true, "4dd724af1b8d7e548668f2c3609e5d654dc83a043957580cabe372f4e8d8cbb2"), looks := false }, kinds := [], alts := [], laidByText := true, laidKinds := [.listed, .data], laidTests := true, laidLooks := .later }
def TokenLexesCardSaid : Prop := Claim7.holds Tryd.pinned (.plain (OpenSpec.ofChange tokenLexesSpec)) tokenLexesCard

/-- THE TIED CARD OF 'redresslaw05.TokenPrints'. -/
def tokenPrintsCard : Claim7 := { stood := { row := tokenPrintsRow, standIns := [], harness := (true, "4dd724af1b8d7e548668f2c3609e5d654dc83a043957580cabe372f4e8d8cbb2"), looks := false }, kinds := [], alts := [], laidByText := true, laidKinds := [.listed, .data], laidTests := true, laidLooks := .later }
def TokenPrintsCardSaid : Prop := Claim7.holds Tryd.pinned (.plain (OpenSpec.ofChange tokenPrintsSpec)) tokenPrintsCard

/-- THE TIED CARD OF 'redresslaw05.TokenRows'. -/
def tokenRowsCard : Claim7 := { stood := { row := tokenRowsRow, standIns := [], harness := (true, "4dd724af1b8d7e548668f2c3609e5d654dc83a043957580cabe372f4e8d8cbb2"), looks := false }, kinds := [], alts := [], laidByText := true, laidKinds := [.listed, .data], laidTests := true, laidLooks := .later }
def TokenRowsCardSaid : Prop := Claim7.holds Tryd.pinned (.plain (OpenSpec.ofChange tokenRowsSpec)) tokenRowsCard

/-- THE TIED CARD OF 'redresslaw05.TokenAgain'. -/
def tokenAgainCard : Claim7 := { stood := { row := tokenAgainRow, standIns := [], harness := (true, "4dd724af1b8d7e548668f2c3609e5d654dc83a043957580cabe372f4e8d8cbb2"), looks := false }, kinds := [], alts := [], laidByText := true, laidKinds := [.listed, .data], laidTests := true, laidLooks := .later }
def TokenAgainCardSaid : Prop := Claim7.holds Tryd.pinned (.plain (OpenSpec.ofChange tokenAgainSpec)) tokenAgainCard

/-- THE TIED CARD OF 'redresslaw05.TokenHead'. -/
def tokenHeadCard : Claim7 := { stood := { row := tokenHeadRow, standIns := [], harness := (true, "4dd724af1b8d7e548668f2c3609e5d654dc83a043957580cabe372f4e8d8cbb2"), looks := false }, kinds := [], alts := [], laidByText := true, laidKinds := [.listed, .data], laidTests := true, laidLooks := .later }
def TokenHeadCardSaid : Prop := Claim7.holds Tryd.pinned (.plain (OpenSpec.ofChange tokenHeadSpec)) tokenHeadCard

/-- THE TIED CARD OF 'redresslaw05.TokenWords'. -/
def tokenWordsCard : Claim7 := { stood := { row := tokenWordsRow, standIns := [], harness := (true, "4dd724af1b8d7e548668f2c3609e5d654dc83a043957580cabe372f4e8d8cbb2"), looks := false }, kinds := [], alts := [], laidByText := true, laidKinds := [.listed, .data], laidTests := true, laidLooks := .later }
def TokenWordsCardSaid : Prop := Claim7.holds Tryd.pinned (.plain (OpenSpec.ofChange tokenWordsSpec)) tokenWordsCard

/-- THE TIED CARD OF 'redresslaw03.RowNodes'. -/
def rowNodesCard : Claim7 := { stood := { row := rowNodesRow, standIns := [], harness := (true, "4dd724af1b8d7e548668f2c3609e5d654dc83a043957580cabe372f4e8d8cbb2"), looks := false }, kinds := [], alts := [], laidByText := true, laidKinds := [.data, .widerDeep, .pinned], laidTests := true, laidLooks := .later }
def RowNodesCardSaid : Prop := Claim7.holds Tryd.pinned (.plain (OpenSpec.ofChange rowNodesSpec)) rowNodesCard

/-- THE TIED CARD OF 'redresslaw03.RowTrees'. -/
def rowTreesCard : Claim7 := { stood := { row := rowTreesRow, standIns := [], harness := (true, "4dd724af1b8d7e548668f2c3609e5d654dc83a043957580cabe372f4e8d8cbb2"), looks := false }, kinds := [], alts := [], laidByText := true, laidKinds := [.data, .widerDeep, .pinned], laidTests := true, laidLooks := .later }
def RowTreesCardSaid : Prop := Claim7.holds Tryd.pinned (.plain (OpenSpec.ofChange rowTreesSpec)) rowTreesCard

/-- THE TIED CARD OF 'redresslaw03.RowKids'. -/
def rowKidsCard : Claim7 := { stood := { row := rowKidsRow, standIns := [], harness := (true, "4dd724af1b8d7e548668f2c3609e5d654dc83a043957580cabe372f4e8d8cbb2"), looks := false }, kinds := [], alts := [], laidByText := true, laidKinds := [.data, .widerDeep, .pinned], laidTests := true, laidLooks := .later }
def RowKidsCardSaid : Prop := Claim7.holds Tryd.pinned (.plain (OpenSpec.ofChange rowKidsSpec)) rowKidsCard

/-- THE TIED CARD OF 'redresslaw03.RowMakes'. -/
def rowMakesCard : Claim7 := { stood := { row := rowMakesRow, standIns := [], harness := (true, "4dd724af1b8d7e548668f2c3609e5d654dc83a043957580cabe372f4e8d8cbb2"), looks := false }, kinds := [], alts := [], laidByText := true, laidKinds := [.data, .widerDeep, .pinned], laidTests := true, laidLooks := .later }
def RowMakesCardSaid : Prop := Claim7.holds Tryd.pinned (.plain (OpenSpec.ofChange rowMakesSpec)) rowMakesCard

/-- THE TIED CARD OF 'redresslaw03.RowCounts'. -/
def rowCountsCard : Claim7 := { stood := { row := rowCountsRow, standIns := [], harness := (true, "4dd724af1b8d7e548668f2c3609e5d654dc83a043957580cabe372f4e8d8cbb2"), looks := false }, kinds := [], alts := [], laidByText := true, laidKinds := [.data, .widerDeep, .pinned], laidTests := true, laidLooks := .later }
def RowCountsCardSaid : Prop := Claim7.holds Tryd.pinned (.plain (OpenSpec.ofChange rowCountsSpec)) rowCountsCard

/-- THE TIED CARD OF 'redresslaw03.RowDeep'. -/
def rowDeepCard : Claim7 := { stood := { row := rowDeepRow, standIns := [], harness := (true, "4dd724af1b8d7e548668f2c3609e5d654dc83a043957580cabe372f4e8d8cbb2"), looks := false }, kinds := [], alts := [], laidByText := true, laidKinds := [.data, .widerDeep, .pinned], laidTests := true, laidLooks := .later }
def RowDeepCardSaid : Prop := Claim7.holds Tryd.pinned (.plain (OpenSpec.ofChange rowDeepSpec)) rowDeepCard

/-- THE TIED CARD OF 'redresslaw04.SortOf'. -/
def sortOfCard : Claim7 := { stood := { row := sortOfRow, standIns := [], harness := (true, "4dd724af1b8d7e548668f2c3609e5d654dc83a043957580cabe372f4e8d8cbb2"), looks := false }, kinds := [], alts := [], laidByText := true, laidKinds := [.data, .widerDeep, .pinned], laidTests := true, laidLooks := .later }
def SortOfCardSaid : Prop := Claim7.holds Tryd.pinned (.plain (OpenSpec.ofChange sortOfSpec)) sortOfCard

/-- THE TIED CARD OF 'redresslaw04.SortRight'. -/
def sortRightCard : Claim7 := { stood := { row := sortRightRow, standIns := [], harness := (true, "4dd724af1b8d7e548668f2c3609e5d654dc83a043957580cabe372f4e8d8cbb2"), looks := false }, kinds := [], alts := [], laidByText := true, laidKinds := [.data, .widerDeep, .pinned], laidTests := true, laidLooks := .later }
def SortRightCardSaid : Prop := Claim7.holds Tryd.pinned (.plain (OpenSpec.ofChange sortRightSpec)) sortRightCard

/-- THE TIED CARD OF 'redresslaw04.SortKids'. -/
def sortKidsCard : Claim7 := { stood := { row := sortKidsRow, standIns := [], harness := (true, "4dd724af1b8d7e548668f2c3609e5d654dc83a043957580cabe372f4e8d8cbb2"), looks := false }, kinds := [], alts := [], laidByText := true, laidKinds := [.data, .widerDeep, .pinned], laidTests := true, laidLooks := .later }
def SortKidsCardSaid : Prop := Claim7.holds Tryd.pinned (.plain (OpenSpec.ofChange sortKidsSpec)) sortKidsCard

/-- THE TIED CARD OF 'redresslaw04.SortOne'. -/
def sortOneCard : Claim7 := { stood := { row := sortOneRow, standIns := [], harness := (true, "4dd724af1b8d7e548668f2c3609e5d654dc83a043957580cabe372f4e8d8cbb2"), looks := false }, kinds := [], alts := [], laidByText := true, laidKinds := [.data, .widerDeep, .pinned], laidTests := true, laidLooks := .later }
def SortOneCardSaid : Prop := Claim7.holds Tryd.pinned (.plain (OpenSpec.ofChange sortOneSpec)) sortOneCard

/-- THE TIED CARD OF 'redresslaw04.SortMakes'. -/
def sortMakesCard : Claim7 := { stood := { row := sortMakesRow, standIns := [], harness := (true, "4dd724af1b8d7e548668f2c3609e5d654dc83a043957580cabe372f4e8d8cbb2"), looks := false }, kinds := [], alts := [], laidByText := true, laidKinds := [.data, .widerDeep, .pinned], laidTests := true, laidLooks := .later }
def SortMakesCardSaid : Prop := Claim7.holds Tryd.pinned (.plain (OpenSpec.ofChange sortMakesSpec)) sortMakesCard

/-- THE TIED CARD OF 'redresslaw04.SortBlocks'. -/
def sortBlocksCard : Claim7 := { stood := { row := sortBlocksRow, standIns := [], harness := (true, "4dd724af1b8d7e548668f2c3609e5d654dc83a043957580cabe372f4e8d8cbb2"), looks := false }, kinds := [], alts := [], laidByText := true, laidKinds := [.data, .widerDeep, .pinned], laidTests := true, laidLooks := .later }
def SortBlocksCardSaid : Prop := Claim7.holds Tryd.pinned (.plain (OpenSpec.ofChange sortBlocksSpec)) sortBlocksCard

/-- THE SECOND FORM's CARD OF 'redresslaw05.TokenLexes'. -/
def tokenLexesUptoCard : Claim7 := { stood := { row := tokenLexesUptoRow, standIns := [], harness := (true, "4dd724af1b8d7e548668f2c3609e5d654dc83a043957580cabe372f4e8d8cbb2"), looks := false }, kinds := [], alts := [], laidByText := true, laidKinds := [.listed, .data], laidTests := true, laidLooks := .later }
def TokenLexesUptoCardSaid : Prop := Claim7.holds Tryd.pinned (.plain (OpenSpec.upto tokenLexesSpec)) tokenLexesUptoCard

/-- THE SECOND FORM's CARD OF 'redresslaw05.TokenPrints'. -/
def tokenPrintsUptoCard : Claim7 := { stood := { row := tokenPrintsUptoRow, standIns := [], harness := (true, "4dd724af1b8d7e548668f2c3609e5d654dc83a043957580cabe372f4e8d8cbb2"), looks := false }, kinds := [], alts := [], laidByText := true, laidKinds := [.listed, .data], laidTests := true, laidLooks := .later }
def TokenPrintsUptoCardSaid : Prop := Claim7.holds Tryd.pinned (.plain (OpenSpec.upto tokenPrintsSpec)) tokenPrintsUptoCard

/-- THE SECOND FORM's CARD OF 'redresslaw05.TokenRows'. -/
def tokenRowsUptoCard : Claim7 := { stood := { row := tokenRowsUptoRow, standIns := [], harness := (true, "4dd724af1b8d7e548668f2c3609e5d654dc83a043957580cabe372f4e8d8cbb2"), looks := false }, kinds := [], alts := [], laidByText := true, laidKinds := [.listed, .data], laidTests := true, laidLooks := .later }
def TokenRowsUptoCardSaid : Prop := Claim7.holds Tryd.pinned (.plain (OpenSpec.upto tokenRowsSpec)) tokenRowsUptoCard

/-- THE SECOND FORM's CARD OF 'redresslaw05.TokenAgain'. -/
def tokenAgainUptoCard : Claim7 := { stood := { row := tokenAgainUptoRow, standIns := [], harness := (true, "4dd724af1b8d7e548668f2c3609e5d654dc83a043957580cabe372f4e8d8cbb2"), looks := false }, kinds := [], alts := [], laidByText := true, laidKinds := [.listed, .data], laidTests := true, laidLooks := .later }
def TokenAgainUptoCardSaid : Prop := Claim7.holds Tryd.pinned (.plain (OpenSpec.upto tokenAgainSpec)) tokenAgainUptoCard

/-- THE SECOND FORM's CARD OF 'redresslaw05.TokenHead'. -/
def tokenHeadUptoCard : Claim7 := { stood := { row := tokenHeadUptoRow, standIns := [], harness := (true, "4dd724af1b8d7e548668f2c3609e5d654dc83a043957580cabe372f4e8d8cbb2"), looks := false }, kinds := [], alts := [], laidByText := true, laidKinds := [.listed, .data], laidTests := true, laidLooks := .later }
def TokenHeadUptoCardSaid : Prop := Claim7.holds Tryd.pinned (.plain (OpenSpec.upto tokenHeadSpec)) tokenHeadUptoCard

/-- THE SECOND FORM's CARD OF 'redresslaw05.TokenWords'. -/
def tokenWordsUptoCard : Claim7 := { stood := { row := tokenWordsUptoRow, standIns := [], harness := (true, "4dd724af1b8d7e548668f2c3609e5d654dc83a043957580cabe372f4e8d8cbb2"), looks := false }, kinds := [], alts := [], laidByText := true, laidKinds := [.listed, .data], laidTests := true, laidLooks := .later }
def TokenWordsUptoCardSaid : Prop := Claim7.holds Tryd.pinned (.plain (OpenSpec.upto tokenWordsSpec)) tokenWordsUptoCard

/-- THE SECOND FORM's CARD OF 'redresslaw03.RowNodes'. -/
def rowNodesUptoCard : Claim7 := { stood := { row := rowNodesUptoRow, standIns := [], harness := (true, "4dd724af1b8d7e548668f2c3609e5d654dc83a043957580cabe372f4e8d8cbb2"), looks := false }, kinds := [], alts := [], laidByText := true, laidKinds := [.data, .widerDeep, .pinned], laidTests := true, laidLooks := .later }
def RowNodesUptoCardSaid : Prop := Claim7.holds Tryd.pinned (.plain (OpenSpec.upto rowNodesSpec)) rowNodesUptoCard

/-- THE SECOND FORM's CARD OF 'redresslaw03.RowTrees'. -/
def rowTreesUptoCard : Claim7 := { stood := { row := rowTreesUptoRow, standIns := [], harness := (true, "4dd724af1b8d7e548668f2c3609e5d654dc83a043957580cabe372f4e8d8cbb2"), looks := false }, kinds := [], alts := [], laidByText := true, laidKinds := [.data, .widerDeep, .pinned], laidTests := true, laidLooks := .later }
def RowTreesUptoCardSaid : Prop := Claim7.holds Tryd.pinned (.plain (OpenSpec.upto rowTreesSpec)) rowTreesUptoCard

/-- THE SECOND FORM's CARD OF 'redresslaw03.RowKids'. -/
def rowKidsUptoCard : Claim7 := { stood := { row := rowKidsUptoRow, standIns := [], harness := (true, "4dd724af1b8d7e548668f2c3609e5d654dc83a043957580cabe372f4e8d8cbb2"), looks := false }, kinds := [], alts := [], laidByText := true, laidKinds := [.data, .widerDeep, .pinned], laidTests := true, laidLooks := .later }
def RowKidsUptoCardSaid : Prop := Claim7.holds Tryd.pinned (.plain (OpenSpec.upto rowKidsSpec)) rowKidsUptoCard

/-- THE SECOND FORM's CARD OF 'redresslaw03.RowMakes'. -/
def rowMakesUptoCard : Claim7 := { stood := { row := rowMakesUptoRow, standIns := [], harness := (true, "4dd724af1b8d7e548668f2c3609e5d654dc83a043957580cabe372f4e8d8cbb2"), looks := false }, kinds := [], alts := [], laidByText := true, laidKinds := [.data, .widerDeep, .pinned], laidTests := true, laidLooks := .later }
def RowMakesUptoCardSaid : Prop := Claim7.holds Tryd.pinned (.plain (OpenSpec.upto rowMakesSpec)) rowMakesUptoCard

/-- THE SECOND FORM's CARD OF 'redresslaw03.RowCounts'. -/
def rowCountsUptoCard : Claim7 := { stood := { row := rowCountsUptoRow, standIns := [], harness := (true, "4dd724af1b8d7e548668f2c3609e5d654dc83a043957580cabe372f4e8d8cbb2"), looks := false }, kinds := [], alts := [], laidByText := true, laidKinds := [.data, .widerDeep, .pinned], laidTests := true, laidLooks := .later }
def RowCountsUptoCardSaid : Prop := Claim7.holds Tryd.pinned (.plain (OpenSpec.upto rowCountsSpec)) rowCountsUptoCard

/-- THE SECOND FORM's CARD OF 'redresslaw03.RowDeep'. -/
def rowDeepUptoCard : Claim7 := { stood := { row := rowDeepUptoRow, standIns := [], harness := (true, "4dd724af1b8d7e548668f2c3609e5d654dc83a043957580cabe372f4e8d8cbb2"), looks := false }, kinds := [], alts := [], laidByText := true, laidKinds := [.data, .widerDeep, .pinned], laidTests := true, laidLooks := .later }
def RowDeepUptoCardSaid : Prop := Claim7.holds Tryd.pinned (.plain (OpenSpec.upto rowDeepSpec)) rowDeepUptoCard

/-- THE SECOND FORM's CARD OF 'redresslaw04.SortOf'. -/
def sortOfUptoCard : Claim7 := { stood := { row := sortOfUptoRow, standIns := [], harness := (true, "4dd724af1b8d7e548668f2c3609e5d654dc83a043957580cabe372f4e8d8cbb2"), looks := false }, kinds := [], alts := [], laidByText := true, laidKinds := [.data, .widerDeep, .pinned], laidTests := true, laidLooks := .later }
def SortOfUptoCardSaid : Prop := Claim7.holds Tryd.pinned (.plain (OpenSpec.upto sortOfSpec)) sortOfUptoCard

/-- THE SECOND FORM's CARD OF 'redresslaw04.SortRight'. -/
def sortRightUptoCard : Claim7 := { stood := { row := sortRightUptoRow, standIns := [], harness := (true, "4dd724af1b8d7e548668f2c3609e5d654dc83a043957580cabe372f4e8d8cbb2"), looks := false }, kinds := [], alts := [], laidByText := true, laidKinds := [.data, .widerDeep, .pinned], laidTests := true, laidLooks := .later }
def SortRightUptoCardSaid : Prop := Claim7.holds Tryd.pinned (.plain (OpenSpec.upto sortRightSpec)) sortRightUptoCard

/-- THE SECOND FORM's CARD OF 'redresslaw04.SortKids'. -/
def sortKidsUptoCard : Claim7 := { stood := { row := sortKidsUptoRow, standIns := [], harness := (true, "4dd724af1b8d7e548668f2c3609e5d654dc83a043957580cabe372f4e8d8cbb2"), looks := false }, kinds := [], alts := [], laidByText := true, laidKinds := [.data, .widerDeep, .pinned], laidTests := true, laidLooks := .later }
def SortKidsUptoCardSaid : Prop := Claim7.holds Tryd.pinned (.plain (OpenSpec.upto sortKidsSpec)) sortKidsUptoCard

/-- THE SECOND FORM's CARD OF 'redresslaw04.SortOne'. -/
def sortOneUptoCard : Claim7 := { stood := { row := sortOneUptoRow, standIns := [], harness := (true, "4dd724af1b8d7e548668f2c3609e5d654dc83a043957580cabe372f4e8d8cbb2"), looks := false }, kinds := [], alts := [], laidByText := true, laidKinds := [.data, .widerDeep, .pinned], laidTests := true, laidLooks := .later }
def SortOneUptoCardSaid : Prop := Claim7.holds Tryd.pinned (.plain (OpenSpec.upto sortOneSpec)) sortOneUptoCard

/-- THE SECOND FORM's CARD OF 'redresslaw04.SortMakes'. -/
def sortMakesUptoCard : Claim7 := { stood := { row := sortMakesUptoRow, standIns := [], harness := (true, "4dd724af1b8d7e548668f2c3609e5d654dc83a043957580cabe372f4e8d8cbb2"), looks := false }, kinds := [], alts := [], laidByText := true, laidKinds := [.data, .widerDeep, .pinned], laidTests := true, laidLooks := .later }
def SortMakesUptoCardSaid : Prop := Claim7.holds Tryd.pinned (.plain (OpenSpec.upto sortMakesSpec)) sortMakesUptoCard

/-- THE SECOND FORM's CARD OF 'redresslaw04.SortBlocks'. -/
def sortBlocksUptoCard : Claim7 := { stood := { row := sortBlocksUptoRow, standIns := [], harness := (true, "4dd724af1b8d7e548668f2c3609e5d654dc83a043957580cabe372f4e8d8cbb2"), looks := false }, kinds := [], alts := [], laidByText := true, laidKinds := [.data, .widerDeep, .pinned], laidTests := true, laidLooks := .later }
def SortBlocksUptoCardSaid : Prop := Claim7.holds Tryd.pinned (.plain (OpenSpec.upto sortBlocksSpec)) sortBlocksUptoCard
end Rows
end Go.Proofs.YtefiadocljnpjaaDoor
