/-
  NARROWER THAN 'FOR EVERY INPUT', by the rows' own cells (each row's printed sentence says how): TokenLexes: laid · TokenPrints: laid · TokenRows: laid · TokenAgain: laid · TokenHead: laid · TokenWords: laid · RowNodes: laid · RowTrees: laid · RowKids: laid · RowMakes: laid · RowCounts: laid · RowDeep: laid · SortOf: laid · SortRight: laid · SortKids: laid · SortOne: laid · SortMakes: laid · SortBlocks: laid.
  DERIVED. THE GIVEN ROWS OF THIS SEAT. 18 by the template 'for every input the law returns true; each argument reads behind the call as it read before'; 0 by the template 'total and deterministic' (their statements: YtefiadocljnpjaaDoorTotals.lean).
  GIVEN WITH THE SEED: the statements are not yours to turn. If you find one false, say at which input.
  Laid BY PROGRAM, IN A SANDBOX (cutbox-rows.mjs): the forced cells as the released guide's own fill.sh prints them over the translation ebf16bd611c30dfb… (all of the seat's roots in one cut). By AI agents, Wed Nov 11 2026. No macro, syntax, notation, axiom, sorry.
-/
import Derived.Test.YtefiadocljnpjaaDoorChecked
import GoSem.PinnedTables
import GoSem.Claim
import GoSem.ClaimJoined
import GoSem.ClaimMapViews
import Derived.JoinedTies
import Derived.KernelRfl
namespace Go.Proofs.YtefiadocljnpjaaDoor
/- THE CELL 'sum', in the pinned program and in every row, IS THE sha256 OF THE DUMP (.gsa) THAT YtefiadocljnpjaaDoorProg.lean LOADS. Nothing in Lean hashes anything: it is a label: what it is worth is what the hold of that sum in a sandbox is worth. -/
noncomputable def Tryd.pinned : Pinned := { name := "ytefiadocljnpjaadoor", sum := "ebf16bd611c30dfb8dce9cc53d3c9e070ca77d50b6cc51f82148fe0dc2f71605", checked := Tryd.checked }
namespace Rows
def none {H : Type} : Left H := { results := [], args := [] }

/- WHAT THE LISTED PACKAGE-LEVEL VARIABLES READ AS WHEN THE CALL BEGINS. Each datum BY PROGRAM (the guide's laid-datum.mjs) off the statement by which the dump's own 'gosem.cut.vars' lays the variable. In a bare row this is a premise. The card (YtefiadocljnpjaaDoorCards.lean) ties it to the program's text. -/
def laid_unicode_White_Space {H : Type} : DataW H := .ptr (.agg [.slice [.agg [.lit (.int .u16 9), .lit (.int .u16 13), .lit (.int .u16 1)], .agg [.lit (.int .u16 32), .lit (.int .u16 133), .lit (.int .u16 101)], .agg [.lit (.int .u16 160), .lit (.int .u16 5760), .lit (.int .u16 5600)], .agg [.lit (.int .u16 8192), .lit (.int .u16 8202), .lit (.int .u16 1)], .agg [.lit (.int .u16 8232), .lit (.int .u16 8233), .lit (.int .u16 1)], .agg [.lit (.int .u16 8239), .lit (.int .u16 8287), .lit (.int .u16 48)], .agg [.lit (.int .u16 12288), .lit (.int .u16 12288), .lit (.int .u16 1)]] [], .nil, .lit (.int .i64 2)])
def laid_strings_asciiSpace {H : Type} : DataW H := .agg [.lit (.int .u8 0), .lit (.int .u8 0), .lit (.int .u8 0), .lit (.int .u8 0), .lit (.int .u8 0), .lit (.int .u8 0), .lit (.int .u8 0), .lit (.int .u8 0), .lit (.int .u8 0), .lit (.int .u8 1), .lit (.int .u8 1), .lit (.int .u8 1), .lit (.int .u8 1), .lit (.int .u8 1), .lit (.int .u8 0), .lit (.int .u8 0), .lit (.int .u8 0), .lit (.int .u8 0), .lit (.int .u8 0), .lit (.int .u8 0), .lit (.int .u8 0), .lit (.int .u8 0), .lit (.int .u8 0), .lit (.int .u8 0), .lit (.int .u8 0), .lit (.int .u8 0), .lit (.int .u8 0), .lit (.int .u8 0), .lit (.int .u8 0), .lit (.int .u8 0), .lit (.int .u8 0), .lit (.int .u8 0), .lit (.int .u8 1), .lit (.int .u8 0), .lit (.int .u8 0), .lit (.int .u8 0), .lit (.int .u8 0), .lit (.int .u8 0), .lit (.int .u8 0), .lit (.int .u8 0), .lit (.int .u8 0), .lit (.int .u8 0), .lit (.int .u8 0), .lit (.int .u8 0), .lit (.int .u8 0), .lit (.int .u8 0), .lit (.int .u8 0), .lit (.int .u8 0), .lit (.int .u8 0), .lit (.int .u8 0), .lit (.int .u8 0), .lit (.int .u8 0), .lit (.int .u8 0), .lit (.int .u8 0), .lit (.int .u8 0), .lit (.int .u8 0), .lit (.int .u8 0), .lit (.int .u8 0), .lit (.int .u8 0), .lit (.int .u8 0), .lit (.int .u8 0), .lit (.int .u8 0), .lit (.int .u8 0), .lit (.int .u8 0), .lit (.int .u8 0), .lit (.int .u8 0), .lit (.int .u8 0), .lit (.int .u8 0), .lit (.int .u8 0), .lit (.int .u8 0), .lit (.int .u8 0), .lit (.int .u8 0), .lit (.int .u8 0), .lit (.int .u8 0), .lit (.int .u8 0), .lit (.int .u8 0), .lit (.int .u8 0), .lit (.int .u8 0), .lit (.int .u8 0), .lit (.int .u8 0), .lit (.int .u8 0), .lit (.int .u8 0), .lit (.int .u8 0), .lit (.int .u8 0), .lit (.int .u8 0), .lit (.int .u8 0), .lit (.int .u8 0), .lit (.int .u8 0), .lit (.int .u8 0), .lit (.int .u8 0), .lit (.int .u8 0), .lit (.int .u8 0), .lit (.int .u8 0), .lit (.int .u8 0), .lit (.int .u8 0), .lit (.int .u8 0), .lit (.int .u8 0), .lit (.int .u8 0), .lit (.int .u8 0), .lit (.int .u8 0), .lit (.int .u8 0), .lit (.int .u8 0), .lit (.int .u8 0), .lit (.int .u8 0), .lit (.int .u8 0), .lit (.int .u8 0), .lit (.int .u8 0), .lit (.int .u8 0), .lit (.int .u8 0), .lit (.int .u8 0), .lit (.int .u8 0), .lit (.int .u8 0), .lit (.int .u8 0), .lit (.int .u8 0), .lit (.int .u8 0), .lit (.int .u8 0), .lit (.int .u8 0), .lit (.int .u8 0), .lit (.int .u8 0), .lit (.int .u8 0), .lit (.int .u8 0), .lit (.int .u8 0), .lit (.int .u8 0), .lit (.int .u8 0), .lit (.int .u8 0), .lit (.int .u8 0), .lit (.int .u8 0), .lit (.int .u8 0), .lit (.int .u8 0), .lit (.int .u8 0), .lit (.int .u8 0), .lit (.int .u8 0), .lit (.int .u8 0), .lit (.int .u8 0), .lit (.int .u8 0), .lit (.int .u8 0), .lit (.int .u8 0), .lit (.int .u8 0), .lit (.int .u8 0), .lit (.int .u8 0), .lit (.int .u8 0), .lit (.int .u8 0), .lit (.int .u8 0), .lit (.int .u8 0), .lit (.int .u8 0), .lit (.int .u8 0), .lit (.int .u8 0), .lit (.int .u8 0), .lit (.int .u8 0), .lit (.int .u8 0), .lit (.int .u8 0), .lit (.int .u8 0), .lit (.int .u8 0), .lit (.int .u8 0), .lit (.int .u8 0), .lit (.int .u8 0), .lit (.int .u8 0), .lit (.int .u8 0), .lit (.int .u8 0), .lit (.int .u8 0), .lit (.int .u8 0), .lit (.int .u8 0), .lit (.int .u8 0), .lit (.int .u8 0), .lit (.int .u8 0), .lit (.int .u8 0), .lit (.int .u8 0), .lit (.int .u8 0), .lit (.int .u8 0), .lit (.int .u8 0), .lit (.int .u8 0), .lit (.int .u8 0), .lit (.int .u8 0), .lit (.int .u8 0), .lit (.int .u8 0), .lit (.int .u8 0), .lit (.int .u8 0), .lit (.int .u8 0), .lit (.int .u8 0), .lit (.int .u8 0), .lit (.int .u8 0), .lit (.int .u8 0), .lit (.int .u8 0), .lit (.int .u8 0), .lit (.int .u8 0), .lit (.int .u8 0), .lit (.int .u8 0), .lit (.int .u8 0), .lit (.int .u8 0), .lit (.int .u8 0), .lit (.int .u8 0), .lit (.int .u8 0), .lit (.int .u8 0), .lit (.int .u8 0), .lit (.int .u8 0), .lit (.int .u8 0), .lit (.int .u8 0), .lit (.int .u8 0), .lit (.int .u8 0), .lit (.int .u8 0), .lit (.int .u8 0), .lit (.int .u8 0), .lit (.int .u8 0), .lit (.int .u8 0), .lit (.int .u8 0), .lit (.int .u8 0), .lit (.int .u8 0), .lit (.int .u8 0), .lit (.int .u8 0), .lit (.int .u8 0), .lit (.int .u8 0), .lit (.int .u8 0), .lit (.int .u8 0), .lit (.int .u8 0), .lit (.int .u8 0), .lit (.int .u8 0), .lit (.int .u8 0), .lit (.int .u8 0), .lit (.int .u8 0), .lit (.int .u8 0), .lit (.int .u8 0), .lit (.int .u8 0), .lit (.int .u8 0), .lit (.int .u8 0), .lit (.int .u8 0), .lit (.int .u8 0), .lit (.int .u8 0), .lit (.int .u8 0), .lit (.int .u8 0), .lit (.int .u8 0), .lit (.int .u8 0), .lit (.int .u8 0), .lit (.int .u8 0), .lit (.int .u8 0), .lit (.int .u8 0), .lit (.int .u8 0), .lit (.int .u8 0), .lit (.int .u8 0), .lit (.int .u8 0), .lit (.int .u8 0), .lit (.int .u8 0), .lit (.int .u8 0), .lit (.int .u8 0), .lit (.int .u8 0), .lit (.int .u8 0), .lit (.int .u8 0), .lit (.int .u8 0), .lit (.int .u8 0), .lit (.int .u8 0), .lit (.int .u8 0), .lit (.int .u8 0), .lit (.int .u8 0), .lit (.int .u8 0), .lit (.int .u8 0), .lit (.int .u8 0), .lit (.int .u8 0)]
def laid_unicode_utf8_acceptRanges {H : Type} : DataW H := .agg [.agg [.lit (.int .u8 128), .lit (.int .u8 191)], .agg [.lit (.int .u8 160), .lit (.int .u8 191)], .agg [.lit (.int .u8 128), .lit (.int .u8 159)], .agg [.lit (.int .u8 144), .lit (.int .u8 191)], .agg [.lit (.int .u8 128), .lit (.int .u8 143)], .agg [.lit (.int .u8 0), .lit (.int .u8 0)], .agg [.lit (.int .u8 0), .lit (.int .u8 0)], .agg [.lit (.int .u8 0), .lit (.int .u8 0)], .agg [.lit (.int .u8 0), .lit (.int .u8 0)], .agg [.lit (.int .u8 0), .lit (.int .u8 0)], .agg [.lit (.int .u8 0), .lit (.int .u8 0)], .agg [.lit (.int .u8 0), .lit (.int .u8 0)], .agg [.lit (.int .u8 0), .lit (.int .u8 0)], .agg [.lit (.int .u8 0), .lit (.int .u8 0)], .agg [.lit (.int .u8 0), .lit (.int .u8 0)], .agg [.lit (.int .u8 0), .lit (.int .u8 0)]]
def laid_redress_row_words {H : Type} : DataW H := .agg [.lit (.string [115, 107, 105, 112]), .lit (.string [116, 104, 114, 111, 119]), .lit (.string [121, 105, 101, 108, 100]), .lit (.string [115, 107, 105, 112, 112]), .lit (.string [116, 104, 114, 111, 119, 119]), .lit (.string [121, 105, 101, 108, 100, 100])]
/-- One of Go's own tables, pinned by name: the form's constant. -/
def laid_unicode_utf8_first : DataW Unit := Go.Pinned.utf8First

/-- 'redresslaw05.TokenLexes': WHATEVER THE INPUT: true; the input reads as it did. -/
def tokenLexesSpec : ChangeSpec := { name := "tokenLexes", fn := fun _ => fun
  | [d] => { results := [.lit (.bool true)], args := [d] }
  | _ => none }
def tokenLexesRow : OpenClaim := { program := "ytefiadocljnpjaadoor", sum := "ebf16bd611c30dfb8dce9cc53d3c9e070ca77d50b6cc51f82148fe0dc2f71605", func := "redress/redresslaw05.TokenLexes", spec := "tokenLexes", inPlace := ["internal/bytealg.IndexByteString", "internal/bytealg.IndexString"], unfollowed := true, recurses := true, named := ["strings.asciiSpace", "unicode.White_Space", "internal/bytealg.MaxLen"], apart := false, laid := [("unicode.White_Space", laid_unicode_White_Space), ("strings.asciiSpace", laid_strings_asciiSpace)] }
def TokenLexesSaid : Prop := tokenLexesRow.holds Tryd.pinned (OpenSpec.ofChange tokenLexesSpec)

/-- ITS FALSE NEIGHBOUR: 'it returns false'. Refute it at one input. -/
def tokenLexesWrong : ChangeSpec := { name := "tokenLexes", fn := fun _ => fun
  | [d] => { results := [.lit (.bool false)], args := [d] }
  | _ => none }
def TokenLexesWrongFalsely : Prop := tokenLexesRow.holds Tryd.pinned (OpenSpec.ofChange tokenLexesWrong)

/-- 'redresslaw05.TokenPrints': WHATEVER THE INPUT: true; the input reads as it did. -/
def tokenPrintsSpec : ChangeSpec := { name := "tokenPrints", fn := fun _ => fun
  | [d] => { results := [.lit (.bool true)], args := [d] }
  | _ => none }
def tokenPrintsRow : OpenClaim := { program := "ytefiadocljnpjaadoor", sum := "ebf16bd611c30dfb8dce9cc53d3c9e070ca77d50b6cc51f82148fe0dc2f71605", func := "redress/redresslaw05.TokenPrints", spec := "tokenPrints", inPlace := ["internal/bytealg.IndexByteString", "internal/bytealg.IndexString"], unfollowed := true, recurses := true, named := ["strings.asciiSpace", "unicode.White_Space", "internal/bytealg.MaxLen"], apart := false, laid := [("unicode.White_Space", laid_unicode_White_Space), ("strings.asciiSpace", laid_strings_asciiSpace)] }
def TokenPrintsSaid : Prop := tokenPrintsRow.holds Tryd.pinned (OpenSpec.ofChange tokenPrintsSpec)

/-- ITS FALSE NEIGHBOUR: 'it returns false'. Refute it at one input. -/
def tokenPrintsWrong : ChangeSpec := { name := "tokenPrints", fn := fun _ => fun
  | [d] => { results := [.lit (.bool false)], args := [d] }
  | _ => none }
def TokenPrintsWrongFalsely : Prop := tokenPrintsRow.holds Tryd.pinned (OpenSpec.ofChange tokenPrintsWrong)

/-- 'redresslaw05.TokenRows': WHATEVER THE INPUT: true; the input reads as it did. -/
def tokenRowsSpec : ChangeSpec := { name := "tokenRows", fn := fun _ => fun
  | [d1, d2] => { results := [.lit (.bool true)], args := [d1, d2] }
  | _ => none }
def tokenRowsRow : OpenClaim := { program := "ytefiadocljnpjaadoor", sum := "ebf16bd611c30dfb8dce9cc53d3c9e070ca77d50b6cc51f82148fe0dc2f71605", func := "redress/redresslaw05.TokenRows", spec := "tokenRows", inPlace := ["internal/bytealg.IndexByteString", "internal/bytealg.IndexString"], unfollowed := true, recurses := true, named := ["strings.asciiSpace", "unicode.White_Space", "internal/bytealg.MaxLen"], apart := false, laid := [("unicode.White_Space", laid_unicode_White_Space), ("strings.asciiSpace", laid_strings_asciiSpace)] }
def TokenRowsSaid : Prop := tokenRowsRow.holds Tryd.pinned (OpenSpec.ofChange tokenRowsSpec)

/-- ITS FALSE NEIGHBOUR: 'it returns false'. Refute it at one input. -/
def tokenRowsWrong : ChangeSpec := { name := "tokenRows", fn := fun _ => fun
  | [d1, d2] => { results := [.lit (.bool false)], args := [d1, d2] }
  | _ => none }
def TokenRowsWrongFalsely : Prop := tokenRowsRow.holds Tryd.pinned (OpenSpec.ofChange tokenRowsWrong)

/-- 'redresslaw05.TokenAgain': WHATEVER THE INPUT: true; the input reads as it did. -/
def tokenAgainSpec : ChangeSpec := { name := "tokenAgain", fn := fun _ => fun
  | [d] => { results := [.lit (.bool true)], args := [d] }
  | _ => none }
def tokenAgainRow : OpenClaim := { program := "ytefiadocljnpjaadoor", sum := "ebf16bd611c30dfb8dce9cc53d3c9e070ca77d50b6cc51f82148fe0dc2f71605", func := "redress/redresslaw05.TokenAgain", spec := "tokenAgain", inPlace := ["internal/bytealg.IndexByteString", "internal/bytealg.IndexString"], unfollowed := true, recurses := true, named := ["strings.asciiSpace", "unicode.White_Space", "internal/bytealg.MaxLen"], apart := false, laid := [("unicode.White_Space", laid_unicode_White_Space), ("strings.asciiSpace", laid_strings_asciiSpace)] }
def TokenAgainSaid : Prop := tokenAgainRow.holds Tryd.pinned (OpenSpec.ofChange tokenAgainSpec)

/-- ITS FALSE NEIGHBOUR: 'it returns false'. Refute it at one input. -/
def tokenAgainWrong : ChangeSpec := { name := "tokenAgain", fn := fun _ => fun
  | [d] => { results := [.lit (.bool false)], args := [d] }
  | _ => none }
def TokenAgainWrongFalsely : Prop := tokenAgainRow.holds Tryd.pinned (OpenSpec.ofChange tokenAgainWrong)

/-- 'redresslaw05.TokenHead': WHATEVER THE INPUT: true; the input reads as it did. -/
def tokenHeadSpec : ChangeSpec := { name := "tokenHead", fn := fun _ => fun
  | [d1, d2] => { results := [.lit (.bool true)], args := [d1, d2] }
  | _ => none }
def tokenHeadRow : OpenClaim := { program := "ytefiadocljnpjaadoor", sum := "ebf16bd611c30dfb8dce9cc53d3c9e070ca77d50b6cc51f82148fe0dc2f71605", func := "redress/redresslaw05.TokenHead", spec := "tokenHead", inPlace := ["internal/bytealg.IndexByteString", "internal/bytealg.IndexString"], unfollowed := true, recurses := true, named := ["strings.asciiSpace", "unicode.White_Space", "internal/bytealg.MaxLen"], apart := false, laid := [("unicode.White_Space", laid_unicode_White_Space), ("strings.asciiSpace", laid_strings_asciiSpace)] }
def TokenHeadSaid : Prop := tokenHeadRow.holds Tryd.pinned (OpenSpec.ofChange tokenHeadSpec)

/-- ITS FALSE NEIGHBOUR: 'it returns false'. Refute it at one input. -/
def tokenHeadWrong : ChangeSpec := { name := "tokenHead", fn := fun _ => fun
  | [d1, d2] => { results := [.lit (.bool false)], args := [d1, d2] }
  | _ => none }
def TokenHeadWrongFalsely : Prop := tokenHeadRow.holds Tryd.pinned (OpenSpec.ofChange tokenHeadWrong)

/-- 'redresslaw05.TokenWords': WHATEVER THE INPUT: true; the input reads as it did. -/
def tokenWordsSpec : ChangeSpec := { name := "tokenWords", fn := fun _ => fun
  | [d] => { results := [.lit (.bool true)], args := [d] }
  | _ => none }
def tokenWordsRow : OpenClaim := { program := "ytefiadocljnpjaadoor", sum := "ebf16bd611c30dfb8dce9cc53d3c9e070ca77d50b6cc51f82148fe0dc2f71605", func := "redress/redresslaw05.TokenWords", spec := "tokenWords", inPlace := ["internal/bytealg.IndexByteString", "internal/bytealg.IndexString"], unfollowed := true, recurses := true, named := ["strings.asciiSpace", "unicode.White_Space", "internal/bytealg.MaxLen"], apart := false, laid := [("unicode.White_Space", laid_unicode_White_Space), ("strings.asciiSpace", laid_strings_asciiSpace)] }
def TokenWordsSaid : Prop := tokenWordsRow.holds Tryd.pinned (OpenSpec.ofChange tokenWordsSpec)

/-- ITS FALSE NEIGHBOUR: 'it returns false'. Refute it at one input. -/
def tokenWordsWrong : ChangeSpec := { name := "tokenWords", fn := fun _ => fun
  | [d] => { results := [.lit (.bool false)], args := [d] }
  | _ => none }
def TokenWordsWrongFalsely : Prop := tokenWordsRow.holds Tryd.pinned (OpenSpec.ofChange tokenWordsWrong)

/-- 'redresslaw03.RowNodes': WHATEVER THE INPUT: true; the input reads as it did. -/
def rowNodesSpec : ChangeSpec := { name := "rowNodes", fn := fun _ => fun
  | [d] => { results := [.lit (.bool true)], args := [d] }
  | _ => none }
def rowNodesRow : OpenClaim := { program := "ytefiadocljnpjaadoor", sum := "ebf16bd611c30dfb8dce9cc53d3c9e070ca77d50b6cc51f82148fe0dc2f71605", func := "redress/redresslaw03.RowNodes", spec := "rowNodes", inPlace := ["internal/bytealg.IndexByteString", "internal/bytealg.IndexString"], unfollowed := true, recurses := true, named := ["redress/row.words", "unicode/utf8.first", "unicode/utf8.acceptRanges", "internal/bytealg.MaxLen"], apart := false, laid := [("unicode/utf8.acceptRanges", laid_unicode_utf8_acceptRanges), ("redress/row.words", laid_redress_row_words), ("unicode/utf8.first", laid_unicode_utf8_first)] }
def RowNodesSaid : Prop := rowNodesRow.holds Tryd.pinned (OpenSpec.ofChange rowNodesSpec)

/-- ITS FALSE NEIGHBOUR: 'it returns false'. Refute it at one input. -/
def rowNodesWrong : ChangeSpec := { name := "rowNodes", fn := fun _ => fun
  | [d] => { results := [.lit (.bool false)], args := [d] }
  | _ => none }
def RowNodesWrongFalsely : Prop := rowNodesRow.holds Tryd.pinned (OpenSpec.ofChange rowNodesWrong)

/-- 'redresslaw03.RowTrees': WHATEVER THE INPUT: true; the input reads as it did. -/
def rowTreesSpec : ChangeSpec := { name := "rowTrees", fn := fun _ => fun
  | [d] => { results := [.lit (.bool true)], args := [d] }
  | _ => none }
def rowTreesRow : OpenClaim := { program := "ytefiadocljnpjaadoor", sum := "ebf16bd611c30dfb8dce9cc53d3c9e070ca77d50b6cc51f82148fe0dc2f71605", func := "redress/redresslaw03.RowTrees", spec := "rowTrees", inPlace := ["internal/bytealg.IndexByteString", "internal/bytealg.IndexString"], unfollowed := true, recurses := true, named := ["redress/row.words", "unicode/utf8.first", "unicode/utf8.acceptRanges", "internal/bytealg.MaxLen"], apart := false, laid := [("unicode/utf8.acceptRanges", laid_unicode_utf8_acceptRanges), ("redress/row.words", laid_redress_row_words), ("unicode/utf8.first", laid_unicode_utf8_first)] }
def RowTreesSaid : Prop := rowTreesRow.holds Tryd.pinned (OpenSpec.ofChange rowTreesSpec)

/-- ITS FALSE NEIGHBOUR: 'it returns false'. Refute it at one input. -/
def rowTreesWrong : ChangeSpec := { name := "rowTrees", fn := fun _ => fun
  | [d] => { results := [.lit (.bool false)], args := [d] }
  | _ => none }
def RowTreesWrongFalsely : Prop := rowTreesRow.holds Tryd.pinned (OpenSpec.ofChange rowTreesWrong)

/-- 'redresslaw03.RowKids': WHATEVER THE INPUT: true; the input reads as it did. -/
def rowKidsSpec : ChangeSpec := { name := "rowKids", fn := fun _ => fun
  | [d] => { results := [.lit (.bool true)], args := [d] }
  | _ => none }
def rowKidsRow : OpenClaim := { program := "ytefiadocljnpjaadoor", sum := "ebf16bd611c30dfb8dce9cc53d3c9e070ca77d50b6cc51f82148fe0dc2f71605", func := "redress/redresslaw03.RowKids", spec := "rowKids", inPlace := ["internal/bytealg.IndexByteString", "internal/bytealg.IndexString"], unfollowed := true, recurses := true, named := ["redress/row.words", "unicode/utf8.first", "unicode/utf8.acceptRanges", "internal/bytealg.MaxLen"], apart := false, laid := [("unicode/utf8.acceptRanges", laid_unicode_utf8_acceptRanges), ("redress/row.words", laid_redress_row_words), ("unicode/utf8.first", laid_unicode_utf8_first)] }
def RowKidsSaid : Prop := rowKidsRow.holds Tryd.pinned (OpenSpec.ofChange rowKidsSpec)

/-- ITS FALSE NEIGHBOUR: 'it returns false'. Refute it at one input. -/
def rowKidsWrong : ChangeSpec := { name := "rowKids", fn := fun _ => fun
  | [d] => { results := [.lit (.bool false)], args := [d] }
  | _ => none }
def RowKidsWrongFalsely : Prop := rowKidsRow.holds Tryd.pinned (OpenSpec.ofChange rowKidsWrong)

/-- 'redresslaw03.RowMakes': WHATEVER THE INPUT: true; the input reads as it did. -/
def rowMakesSpec : ChangeSpec := { name := "rowMakes", fn := fun _ => fun
  | [d1, d2, d3] => { results := [.lit (.bool true)], args := [d1, d2, d3] }
  | _ => none }
def rowMakesRow : OpenClaim := { program := "ytefiadocljnpjaadoor", sum := "ebf16bd611c30dfb8dce9cc53d3c9e070ca77d50b6cc51f82148fe0dc2f71605", func := "redress/redresslaw03.RowMakes", spec := "rowMakes", inPlace := ["internal/bytealg.IndexByteString", "internal/bytealg.IndexString"], unfollowed := true, recurses := true, named := ["redress/row.words", "unicode/utf8.first", "unicode/utf8.acceptRanges", "internal/bytealg.MaxLen"], apart := false, laid := [("unicode/utf8.acceptRanges", laid_unicode_utf8_acceptRanges), ("redress/row.words", laid_redress_row_words), ("unicode/utf8.first", laid_unicode_utf8_first)] }
def RowMakesSaid : Prop := rowMakesRow.holds Tryd.pinned (OpenSpec.ofChange rowMakesSpec)

/-- ITS FALSE NEIGHBOUR: 'it returns false'. Refute it at one input. -/
def rowMakesWrong : ChangeSpec := { name := "rowMakes", fn := fun _ => fun
  | [d1, d2, d3] => { results := [.lit (.bool false)], args := [d1, d2, d3] }
  | _ => none }
def RowMakesWrongFalsely : Prop := rowMakesRow.holds Tryd.pinned (OpenSpec.ofChange rowMakesWrong)

/-- 'redresslaw03.RowCounts': WHATEVER THE INPUT: true; the input reads as it did. -/
def rowCountsSpec : ChangeSpec := { name := "rowCounts", fn := fun _ => fun
  | [d1, d2, d3] => { results := [.lit (.bool true)], args := [d1, d2, d3] }
  | _ => none }
def rowCountsRow : OpenClaim := { program := "ytefiadocljnpjaadoor", sum := "ebf16bd611c30dfb8dce9cc53d3c9e070ca77d50b6cc51f82148fe0dc2f71605", func := "redress/redresslaw03.RowCounts", spec := "rowCounts", inPlace := ["internal/bytealg.IndexByteString", "internal/bytealg.IndexString"], unfollowed := true, recurses := true, named := ["redress/row.words", "unicode/utf8.first", "unicode/utf8.acceptRanges", "internal/bytealg.MaxLen"], apart := false, laid := [("unicode/utf8.acceptRanges", laid_unicode_utf8_acceptRanges), ("redress/row.words", laid_redress_row_words), ("unicode/utf8.first", laid_unicode_utf8_first)] }
def RowCountsSaid : Prop := rowCountsRow.holds Tryd.pinned (OpenSpec.ofChange rowCountsSpec)

/-- ITS FALSE NEIGHBOUR: 'it returns false'. Refute it at one input. -/
def rowCountsWrong : ChangeSpec := { name := "rowCounts", fn := fun _ => fun
  | [d1, d2, d3] => { results := [.lit (.bool false)], args := [d1, d2, d3] }
  | _ => none }
def RowCountsWrongFalsely : Prop := rowCountsRow.holds Tryd.pinned (OpenSpec.ofChange rowCountsWrong)

/-- 'redresslaw03.RowDeep': WHATEVER THE INPUT: true; the input reads as it did. -/
def rowDeepSpec : ChangeSpec := { name := "rowDeep", fn := fun _ => fun
  | [d] => { results := [.lit (.bool true)], args := [d] }
  | _ => none }
def rowDeepRow : OpenClaim := { program := "ytefiadocljnpjaadoor", sum := "ebf16bd611c30dfb8dce9cc53d3c9e070ca77d50b6cc51f82148fe0dc2f71605", func := "redress/redresslaw03.RowDeep", spec := "rowDeep", inPlace := ["internal/bytealg.IndexByteString", "internal/bytealg.IndexString"], unfollowed := true, recurses := true, named := ["redress/row.words", "unicode/utf8.first", "unicode/utf8.acceptRanges", "internal/bytealg.MaxLen"], apart := false, laid := [("unicode/utf8.acceptRanges", laid_unicode_utf8_acceptRanges), ("redress/row.words", laid_redress_row_words), ("unicode/utf8.first", laid_unicode_utf8_first)] }
def RowDeepSaid : Prop := rowDeepRow.holds Tryd.pinned (OpenSpec.ofChange rowDeepSpec)

/-- ITS FALSE NEIGHBOUR: 'it returns false'. Refute it at one input. -/
def rowDeepWrong : ChangeSpec := { name := "rowDeep", fn := fun _ => fun
  | [d] => { results := [.lit (.bool false)], args := [d] }
  | _ => none }
def RowDeepWrongFalsely : Prop := rowDeepRow.holds Tryd.pinned (OpenSpec.ofChange rowDeepWrong)

/-- 'redresslaw04.SortOf': WHATEVER THE INPUT: true; the input reads as it did. -/
def sortOfSpec : ChangeSpec := { name := "sortOf", fn := fun _ => fun
  | [d] => { results := [.lit (.bool true)], args := [d] }
  | _ => none }
def sortOfRow : OpenClaim := { program := "ytefiadocljnpjaadoor", sum := "ebf16bd611c30dfb8dce9cc53d3c9e070ca77d50b6cc51f82148fe0dc2f71605", func := "redress/redresslaw04.SortOf", spec := "sortOf", inPlace := ["internal/bytealg.IndexByteString", "internal/bytealg.IndexString"], unfollowed := true, recurses := true, named := ["redress/row.words", "unicode/utf8.first", "unicode/utf8.acceptRanges", "internal/bytealg.MaxLen"], apart := false, laid := [("unicode/utf8.acceptRanges", laid_unicode_utf8_acceptRanges), ("redress/row.words", laid_redress_row_words), ("unicode/utf8.first", laid_unicode_utf8_first)] }
def SortOfSaid : Prop := sortOfRow.holds Tryd.pinned (OpenSpec.ofChange sortOfSpec)

/-- ITS FALSE NEIGHBOUR: 'it returns false'. Refute it at one input. -/
def sortOfWrong : ChangeSpec := { name := "sortOf", fn := fun _ => fun
  | [d] => { results := [.lit (.bool false)], args := [d] }
  | _ => none }
def SortOfWrongFalsely : Prop := sortOfRow.holds Tryd.pinned (OpenSpec.ofChange sortOfWrong)

/-- 'redresslaw04.SortRight': WHATEVER THE INPUT: true; the input reads as it did. -/
def sortRightSpec : ChangeSpec := { name := "sortRight", fn := fun _ => fun
  | [d] => { results := [.lit (.bool true)], args := [d] }
  | _ => none }
def sortRightRow : OpenClaim := { program := "ytefiadocljnpjaadoor", sum := "ebf16bd611c30dfb8dce9cc53d3c9e070ca77d50b6cc51f82148fe0dc2f71605", func := "redress/redresslaw04.SortRight", spec := "sortRight", inPlace := ["internal/bytealg.IndexByteString", "internal/bytealg.IndexString"], unfollowed := true, recurses := true, named := ["redress/row.words", "unicode/utf8.first", "unicode/utf8.acceptRanges", "internal/bytealg.MaxLen"], apart := false, laid := [("unicode/utf8.acceptRanges", laid_unicode_utf8_acceptRanges), ("redress/row.words", laid_redress_row_words), ("unicode/utf8.first", laid_unicode_utf8_first)] }
def SortRightSaid : Prop := sortRightRow.holds Tryd.pinned (OpenSpec.ofChange sortRightSpec)

/-- ITS FALSE NEIGHBOUR: 'it returns false'. Refute it at one input. -/
def sortRightWrong : ChangeSpec := { name := "sortRight", fn := fun _ => fun
  | [d] => { results := [.lit (.bool false)], args := [d] }
  | _ => none }
def SortRightWrongFalsely : Prop := sortRightRow.holds Tryd.pinned (OpenSpec.ofChange sortRightWrong)

/-- 'redresslaw04.SortKids': WHATEVER THE INPUT: true; the input reads as it did. -/
def sortKidsSpec : ChangeSpec := { name := "sortKids", fn := fun _ => fun
  | [d] => { results := [.lit (.bool true)], args := [d] }
  | _ => none }
def sortKidsRow : OpenClaim := { program := "ytefiadocljnpjaadoor", sum := "ebf16bd611c30dfb8dce9cc53d3c9e070ca77d50b6cc51f82148fe0dc2f71605", func := "redress/redresslaw04.SortKids", spec := "sortKids", inPlace := ["internal/bytealg.IndexByteString", "internal/bytealg.IndexString"], unfollowed := true, recurses := true, named := ["redress/row.words", "unicode/utf8.first", "unicode/utf8.acceptRanges", "internal/bytealg.MaxLen"], apart := false, laid := [("unicode/utf8.acceptRanges", laid_unicode_utf8_acceptRanges), ("redress/row.words", laid_redress_row_words), ("unicode/utf8.first", laid_unicode_utf8_first)] }
def SortKidsSaid : Prop := sortKidsRow.holds Tryd.pinned (OpenSpec.ofChange sortKidsSpec)

/-- ITS FALSE NEIGHBOUR: 'it returns false'. Refute it at one input. -/
def sortKidsWrong : ChangeSpec := { name := "sortKids", fn := fun _ => fun
  | [d] => { results := [.lit (.bool false)], args := [d] }
  | _ => none }
def SortKidsWrongFalsely : Prop := sortKidsRow.holds Tryd.pinned (OpenSpec.ofChange sortKidsWrong)

/-- 'redresslaw04.SortOne': WHATEVER THE INPUT: true; the input reads as it did. -/
def sortOneSpec : ChangeSpec := { name := "sortOne", fn := fun _ => fun
  | [d] => { results := [.lit (.bool true)], args := [d] }
  | _ => none }
def sortOneRow : OpenClaim := { program := "ytefiadocljnpjaadoor", sum := "ebf16bd611c30dfb8dce9cc53d3c9e070ca77d50b6cc51f82148fe0dc2f71605", func := "redress/redresslaw04.SortOne", spec := "sortOne", inPlace := ["internal/bytealg.IndexByteString", "internal/bytealg.IndexString"], unfollowed := true, recurses := true, named := ["redress/row.words", "unicode/utf8.first", "unicode/utf8.acceptRanges", "internal/bytealg.MaxLen"], apart := false, laid := [("unicode/utf8.acceptRanges", laid_unicode_utf8_acceptRanges), ("redress/row.words", laid_redress_row_words), ("unicode/utf8.first", laid_unicode_utf8_first)] }
def SortOneSaid : Prop := sortOneRow.holds Tryd.pinned (OpenSpec.ofChange sortOneSpec)

/-- ITS FALSE NEIGHBOUR: 'it returns false'. Refute it at one input. -/
def sortOneWrong : ChangeSpec := { name := "sortOne", fn := fun _ => fun
  | [d] => { results := [.lit (.bool false)], args := [d] }
  | _ => none }
def SortOneWrongFalsely : Prop := sortOneRow.holds Tryd.pinned (OpenSpec.ofChange sortOneWrong)

/-- 'redresslaw04.SortMakes': WHATEVER THE INPUT: true; the input reads as it did. -/
def sortMakesSpec : ChangeSpec := { name := "sortMakes", fn := fun _ => fun
  | [d1, d2] => { results := [.lit (.bool true)], args := [d1, d2] }
  | _ => none }
def sortMakesRow : OpenClaim := { program := "ytefiadocljnpjaadoor", sum := "ebf16bd611c30dfb8dce9cc53d3c9e070ca77d50b6cc51f82148fe0dc2f71605", func := "redress/redresslaw04.SortMakes", spec := "sortMakes", inPlace := ["internal/bytealg.IndexByteString", "internal/bytealg.IndexString"], unfollowed := true, recurses := true, named := ["redress/row.words", "unicode/utf8.first", "unicode/utf8.acceptRanges", "internal/bytealg.MaxLen"], apart := false, laid := [("unicode/utf8.acceptRanges", laid_unicode_utf8_acceptRanges), ("redress/row.words", laid_redress_row_words), ("unicode/utf8.first", laid_unicode_utf8_first)] }
def SortMakesSaid : Prop := sortMakesRow.holds Tryd.pinned (OpenSpec.ofChange sortMakesSpec)

/-- ITS FALSE NEIGHBOUR: 'it returns false'. Refute it at one input. -/
def sortMakesWrong : ChangeSpec := { name := "sortMakes", fn := fun _ => fun
  | [d1, d2] => { results := [.lit (.bool false)], args := [d1, d2] }
  | _ => none }
def SortMakesWrongFalsely : Prop := sortMakesRow.holds Tryd.pinned (OpenSpec.ofChange sortMakesWrong)

/-- 'redresslaw04.SortBlocks': WHATEVER THE INPUT: true; the input reads as it did. -/
def sortBlocksSpec : ChangeSpec := { name := "sortBlocks", fn := fun _ => fun
  | [d] => { results := [.lit (.bool true)], args := [d] }
  | _ => none }
def sortBlocksRow : OpenClaim := { program := "ytefiadocljnpjaadoor", sum := "ebf16bd611c30dfb8dce9cc53d3c9e070ca77d50b6cc51f82148fe0dc2f71605", func := "redress/redresslaw04.SortBlocks", spec := "sortBlocks", inPlace := ["internal/bytealg.IndexByteString", "internal/bytealg.IndexString"], unfollowed := true, recurses := true, named := ["redress/row.words", "unicode/utf8.first", "unicode/utf8.acceptRanges", "internal/bytealg.MaxLen"], apart := false, laid := [("unicode/utf8.acceptRanges", laid_unicode_utf8_acceptRanges), ("redress/row.words", laid_redress_row_words), ("unicode/utf8.first", laid_unicode_utf8_first)] }
def SortBlocksSaid : Prop := sortBlocksRow.holds Tryd.pinned (OpenSpec.ofChange sortBlocksSpec)

/-- ITS FALSE NEIGHBOUR: 'it returns false'. Refute it at one input. -/
def sortBlocksWrong : ChangeSpec := { name := "sortBlocks", fn := fun _ => fun
  | [d] => { results := [.lit (.bool false)], args := [d] }
  | _ => none }
def SortBlocksWrongFalsely : Prop := sortBlocksRow.holds Tryd.pinned (OpenSpec.ofChange sortBlocksWrong)

/- THE SECOND FORM. 'bulk': how many values and letters a reading holds, each counted each time it is reached (what is shared counts as often as it is met; a slice's spare places count too). A statement '..UptoSaid' is the law's where the arguments, and the package variables that the reading takes, are together of bulk at most 1048576: NARROWER than '..Said'. Prove '..Said' where nothing that the law and all that it calls make is longer than what came in: it says more and counts as full. Else prove '..UptoSaid'. A law counts once. -/
mutual
def uptoBulk {H : Type} : DataW H → Nat
  | .lit (.string bytes) => bytes.length + 1
  | .lit _ => 1
  | .nil => 1
  | .ptr d => uptoBulk d + 1
  | .slice elems spare => uptoBulkAll elems + uptoBulkAll spare + 1
  | .agg parts => uptoBulkAll parts + 1
  | .iface _ d => uptoBulk d + 1
  | .map entries => uptoBulkEntries entries + 1
  | .held _ => 1
def uptoBulkAll {H : Type} : List (DataW H) → Nat
  | [] => 0
  | d :: r => uptoBulk d + uptoBulkAll r
def uptoBulkEntries {H : Type} : List (Lit × DataW H) → Nat
  | [] => 0
  | x :: r => uptoBulkEntry x + uptoBulkEntries r
def uptoBulkEntry {H : Type} : Lit × DataW H → Nat
  | (.string bytes, d) => bytes.length + uptoBulk d + 1
  | (_, d) => uptoBulk d + 1
 end
def uptoSmall : (H : Type) → List (DataW H) → Bool := fun _ ds => decide (uptoBulkAll ds ≤ 1048576)
def OpenSpec.upto (s : _root_.Go.ChangeSpec) : _root_.Go.OpenSpec := { _root_.Go.OpenSpec.ofChange s with cond := some uptoSmall }

/-- 'redresslaw05.TokenLexes', WHERE WHAT IT READS IS OF BULK AT MOST 1048576: true; the input reads as it did. -/
def tokenLexesUptoRow : OpenClaim := { program := "ytefiadocljnpjaadoor", sum := "ebf16bd611c30dfb8dce9cc53d3c9e070ca77d50b6cc51f82148fe0dc2f71605", func := "redress/redresslaw05.TokenLexes", spec := "tokenLexes", inPlace := ["internal/bytealg.IndexByteString", "internal/bytealg.IndexString"], unfollowed := true, recurses := true, named := ["strings.asciiSpace", "unicode.White_Space", "internal/bytealg.MaxLen"], apart := false, laid := [("unicode.White_Space", laid_unicode_White_Space), ("strings.asciiSpace", laid_strings_asciiSpace)], narrowed := true }
def TokenLexesUptoSaid : Prop := tokenLexesUptoRow.holds Tryd.pinned (OpenSpec.upto tokenLexesSpec)

/-- 'redresslaw05.TokenPrints', WHERE WHAT IT READS IS OF BULK AT MOST 1048576: true; the input reads as it did. -/
def tokenPrintsUptoRow : OpenClaim := { program := "ytefiadocljnpjaadoor", sum := "ebf16bd611c30dfb8dce9cc53d3c9e070ca77d50b6cc51f82148fe0dc2f71605", func := "redress/redresslaw05.TokenPrints", spec := "tokenPrints", inPlace := ["internal/bytealg.IndexByteString", "internal/bytealg.IndexString"], unfollowed := true, recurses := true, named := ["strings.asciiSpace", "unicode.White_Space", "internal/bytealg.MaxLen"], apart := false, laid := [("unicode.White_Space", laid_unicode_White_Space), ("strings.asciiSpace", laid_strings_asciiSpace)], narrowed := true }
def TokenPrintsUptoSaid : Prop := tokenPrintsUptoRow.holds Tryd.pinned (OpenSpec.upto tokenPrintsSpec)

/-- 'redresslaw05.TokenRows', WHERE WHAT IT READS IS OF BULK AT MOST 1048576: true; the input reads as it did. -/
def tokenRowsUptoRow : OpenClaim := { program := "ytefiadocljnpjaadoor", sum := "ebf16bd611c30dfb8dce9cc53d3c9e070ca77d50b6cc51f82148fe0dc2f71605", func := "redress/redresslaw05.TokenRows", spec := "tokenRows", inPlace := ["internal/bytealg.IndexByteString", "internal/bytealg.IndexString"], unfollowed := true, recurses := true, named := ["strings.asciiSpace", "unicode.White_Space", "internal/bytealg.MaxLen"], apart := false, laid := [("unicode.White_Space", laid_unicode_White_Space), ("strings.asciiSpace", laid_strings_asciiSpace)], narrowed := true }
def TokenRowsUptoSaid : Prop := tokenRowsUptoRow.holds Tryd.pinned (OpenSpec.upto tokenRowsSpec)

/-- 'redresslaw05.TokenAgain', WHERE WHAT IT READS IS OF BULK AT MOST 1048576: true; the input reads as it did. -/
def tokenAgainUptoRow : OpenClaim := { program := "ytefiadocljnpjaadoor", sum := "ebf16bd611c30dfb8dce9cc53d3c9e070ca77d50b6cc51f82148fe0dc2f71605", func := "redress/redresslaw05.TokenAgain", spec := "tokenAgain", inPlace := ["internal/bytealg.IndexByteString", "internal/bytealg.IndexString"], unfollowed := true, recurses := true, named := ["strings.asciiSpace", "unicode.White_Space", "internal/bytealg.MaxLen"], apart := false, laid := [("unicode.White_Space", laid_unicode_White_Space), ("strings.asciiSpace", laid_strings_asciiSpace)], narrowed := true }
def TokenAgainUptoSaid : Prop := tokenAgainUptoRow.holds Tryd.pinned (OpenSpec.upto tokenAgainSpec)

/-- 'redresslaw05.TokenHead', WHERE WHAT IT READS IS OF BULK AT MOST 1048576: true; the input reads as it did. -/
def tokenHeadUptoRow : OpenClaim := { program := "ytefiadocljnpjaadoor", sum := "ebf16bd611c30dfb8dce9cc53d3c9e070ca77d50b6cc51f82148fe0dc2f71605", func := "redress/redresslaw05.TokenHead", spec := "tokenHead", inPlace := ["internal/bytealg.IndexByteString", "internal/bytealg.IndexString"], unfollowed := true, recurses := true, named := ["strings.asciiSpace", "unicode.White_Space", "internal/bytealg.MaxLen"], apart := false, laid := [("unicode.White_Space", laid_unicode_White_Space), ("strings.asciiSpace", laid_strings_asciiSpace)], narrowed := true }
def TokenHeadUptoSaid : Prop := tokenHeadUptoRow.holds Tryd.pinned (OpenSpec.upto tokenHeadSpec)

/-- 'redresslaw05.TokenWords', WHERE WHAT IT READS IS OF BULK AT MOST 1048576: true; the input reads as it did. -/
def tokenWordsUptoRow : OpenClaim := { program := "ytefiadocljnpjaadoor", sum := "ebf16bd611c30dfb8dce9cc53d3c9e070ca77d50b6cc51f82148fe0dc2f71605", func := "redress/redresslaw05.TokenWords", spec := "tokenWords", inPlace := ["internal/bytealg.IndexByteString", "internal/bytealg.IndexString"], unfollowed := true, recurses := true, named := ["strings.asciiSpace", "unicode.White_Space", "internal/bytealg.MaxLen"], apart := false, laid := [("unicode.White_Space", laid_unicode_White_Space), ("strings.asciiSpace", laid_strings_asciiSpace)], narrowed := true }
def TokenWordsUptoSaid : Prop := tokenWordsUptoRow.holds Tryd.pinned (OpenSpec.upto tokenWordsSpec)

/-- 'redresslaw03.RowNodes', WHERE WHAT IT READS IS OF BULK AT MOST 1048576: true; the input reads as it did. -/
def rowNodesUptoRow : OpenClaim := { program := "ytefiadocljnpjaadoor", sum := "ebf16bd611c30dfb8dce9cc53d3c9e070ca77d50b6cc51f82148fe0dc2f71605", func := "redress/redresslaw03.RowNodes", spec := "rowNodes", inPlace := ["internal/bytealg.IndexByteString", "internal/bytealg.IndexString"], unfollowed := true, recurses := true, named := ["redress/row.words", "unicode/utf8.first", "unicode/utf8.acceptRanges", "internal/bytealg.MaxLen"], apart := false, laid := [("unicode/utf8.acceptRanges", laid_unicode_utf8_acceptRanges), ("redress/row.words", laid_redress_row_words), ("unicode/utf8.first", laid_unicode_utf8_first)], narrowed := true }
def RowNodesUptoSaid : Prop := rowNodesUptoRow.holds Tryd.pinned (OpenSpec.upto rowNodesSpec)

/-- 'redresslaw03.RowTrees', WHERE WHAT IT READS IS OF BULK AT MOST 1048576: true; the input reads as it did. -/
def rowTreesUptoRow : OpenClaim := { program := "ytefiadocljnpjaadoor", sum := "ebf16bd611c30dfb8dce9cc53d3c9e070ca77d50b6cc51f82148fe0dc2f71605", func := "redress/redresslaw03.RowTrees", spec := "rowTrees", inPlace := ["internal/bytealg.IndexByteString", "internal/bytealg.IndexString"], unfollowed := true, recurses := true, named := ["redress/row.words", "unicode/utf8.first", "unicode/utf8.acceptRanges", "internal/bytealg.MaxLen"], apart := false, laid := [("unicode/utf8.acceptRanges", laid_unicode_utf8_acceptRanges), ("redress/row.words", laid_redress_row_words), ("unicode/utf8.first", laid_unicode_utf8_first)], narrowed := true }
def RowTreesUptoSaid : Prop := rowTreesUptoRow.holds Tryd.pinned (OpenSpec.upto rowTreesSpec)

/-- 'redresslaw03.RowKids', WHERE WHAT IT READS IS OF BULK AT MOST 1048576: true; the input reads as it did. -/
def rowKidsUptoRow : OpenClaim := { program := "ytefiadocljnpjaadoor", sum := "ebf16bd611c30dfb8dce9cc53d3c9e070ca77d50b6cc51f82148fe0dc2f71605", func := "redress/redresslaw03.RowKids", spec := "rowKids", inPlace := ["internal/bytealg.IndexByteString", "internal/bytealg.IndexString"], unfollowed := true, recurses := true, named := ["redress/row.words", "unicode/utf8.first", "unicode/utf8.acceptRanges", "internal/bytealg.MaxLen"], apart := false, laid := [("unicode/utf8.acceptRanges", laid_unicode_utf8_acceptRanges), ("redress/row.words", laid_redress_row_words), ("unicode/utf8.first", laid_unicode_utf8_first)], narrowed := true }
def RowKidsUptoSaid : Prop := rowKidsUptoRow.holds Tryd.pinned (OpenSpec.upto rowKidsSpec)

/-- 'redresslaw03.RowMakes', WHERE WHAT IT READS IS OF BULK AT MOST 1048576: true; the input reads as it did. -/
def rowMakesUptoRow : OpenClaim := { program := "ytefiadocljnpjaadoor", sum := "ebf16bd611c30dfb8dce9cc53d3c9e070ca77d50b6cc51f82148fe0dc2f71605", func := "redress/redresslaw03.RowMakes", spec := "rowMakes", inPlace := ["internal/bytealg.IndexByteString", "internal/bytealg.IndexString"], unfollowed := true, recurses := true, named := ["redress/row.words", "unicode/utf8.first", "unicode/utf8.acceptRanges", "internal/bytealg.MaxLen"], apart := false, laid := [("unicode/utf8.acceptRanges", laid_unicode_utf8_acceptRanges), ("redress/row.words", laid_redress_row_words), ("unicode/utf8.first", laid_unicode_utf8_first)], narrowed := true }
def RowMakesUptoSaid : Prop := rowMakesUptoRow.holds Tryd.pinned (OpenSpec.upto rowMakesSpec)

/-- 'redresslaw03.RowCounts', WHERE WHAT IT READS IS OF BULK AT MOST 1048576: true; the input reads as it did. -/
def rowCountsUptoRow : OpenClaim := { program := "ytefiadocljnpjaadoor", sum := "ebf16bd611c30dfb8dce9cc53d3c9e070ca77d50b6cc51f82148fe0dc2f71605", func := "redress/redresslaw03.RowCounts", spec := "rowCounts", inPlace := ["internal/bytealg.IndexByteString", "internal/bytealg.IndexString"], unfollowed := true, recurses := true, named := ["redress/row.words", "unicode/utf8.first", "unicode/utf8.acceptRanges", "internal/bytealg.MaxLen"], apart := false, laid := [("unicode/utf8.acceptRanges", laid_unicode_utf8_acceptRanges), ("redress/row.words", laid_redress_row_words), ("unicode/utf8.first", laid_unicode_utf8_first)], narrowed := true }
def RowCountsUptoSaid : Prop := rowCountsUptoRow.holds Tryd.pinned (OpenSpec.upto rowCountsSpec)

/-- 'redresslaw03.RowDeep', WHERE WHAT IT READS IS OF BULK AT MOST 1048576: true; the input reads as it did. -/
def rowDeepUptoRow : OpenClaim := { program := "ytefiadocljnpjaadoor", sum := "ebf16bd611c30dfb8dce9cc53d3c9e070ca77d50b6cc51f82148fe0dc2f71605", func := "redress/redresslaw03.RowDeep", spec := "rowDeep", inPlace := ["internal/bytealg.IndexByteString", "internal/bytealg.IndexString"], unfollowed := true, recurses := true, named := ["redress/row.words", "unicode/utf8.first", "unicode/utf8.acceptRanges", "internal/bytealg.MaxLen"], apart := false, laid := [("unicode/utf8.acceptRanges", laid_unicode_utf8_acceptRanges), ("redress/row.words", laid_redress_row_words), ("unicode/utf8.first", laid_unicode_utf8_first)], narrowed := true }
def RowDeepUptoSaid : Prop := rowDeepUptoRow.holds Tryd.pinned (OpenSpec.upto rowDeepSpec)

/-- 'redresslaw04.SortOf', WHERE WHAT IT READS IS OF BULK AT MOST 1048576: true; the input reads as it did. -/
def sortOfUptoRow : OpenClaim := { program := "ytefiadocljnpjaadoor", sum := "ebf16bd611c30dfb8dce9cc53d3c9e070ca77d50b6cc51f82148fe0dc2f71605", func := "redress/redresslaw04.SortOf", spec := "sortOf", inPlace := ["internal/bytealg.IndexByteString", "internal/bytealg.IndexString"], unfollowed := true, recurses := true, named := ["redress/row.words", "unicode/utf8.first", "unicode/utf8.acceptRanges", "internal/bytealg.MaxLen"], apart := false, laid := [("unicode/utf8.acceptRanges", laid_unicode_utf8_acceptRanges), ("redress/row.words", laid_redress_row_words), ("unicode/utf8.first", laid_unicode_utf8_first)], narrowed := true }
def SortOfUptoSaid : Prop := sortOfUptoRow.holds Tryd.pinned (OpenSpec.upto sortOfSpec)

/-- 'redresslaw04.SortRight', WHERE WHAT IT READS IS OF BULK AT MOST 1048576: true; the input reads as it did. -/
def sortRightUptoRow : OpenClaim := { program := "ytefiadocljnpjaadoor", sum := "ebf16bd611c30dfb8dce9cc53d3c9e070ca77d50b6cc51f82148fe0dc2f71605", func := "redress/redresslaw04.SortRight", spec := "sortRight", inPlace := ["internal/bytealg.IndexByteString", "internal/bytealg.IndexString"], unfollowed := true, recurses := true, named := ["redress/row.words", "unicode/utf8.first", "unicode/utf8.acceptRanges", "internal/bytealg.MaxLen"], apart := false, laid := [("unicode/utf8.acceptRanges", laid_unicode_utf8_acceptRanges), ("redress/row.words", laid_redress_row_words), ("unicode/utf8.first", laid_unicode_utf8_first)], narrowed := true }
def SortRightUptoSaid : Prop := sortRightUptoRow.holds Tryd.pinned (OpenSpec.upto sortRightSpec)

/-- 'redresslaw04.SortKids', WHERE WHAT IT READS IS OF BULK AT MOST 1048576: true; the input reads as it did. -/
def sortKidsUptoRow : OpenClaim := { program := "ytefiadocljnpjaadoor", sum := "ebf16bd611c30dfb8dce9cc53d3c9e070ca77d50b6cc51f82148fe0dc2f71605", func := "redress/redresslaw04.SortKids", spec := "sortKids", inPlace := ["internal/bytealg.IndexByteString", "internal/bytealg.IndexString"], unfollowed := true, recurses := true, named := ["redress/row.words", "unicode/utf8.first", "unicode/utf8.acceptRanges", "internal/bytealg.MaxLen"], apart := false, laid := [("unicode/utf8.acceptRanges", laid_unicode_utf8_acceptRanges), ("redress/row.words", laid_redress_row_words), ("unicode/utf8.first", laid_unicode_utf8_first)], narrowed := true }
def SortKidsUptoSaid : Prop := sortKidsUptoRow.holds Tryd.pinned (OpenSpec.upto sortKidsSpec)

/-- 'redresslaw04.SortOne', WHERE WHAT IT READS IS OF BULK AT MOST 1048576: true; the input reads as it did. -/
def sortOneUptoRow : OpenClaim := { program := "ytefiadocljnpjaadoor", sum := "ebf16bd611c30dfb8dce9cc53d3c9e070ca77d50b6cc51f82148fe0dc2f71605", func := "redress/redresslaw04.SortOne", spec := "sortOne", inPlace := ["internal/bytealg.IndexByteString", "internal/bytealg.IndexString"], unfollowed := true, recurses := true, named := ["redress/row.words", "unicode/utf8.first", "unicode/utf8.acceptRanges", "internal/bytealg.MaxLen"], apart := false, laid := [("unicode/utf8.acceptRanges", laid_unicode_utf8_acceptRanges), ("redress/row.words", laid_redress_row_words), ("unicode/utf8.first", laid_unicode_utf8_first)], narrowed := true }
def SortOneUptoSaid : Prop := sortOneUptoRow.holds Tryd.pinned (OpenSpec.upto sortOneSpec)

/-- 'redresslaw04.SortMakes', WHERE WHAT IT READS IS OF BULK AT MOST 1048576: true; the input reads as it did. -/
def sortMakesUptoRow : OpenClaim := { program := "ytefiadocljnpjaadoor", sum := "ebf16bd611c30dfb8dce9cc53d3c9e070ca77d50b6cc51f82148fe0dc2f71605", func := "redress/redresslaw04.SortMakes", spec := "sortMakes", inPlace := ["internal/bytealg.IndexByteString", "internal/bytealg.IndexString"], unfollowed := true, recurses := true, named := ["redress/row.words", "unicode/utf8.first", "unicode/utf8.acceptRanges", "internal/bytealg.MaxLen"], apart := false, laid := [("unicode/utf8.acceptRanges", laid_unicode_utf8_acceptRanges), ("redress/row.words", laid_redress_row_words), ("unicode/utf8.first", laid_unicode_utf8_first)], narrowed := true }
def SortMakesUptoSaid : Prop := sortMakesUptoRow.holds Tryd.pinned (OpenSpec.upto sortMakesSpec)

/-- 'redresslaw04.SortBlocks', WHERE WHAT IT READS IS OF BULK AT MOST 1048576: true; the input reads as it did. -/
def sortBlocksUptoRow : OpenClaim := { program := "ytefiadocljnpjaadoor", sum := "ebf16bd611c30dfb8dce9cc53d3c9e070ca77d50b6cc51f82148fe0dc2f71605", func := "redress/redresslaw04.SortBlocks", spec := "sortBlocks", inPlace := ["internal/bytealg.IndexByteString", "internal/bytealg.IndexString"], unfollowed := true, recurses := true, named := ["redress/row.words", "unicode/utf8.first", "unicode/utf8.acceptRanges", "internal/bytealg.MaxLen"], apart := false, laid := [("unicode/utf8.acceptRanges", laid_unicode_utf8_acceptRanges), ("redress/row.words", laid_redress_row_words), ("unicode/utf8.first", laid_unicode_utf8_first)], narrowed := true }
def SortBlocksUptoSaid : Prop := sortBlocksUptoRow.holds Tryd.pinned (OpenSpec.upto sortBlocksSpec)

end Rows
end Go.Proofs.YtefiadocljnpjaaDoor
