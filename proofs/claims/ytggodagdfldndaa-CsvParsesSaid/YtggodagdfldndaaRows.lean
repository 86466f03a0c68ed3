/-
  No cell of these rows narrows 'for every input' (looked for: loops, veiled, ifaces, maps, wideKeys, modest, calm, conditions, laid).
  DERIVED. THE GIVEN ROWS OF THIS SEAT. 18 by the template 'for every input the law returns true; each argument reads behind the call as it read before'; 0 by the template 'total and deterministic' (their statements: YtggodagdfldndaaTotals.lean).
  GIVEN WITH THE SEED: the statements are not yours to turn. If you find one false, say at which input.
  Laid BY PROGRAM, IN A SANDBOX (cutbox-rows.mjs): the forced cells as the released guide's own fill.sh prints them over the translation 17dae43bc6537ef3… (all of the seat's roots in one cut). By AI agents, Wed Nov 11 2026. No macro, syntax, notation, axiom, sorry.
-/
import Derived.Test.YtggodagdfldndaaChecked
import GoSem.Claim
import GoSem.ClaimJoined
import GoSem.ClaimMapViews
import Derived.JoinedTies
import Derived.KernelRfl
namespace Go.Proofs.Ytggodagdfldndaa
/- THE CELL 'sum', in the pinned program and in every row, IS THE sha256 OF THE DUMP (.gsa) THAT YtggodagdfldndaaProg.lean LOADS. Nothing in Lean hashes anything: it is a label: what it is worth is what the hold of that sum in a sandbox is worth. -/
noncomputable def Try.pinned : Pinned := { name := "ytggodagdfldndaa", sum := "17dae43bc6537ef3df69860306c769f4fa241307dcf6b595e7bc07450ab67531", checked := Try.checked }
namespace Rows
def none {H : Type} : Left H := { results := [], args := [] }

/-- 'tartanlaw01.QuotePuts': WHATEVER THE INPUT: true; the input reads as it did. -/
def quotePutsSpec : ChangeSpec := { name := "quotePuts", fn := fun _ => fun
  | [d1, d2] => { results := [.lit (.bool true)], args := [d1, d2] }
  | _ => none }
def quotePutsRow : OpenClaim := { program := "ytggodagdfldndaa", sum := "17dae43bc6537ef3df69860306c769f4fa241307dcf6b595e7bc07450ab67531", func := "tartan/tartanlaw01.QuotePuts", spec := "quotePuts", inPlace := ["internal/abi.NoEscape", "internal/bytealg.CountString", "internal/bytealg.IndexByteString", "internal/bytealg.IndexString"], unfollowed := true, recurses := true, named := ["internal/bytealg.MaxLen"], apart := false }
def QuotePutsSaid : Prop := quotePutsRow.holds Try.pinned (OpenSpec.ofChange quotePutsSpec)

/-- ITS FALSE NEIGHBOUR: 'it returns false'. Refute it at one input. -/
def quotePutsWrong : ChangeSpec := { name := "quotePuts", fn := fun _ => fun
  | [d1, d2] => { results := [.lit (.bool false)], args := [d1, d2] }
  | _ => none }
def QuotePutsWrongFalsely : Prop := quotePutsRow.holds Try.pinned (OpenSpec.ofChange quotePutsWrong)

/-- 'tartanlaw01.QuoteGets': WHATEVER THE INPUT: true; the input reads as it did. -/
def quoteGetsSpec : ChangeSpec := { name := "quoteGets", fn := fun _ => fun
  | [d] => { results := [.lit (.bool true)], args := [d] }
  | _ => none }
def quoteGetsRow : OpenClaim := { program := "ytggodagdfldndaa", sum := "17dae43bc6537ef3df69860306c769f4fa241307dcf6b595e7bc07450ab67531", func := "tartan/tartanlaw01.QuoteGets", spec := "quoteGets", inPlace := ["internal/abi.NoEscape", "internal/bytealg.CountString", "internal/bytealg.IndexByteString", "internal/bytealg.IndexString"], unfollowed := true, recurses := true, named := ["internal/bytealg.MaxLen"], apart := false }
def QuoteGetsSaid : Prop := quoteGetsRow.holds Try.pinned (OpenSpec.ofChange quoteGetsSpec)

/-- ITS FALSE NEIGHBOUR: 'it returns false'. Refute it at one input. -/
def quoteGetsWrong : ChangeSpec := { name := "quoteGets", fn := fun _ => fun
  | [d] => { results := [.lit (.bool false)], args := [d] }
  | _ => none }
def QuoteGetsWrongFalsely : Prop := quoteGetsRow.holds Try.pinned (OpenSpec.ofChange quoteGetsWrong)

/-- 'tartanlaw01.QuoteBack': WHATEVER THE INPUT: true; the input reads as it did. -/
def quoteBackSpec : ChangeSpec := { name := "quoteBack", fn := fun _ => fun
  | [d1, d2] => { results := [.lit (.bool true)], args := [d1, d2] }
  | _ => none }
def quoteBackRow : OpenClaim := { program := "ytggodagdfldndaa", sum := "17dae43bc6537ef3df69860306c769f4fa241307dcf6b595e7bc07450ab67531", func := "tartan/tartanlaw01.QuoteBack", spec := "quoteBack", inPlace := ["internal/abi.NoEscape", "internal/bytealg.CountString", "internal/bytealg.IndexByteString", "internal/bytealg.IndexString"], unfollowed := true, recurses := true, named := ["internal/bytealg.MaxLen"], apart := false }
def QuoteBackSaid : Prop := quoteBackRow.holds Try.pinned (OpenSpec.ofChange quoteBackSpec)

/-- ITS FALSE NEIGHBOUR: 'it returns false'. Refute it at one input. -/
def quoteBackWrong : ChangeSpec := { name := "quoteBack", fn := fun _ => fun
  | [d1, d2] => { results := [.lit (.bool false)], args := [d1, d2] }
  | _ => none }
def QuoteBackWrongFalsely : Prop := quoteBackRow.holds Try.pinned (OpenSpec.ofChange quoteBackWrong)

/-- 'tartanlaw01.QuoteOnly': WHATEVER THE INPUT: true; the input reads as it did. -/
def quoteOnlySpec : ChangeSpec := { name := "quoteOnly", fn := fun _ => fun
  | [d] => { results := [.lit (.bool true)], args := [d] }
  | _ => none }
def quoteOnlyRow : OpenClaim := { program := "ytggodagdfldndaa", sum := "17dae43bc6537ef3df69860306c769f4fa241307dcf6b595e7bc07450ab67531", func := "tartan/tartanlaw01.QuoteOnly", spec := "quoteOnly", inPlace := ["internal/abi.NoEscape", "internal/bytealg.CountString", "internal/bytealg.IndexByteString", "internal/bytealg.IndexString"], unfollowed := true, recurses := true, named := ["internal/bytealg.MaxLen"], apart := false }
def QuoteOnlySaid : Prop := quoteOnlyRow.holds Try.pinned (OpenSpec.ofChange quoteOnlySpec)

/-- ITS FALSE NEIGHBOUR: 'it returns false'. Refute it at one input. -/
def quoteOnlyWrong : ChangeSpec := { name := "quoteOnly", fn := fun _ => fun
  | [d] => { results := [.lit (.bool false)], args := [d] }
  | _ => none }
def QuoteOnlyWrongFalsely : Prop := quoteOnlyRow.holds Try.pinned (OpenSpec.ofChange quoteOnlyWrong)

/-- 'tartanlaw01.QuoteApart': WHATEVER THE INPUT: true; the input reads as it did. -/
def quoteApartSpec : ChangeSpec := { name := "quoteApart", fn := fun _ => fun
  | [d1, d2, d3] => { results := [.lit (.bool true)], args := [d1, d2, d3] }
  | _ => none }
def quoteApartRow : OpenClaim := { program := "ytggodagdfldndaa", sum := "17dae43bc6537ef3df69860306c769f4fa241307dcf6b595e7bc07450ab67531", func := "tartan/tartanlaw01.QuoteApart", spec := "quoteApart", inPlace := ["internal/abi.NoEscape", "internal/bytealg.CountString", "internal/bytealg.IndexByteString", "internal/bytealg.IndexString"], unfollowed := true, recurses := true, named := ["internal/bytealg.MaxLen"], apart := false }
def QuoteApartSaid : Prop := quoteApartRow.holds Try.pinned (OpenSpec.ofChange quoteApartSpec)

/-- ITS FALSE NEIGHBOUR: 'it returns false'. Refute it at one input. -/
def quoteApartWrong : ChangeSpec := { name := "quoteApart", fn := fun _ => fun
  | [d1, d2, d3] => { results := [.lit (.bool false)], args := [d1, d2, d3] }
  | _ => none }
def QuoteApartWrongFalsely : Prop := quoteApartRow.holds Try.pinned (OpenSpec.ofChange quoteApartWrong)

/-- 'tartanlaw01.QuoteSizes': WHATEVER THE INPUT: true; the input reads as it did. -/
def quoteSizesSpec : ChangeSpec := { name := "quoteSizes", fn := fun _ => fun
  | [d1, d2, d3] => { results := [.lit (.bool true)], args := [d1, d2, d3] }
  | _ => none }
def quoteSizesRow : OpenClaim := { program := "ytggodagdfldndaa", sum := "17dae43bc6537ef3df69860306c769f4fa241307dcf6b595e7bc07450ab67531", func := "tartan/tartanlaw01.QuoteSizes", spec := "quoteSizes", inPlace := ["internal/abi.NoEscape", "internal/bytealg.CountString", "internal/bytealg.IndexByteString", "internal/bytealg.IndexString"], unfollowed := true, recurses := true, named := ["internal/bytealg.MaxLen"], apart := false }
def QuoteSizesSaid : Prop := quoteSizesRow.holds Try.pinned (OpenSpec.ofChange quoteSizesSpec)

/-- ITS FALSE NEIGHBOUR: 'it returns false'. Refute it at one input. -/
def quoteSizesWrong : ChangeSpec := { name := "quoteSizes", fn := fun _ => fun
  | [d1, d2, d3] => { results := [.lit (.bool false)], args := [d1, d2, d3] }
  | _ => none }
def QuoteSizesWrongFalsely : Prop := quoteSizesRow.holds Try.pinned (OpenSpec.ofChange quoteSizesWrong)

/-- 'tartanlaw02.LexFields': WHATEVER THE INPUT: true; the input reads as it did. -/
def lexFieldsSpec : ChangeSpec := { name := "lexFields", fn := fun _ => fun
  | [d1, d2, d3] => { results := [.lit (.bool true)], args := [d1, d2, d3] }
  | _ => none }
def lexFieldsRow : OpenClaim := { program := "ytggodagdfldndaa", sum := "17dae43bc6537ef3df69860306c769f4fa241307dcf6b595e7bc07450ab67531", func := "tartan/tartanlaw02.LexFields", spec := "lexFields", inPlace := ["internal/abi.NoEscape", "internal/bytealg.MakeNoZero"], unfollowed := true, recurses := true, apart := false }
def LexFieldsSaid : Prop := lexFieldsRow.holds Try.pinned (OpenSpec.ofChange lexFieldsSpec)

/-- ITS FALSE NEIGHBOUR: 'it returns false'. Refute it at one input. -/
def lexFieldsWrong : ChangeSpec := { name := "lexFields", fn := fun _ => fun
  | [d1, d2, d3] => { results := [.lit (.bool false)], args := [d1, d2, d3] }
  | _ => none }
def LexFieldsWrongFalsely : Prop := lexFieldsRow.holds Try.pinned (OpenSpec.ofChange lexFieldsWrong)

/-- 'tartanlaw02.LexBack': WHATEVER THE INPUT: true; the input reads as it did. -/
def lexBackSpec : ChangeSpec := { name := "lexBack", fn := fun _ => fun
  | [d1, d2, d3, d4] => { results := [.lit (.bool true)], args := [d1, d2, d3, d4] }
  | _ => none }
def lexBackRow : OpenClaim := { program := "ytggodagdfldndaa", sum := "17dae43bc6537ef3df69860306c769f4fa241307dcf6b595e7bc07450ab67531", func := "tartan/tartanlaw02.LexBack", spec := "lexBack", inPlace := ["internal/abi.NoEscape", "internal/bytealg.MakeNoZero"], unfollowed := true, recurses := true, apart := false }
def LexBackSaid : Prop := lexBackRow.holds Try.pinned (OpenSpec.ofChange lexBackSpec)

/-- ITS FALSE NEIGHBOUR: 'it returns false'. Refute it at one input. -/
def lexBackWrong : ChangeSpec := { name := "lexBack", fn := fun _ => fun
  | [d1, d2, d3, d4] => { results := [.lit (.bool false)], args := [d1, d2, d3, d4] }
  | _ => none }
def LexBackWrongFalsely : Prop := lexBackRow.holds Try.pinned (OpenSpec.ofChange lexBackWrong)

/-- 'tartanlaw02.LexEnds': WHATEVER THE INPUT: true; the input reads as it did. -/
def lexEndsSpec : ChangeSpec := { name := "lexEnds", fn := fun _ => fun
  | [d1, d2, d3] => { results := [.lit (.bool true)], args := [d1, d2, d3] }
  | _ => none }
def lexEndsRow : OpenClaim := { program := "ytggodagdfldndaa", sum := "17dae43bc6537ef3df69860306c769f4fa241307dcf6b595e7bc07450ab67531", func := "tartan/tartanlaw02.LexEnds", spec := "lexEnds", inPlace := ["internal/abi.NoEscape", "internal/bytealg.MakeNoZero"], unfollowed := true, recurses := true, apart := false }
def LexEndsSaid : Prop := lexEndsRow.holds Try.pinned (OpenSpec.ofChange lexEndsSpec)

/-- ITS FALSE NEIGHBOUR: 'it returns false'. Refute it at one input. -/
def lexEndsWrong : ChangeSpec := { name := "lexEnds", fn := fun _ => fun
  | [d1, d2, d3] => { results := [.lit (.bool false)], args := [d1, d2, d3] }
  | _ => none }
def LexEndsWrongFalsely : Prop := lexEndsRow.holds Try.pinned (OpenSpec.ofChange lexEndsWrong)

/-- 'tartanlaw03.CsvParses': WHATEVER THE INPUT: true; the input reads as it did. -/
def csvParsesSpec : ChangeSpec := { name := "csvParses", fn := fun _ => fun
  | [d1, d2] => { results := [.lit (.bool true)], args := [d1, d2] }
  | _ => none }
def csvParsesRow : OpenClaim := { program := "ytggodagdfldndaa", sum := "17dae43bc6537ef3df69860306c769f4fa241307dcf6b595e7bc07450ab67531", func := "tartan/tartanlaw03.CsvParses", spec := "csvParses", inPlace := ["internal/abi.NoEscape", "internal/bytealg.MakeNoZero"], unfollowed := true, recurses := true, apart := false }
def CsvParsesSaid : Prop := csvParsesRow.holds Try.pinned (OpenSpec.ofChange csvParsesSpec)

/-- ITS FALSE NEIGHBOUR: 'it returns false'. Refute it at one input. -/
def csvParsesWrong : ChangeSpec := { name := "csvParses", fn := fun _ => fun
  | [d1, d2] => { results := [.lit (.bool false)], args := [d1, d2] }
  | _ => none }
def CsvParsesWrongFalsely : Prop := csvParsesRow.holds Try.pinned (OpenSpec.ofChange csvParsesWrong)

/-- 'tartanlaw03.CsvPrints': WHATEVER THE INPUT: true; the input reads as it did. -/
def csvPrintsSpec : ChangeSpec := { name := "csvPrints", fn := fun _ => fun
  | [d1, d2, d3, d4] => { results := [.lit (.bool true)], args := [d1, d2, d3, d4] }
  | _ => none }
def csvPrintsRow : OpenClaim := { program := "ytggodagdfldndaa", sum := "17dae43bc6537ef3df69860306c769f4fa241307dcf6b595e7bc07450ab67531", func := "tartan/tartanlaw03.CsvPrints", spec := "csvPrints", inPlace := ["internal/abi.NoEscape", "internal/bytealg.MakeNoZero"], unfollowed := true, recurses := true, apart := false }
def CsvPrintsSaid : Prop := csvPrintsRow.holds Try.pinned (OpenSpec.ofChange csvPrintsSpec)

/-- ITS FALSE NEIGHBOUR: 'it returns false'. Refute it at one input. -/
def csvPrintsWrong : ChangeSpec := { name := "csvPrints", fn := fun _ => fun
  | [d1, d2, d3, d4] => { results := [.lit (.bool false)], args := [d1, d2, d3, d4] }
  | _ => none }
def CsvPrintsWrongFalsely : Prop := csvPrintsRow.holds Try.pinned (OpenSpec.ofChange csvPrintsWrong)

/-- 'tartanlaw03.CsvBack': WHATEVER THE INPUT: true; the input reads as it did. -/
def csvBackSpec : ChangeSpec := { name := "csvBack", fn := fun _ => fun
  | [d1, d2, d3] => { results := [.lit (.bool true)], args := [d1, d2, d3] }
  | _ => none }
def csvBackRow : OpenClaim := { program := "ytggodagdfldndaa", sum := "17dae43bc6537ef3df69860306c769f4fa241307dcf6b595e7bc07450ab67531", func := "tartan/tartanlaw03.CsvBack", spec := "csvBack", inPlace := ["internal/abi.NoEscape", "internal/bytealg.MakeNoZero"], unfollowed := true, recurses := true, apart := false }
def CsvBackSaid : Prop := csvBackRow.holds Try.pinned (OpenSpec.ofChange csvBackSpec)

/-- ITS FALSE NEIGHBOUR: 'it returns false'. Refute it at one input. -/
def csvBackWrong : ChangeSpec := { name := "csvBack", fn := fun _ => fun
  | [d1, d2, d3] => { results := [.lit (.bool false)], args := [d1, d2, d3] }
  | _ => none }
def CsvBackWrongFalsely : Prop := csvBackRow.holds Try.pinned (OpenSpec.ofChange csvBackWrong)

/-- 'tartanlaw03.CsvBreaks': WHATEVER THE INPUT: true; the input reads as it did. -/
def csvBreaksSpec : ChangeSpec := { name := "csvBreaks", fn := fun _ => fun
  | [d1, d2, d3] => { results := [.lit (.bool true)], args := [d1, d2, d3] }
  | _ => none }
def csvBreaksRow : OpenClaim := { program := "ytggodagdfldndaa", sum := "17dae43bc6537ef3df69860306c769f4fa241307dcf6b595e7bc07450ab67531", func := "tartan/tartanlaw03.CsvBreaks", spec := "csvBreaks", inPlace := ["internal/abi.NoEscape", "internal/bytealg.MakeNoZero"], unfollowed := true, recurses := true, apart := false }
def CsvBreaksSaid : Prop := csvBreaksRow.holds Try.pinned (OpenSpec.ofChange csvBreaksSpec)

/-- ITS FALSE NEIGHBOUR: 'it returns false'. Refute it at one input. -/
def csvBreaksWrong : ChangeSpec := { name := "csvBreaks", fn := fun _ => fun
  | [d1, d2, d3] => { results := [.lit (.bool false)], args := [d1, d2, d3] }
  | _ => none }
def CsvBreaksWrongFalsely : Prop := csvBreaksRow.holds Try.pinned (OpenSpec.ofChange csvBreaksWrong)

/-- 'tartanlaw03.CsvJoins': WHATEVER THE INPUT: true; the input reads as it did. -/
def csvJoinsSpec : ChangeSpec := { name := "csvJoins", fn := fun _ => fun
  | [d1, d2, d3, d4, d5] => { results := [.lit (.bool true)], args := [d1, d2, d3, d4, d5] }
  | _ => none }
def csvJoinsRow : OpenClaim := { program := "ytggodagdfldndaa", sum := "17dae43bc6537ef3df69860306c769f4fa241307dcf6b595e7bc07450ab67531", func := "tartan/tartanlaw03.CsvJoins", spec := "csvJoins", inPlace := ["internal/abi.NoEscape", "internal/bytealg.MakeNoZero"], unfollowed := true, recurses := true, apart := false }
def CsvJoinsSaid : Prop := csvJoinsRow.holds Try.pinned (OpenSpec.ofChange csvJoinsSpec)

/-- ITS FALSE NEIGHBOUR: 'it returns false'. Refute it at one input. -/
def csvJoinsWrong : ChangeSpec := { name := "csvJoins", fn := fun _ => fun
  | [d1, d2, d3, d4, d5] => { results := [.lit (.bool false)], args := [d1, d2, d3, d4, d5] }
  | _ => none }
def CsvJoinsWrongFalsely : Prop := csvJoinsRow.holds Try.pinned (OpenSpec.ofChange csvJoinsWrong)

/-- 'tartanlaw03.CsvAgain': WHATEVER THE INPUT: true; the input reads as it did. -/
def csvAgainSpec : ChangeSpec := { name := "csvAgain", fn := fun _ => fun
  | [d1, d2, d3] => { results := [.lit (.bool true)], args := [d1, d2, d3] }
  | _ => none }
def csvAgainRow : OpenClaim := { program := "ytggodagdfldndaa", sum := "17dae43bc6537ef3df69860306c769f4fa241307dcf6b595e7bc07450ab67531", func := "tartan/tartanlaw03.CsvAgain", spec := "csvAgain", inPlace := ["internal/abi.NoEscape", "internal/bytealg.MakeNoZero"], unfollowed := true, recurses := true, apart := false }
def CsvAgainSaid : Prop := csvAgainRow.holds Try.pinned (OpenSpec.ofChange csvAgainSpec)

/-- ITS FALSE NEIGHBOUR: 'it returns false'. Refute it at one input. -/
def csvAgainWrong : ChangeSpec := { name := "csvAgain", fn := fun _ => fun
  | [d1, d2, d3] => { results := [.lit (.bool false)], args := [d1, d2, d3] }
  | _ => none }
def CsvAgainWrongFalsely : Prop := csvAgainRow.holds Try.pinned (OpenSpec.ofChange csvAgainWrong)

/-- 'tartanlaw03.CsvFields': WHATEVER THE INPUT: true; the input reads as it did. -/
def csvFieldsSpec : ChangeSpec := { name := "csvFields", fn := fun _ => fun
  | [d1, d2] => { results := [.lit (.bool true)], args := [d1, d2] }
  | _ => none }
def csvFieldsRow : OpenClaim := { program := "ytggodagdfldndaa", sum := "17dae43bc6537ef3df69860306c769f4fa241307dcf6b595e7bc07450ab67531", func := "tartan/tartanlaw03.CsvFields", spec := "csvFields", inPlace := ["internal/abi.NoEscape", "internal/bytealg.MakeNoZero"], unfollowed := true, recurses := true, apart := false }
def CsvFieldsSaid : Prop := csvFieldsRow.holds Try.pinned (OpenSpec.ofChange csvFieldsSpec)

/-- ITS FALSE NEIGHBOUR: 'it returns false'. Refute it at one input. -/
def csvFieldsWrong : ChangeSpec := { name := "csvFields", fn := fun _ => fun
  | [d1, d2] => { results := [.lit (.bool false)], args := [d1, d2] }
  | _ => none }
def CsvFieldsWrongFalsely : Prop := csvFieldsRow.holds Try.pinned (OpenSpec.ofChange csvFieldsWrong)

/-- 'tartanlaw03.CsvApart': WHATEVER THE INPUT: true; the input reads as it did. -/
def csvApartSpec : ChangeSpec := { name := "csvApart", fn := fun _ => fun
  | [d1, d2, d3, d4] => { results := [.lit (.bool true)], args := [d1, d2, d3, d4] }
  | _ => none }
def csvApartRow : OpenClaim := { program := "ytggodagdfldndaa", sum := "17dae43bc6537ef3df69860306c769f4fa241307dcf6b595e7bc07450ab67531", func := "tartan/tartanlaw03.CsvApart", spec := "csvApart", inPlace := ["internal/abi.NoEscape", "internal/bytealg.MakeNoZero"], unfollowed := true, recurses := true, apart := false }
def CsvApartSaid : Prop := csvApartRow.holds Try.pinned (OpenSpec.ofChange csvApartSpec)

/-- ITS FALSE NEIGHBOUR: 'it returns false'. Refute it at one input. -/
def csvApartWrong : ChangeSpec := { name := "csvApart", fn := fun _ => fun
  | [d1, d2, d3, d4] => { results := [.lit (.bool false)], args := [d1, d2, d3, d4] }
  | _ => none }
def CsvApartWrongFalsely : Prop := csvApartRow.holds Try.pinned (OpenSpec.ofChange csvApartWrong)

/-- 'tartanlaw02.LexWrites': WHATEVER THE INPUT: true; the input reads as it did. -/
def lexWritesSpec : ChangeSpec := { name := "lexWrites", fn := fun _ => fun
  | [d1, d2, d3] => { results := [.lit (.bool true)], args := [d1, d2, d3] }
  | _ => none }
def lexWritesRow : OpenClaim := { program := "ytggodagdfldndaa", sum := "17dae43bc6537ef3df69860306c769f4fa241307dcf6b595e7bc07450ab67531", func := "tartan/tartanlaw02.LexWrites", spec := "lexWrites", inPlace := ["internal/abi.NoEscape", "internal/bytealg.MakeNoZero", "internal/bytealg.CountString", "internal/bytealg.IndexByteString", "internal/bytealg.IndexString"], unfollowed := true, recurses := true, named := ["internal/bytealg.MaxLen"], apart := false }
def LexWritesSaid : Prop := lexWritesRow.holds Try.pinned (OpenSpec.ofChange lexWritesSpec)

/-- ITS FALSE NEIGHBOUR: 'it returns false'. Refute it at one input. -/
def lexWritesWrong : ChangeSpec := { name := "lexWrites", fn := fun _ => fun
  | [d1, d2, d3] => { results := [.lit (.bool false)], args := [d1, d2, d3] }
  | _ => none }
def LexWritesWrongFalsely : Prop := lexWritesRow.holds Try.pinned (OpenSpec.ofChange lexWritesWrong)

/- THE SECOND FORM. 'bulk': how many values and letters a reading holds, each counted each time it is reached (what is shared counts as often as it is met; a slice's spare places count too). A statement '..UptoSaid' is the law's where the arguments, and the package variables that the reading takes, are together of bulk at most 1048576: NARROWER than '..Said'. Prove '..Said' where nothing that the law and all that it calls make is longer than what came in: it says more and counts as full. Else prove '..UptoSaid'. A law counts once. -/
mutual
def uptoBulk {H : Type} : DataW H → Nat
  | .lit (.string bytes) => bytes.length + 1
  | .lit _ => 1
  | .nil => 1
  | .ptr d => uptoBulk d + 1
  | .slice elems spare => uptoBulkAll elems + uptoBulkAll spare + 1
  | .agg parts => uptoBulkAll parts + 1
  | .iface _ d => uptoBulk d + 1
  | .map entries => uptoBulkEntries entries + 1
  | .held _ => 1
def uptoBulkAll {H : Type} : List (DataW H) → Nat
  | [] => 0
  | d :: r => uptoBulk d + uptoBulkAll r
def uptoBulkEntries {H : Type} : List (Lit × DataW H) → Nat
  | [] => 0
  | x :: r => uptoBulkEntry x + uptoBulkEntries r
def uptoBulkEntry {H : Type} : Lit × DataW H → Nat
  | (.string bytes, d) => bytes.length + uptoBulk d + 1
  | (_, d) => uptoBulk d + 1
 end
def uptoSmall : (H : Type) → List (DataW H) → Bool := fun _ ds => decide (uptoBulkAll ds ≤ 1048576)
def OpenSpec.upto (s : _root_.Go.ChangeSpec) : _root_.Go.OpenSpec := { _root_.Go.OpenSpec.ofChange s with cond := some uptoSmall }

/-- 'tartanlaw01.QuotePuts', WHERE WHAT IT READS IS OF BULK AT MOST 1048576: true; the input reads as it did. -/
def quotePutsUptoRow : OpenClaim := { program := "ytggodagdfldndaa", sum := "17dae43bc6537ef3df69860306c769f4fa241307dcf6b595e7bc07450ab67531", func := "tartan/tartanlaw01.QuotePuts", spec := "quotePuts", inPlace := ["internal/abi.NoEscape", "internal/bytealg.CountString", "internal/bytealg.IndexByteString", "internal/bytealg.IndexString"], unfollowed := true, recurses := true, named := ["internal/bytealg.MaxLen"], apart := false, narrowed := true }
def QuotePutsUptoSaid : Prop := quotePutsUptoRow.holds Try.pinned (OpenSpec.upto quotePutsSpec)

/-- 'tartanlaw01.QuoteGets', WHERE WHAT IT READS IS OF BULK AT MOST 1048576: true; the input reads as it did. -/
def quoteGetsUptoRow : OpenClaim := { program := "ytggodagdfldndaa", sum := "17dae43bc6537ef3df69860306c769f4fa241307dcf6b595e7bc07450ab67531", func := "tartan/tartanlaw01.QuoteGets", spec := "quoteGets", inPlace := ["internal/abi.NoEscape", "internal/bytealg.CountString", "internal/bytealg.IndexByteString", "internal/bytealg.IndexString"], unfollowed := true, recurses := true, named := ["internal/bytealg.MaxLen"], apart := false, narrowed := true }
def QuoteGetsUptoSaid : Prop := quoteGetsUptoRow.holds Try.pinned (OpenSpec.upto quoteGetsSpec)

/-- 'tartanlaw01.QuoteBack', WHERE WHAT IT READS IS OF BULK AT MOST 1048576: true; the input reads as it did. -/
def quoteBackUptoRow : OpenClaim := { program := "ytggodagdfldndaa", sum := "17dae43bc6537ef3df69860306c769f4fa241307dcf6b595e7bc07450ab67531", func := "tartan/tartanlaw01.QuoteBack", spec := "quoteBack", inPlace := ["internal/abi.NoEscape", "internal/bytealg.CountString", "internal/bytealg.IndexByteString", "internal/bytealg.IndexString"], unfollowed := true, recurses := true, named := ["internal/bytealg.MaxLen"], apart := false, narrowed := true }
def QuoteBackUptoSaid : Prop := quoteBackUptoRow.holds Try.pinned (OpenSpec.upto quoteBackSpec)

/-- 'tartanlaw01.QuoteOnly', WHERE WHAT IT READS IS OF BULK AT MOST 1048576: true; the input reads as it did. -/
def quoteOnlyUptoRow : OpenClaim := { program := "ytggodagdfldndaa", sum := "17dae43bc6537ef3df69860306c769f4fa241307dcf6b595e7bc07450ab67531", func := "tartan/tartanlaw01.QuoteOnly", spec := "quoteOnly", inPlace := ["internal/abi.NoEscape", "internal/bytealg.CountString", "internal/bytealg.IndexByteString", "internal/bytealg.IndexString"], unfollowed := true, recurses := true, named := ["internal/bytealg.MaxLen"], apart := false, narrowed := true }
def QuoteOnlyUptoSaid : Prop := quoteOnlyUptoRow.holds Try.pinned (OpenSpec.upto quoteOnlySpec)

/-- 'tartanlaw01.QuoteApart', WHERE WHAT IT READS IS OF BULK AT MOST 1048576: true; the input reads as it did. -/
def quoteApartUptoRow : OpenClaim := { program := "ytggodagdfldndaa", sum := "17dae43bc6537ef3df69860306c769f4fa241307dcf6b595e7bc07450ab67531", func := "tartan/tartanlaw01.QuoteApart", spec := "quoteApart", inPlace := ["internal/abi.NoEscape", "internal/bytealg.CountString", "internal/bytealg.IndexByteString", "internal/bytealg.IndexString"], unfollowed := true, recurses := true, named := ["internal/bytealg.MaxLen"], apart := false, narrowed := true }
def QuoteApartUptoSaid : Prop := quoteApartUptoRow.holds Try.pinned (OpenSpec.upto quoteApartSpec)

/-- 'tartanlaw01.QuoteSizes', WHERE WHAT IT READS IS OF BULK AT MOST 1048576: true; the input reads as it did. -/
def quoteSizesUptoRow : OpenClaim := { program := "ytggodagdfldndaa", sum := "17dae43bc6537ef3df69860306c769f4fa241307dcf6b595e7bc07450ab67531", func := "tartan/tartanlaw01.QuoteSizes", spec := "quoteSizes", inPlace := ["internal/abi.NoEscape", "internal/bytealg.CountString", "internal/bytealg.IndexByteString", "internal/bytealg.IndexString"], unfollowed := true, recurses := true, named := ["internal/bytealg.MaxLen"], apart := false, narrowed := true }
def QuoteSizesUptoSaid : Prop := quoteSizesUptoRow.holds Try.pinned (OpenSpec.upto quoteSizesSpec)

/-- 'tartanlaw02.LexFields', WHERE WHAT IT READS IS OF BULK AT MOST 1048576: true; the input reads as it did. -/
def lexFieldsUptoRow : OpenClaim := { program := "ytggodagdfldndaa", sum := "17dae43bc6537ef3df69860306c769f4fa241307dcf6b595e7bc07450ab67531", func := "tartan/tartanlaw02.LexFields", spec := "lexFields", inPlace := ["internal/abi.NoEscape", "internal/bytealg.MakeNoZero"], unfollowed := true, recurses := true, apart := false, narrowed := true }
def LexFieldsUptoSaid : Prop := lexFieldsUptoRow.holds Try.pinned (OpenSpec.upto lexFieldsSpec)

/-- 'tartanlaw02.LexBack', WHERE WHAT IT READS IS OF BULK AT MOST 1048576: true; the input reads as it did. -/
def lexBackUptoRow : OpenClaim := { program := "ytggodagdfldndaa", sum := "17dae43bc6537ef3df69860306c769f4fa241307dcf6b595e7bc07450ab67531", func := "tartan/tartanlaw02.LexBack", spec := "lexBack", inPlace := ["internal/abi.NoEscape", "internal/bytealg.MakeNoZero"], unfollowed := true, recurses := true, apart := false, narrowed := true }
def LexBackUptoSaid : Prop := lexBackUptoRow.holds Try.pinned (OpenSpec.upto lexBackSpec)

/-- 'tartanlaw02.LexEnds', WHERE WHAT IT READS IS OF BULK AT MOST 1048576: true; the input reads as it did. -/
def lexEndsUptoRow : OpenClaim := { program := "ytggodagdfldndaa", sum := "17dae43bc6537ef3df69860306c769f4fa241307dcf6b595e7bc07450ab67531", func := "tartan/tartanlaw02.LexEnds", spec := "lexEnds", inPlace := ["internal/abi.NoEscape", "internal/bytealg.MakeNoZero"], unfollowed := true, recurses := true, apart := false, narrowed := true }
def LexEndsUptoSaid : Prop := lexEndsUptoRow.holds Try.pinned (OpenSpec.upto lexEndsSpec)

/-- 'tartanlaw03.CsvParses', WHERE WHAT IT READS IS OF BULK AT MOST 1048576: true; the input reads as it did. -/
def csvParsesUptoRow : OpenClaim := { program := "ytggodagdfldndaa", sum := "17dae43bc6537ef3df69860306c769f4fa241307dcf6b595e7bc07450ab67531", func := "tartan/tartanlaw03.CsvParses", spec := "csvParses", inPlace := ["internal/abi.NoEscape", "internal/bytealg.MakeNoZero"], unfollowed := true, recurses := true, apart := false, narrowed := true }
def CsvParsesUptoSaid : Prop := csvParsesUptoRow.holds Try.pinned (OpenSpec.upto csvParsesSpec)

/-- 'tartanlaw03.CsvPrints', WHERE WHAT IT READS IS OF BULK AT MOST 1048576: true; the input reads as it did. -/
def csvPrintsUptoRow : OpenClaim := { program := "ytggodagdfldndaa", sum := "17dae43bc6537ef3df69860306c769f4fa241307dcf6b595e7bc07450ab67531", func := "tartan/tartanlaw03.CsvPrints", spec := "csvPrints", inPlace := ["internal/abi.NoEscape", "internal/bytealg.MakeNoZero"], unfollowed := true, recurses := true, apart := false, narrowed := true }
def CsvPrintsUptoSaid : Prop := csvPrintsUptoRow.holds Try.pinned (OpenSpec.upto csvPrintsSpec)

/-- 'tartanlaw03.CsvBack', WHERE WHAT IT READS IS OF BULK AT MOST 1048576: true; the input reads as it did. -/
def csvBackUptoRow : OpenClaim := { program := "ytggodagdfldndaa", sum := "17dae43bc6537ef3df69860306c769f4fa241307dcf6b595e7bc07450ab67531", func := "tartan/tartanlaw03.CsvBack", spec := "csvBack", inPlace := ["internal/abi.NoEscape", "internal/bytealg.MakeNoZero"], unfollowed := true, recurses := true, apart := false, narrowed := true }
def CsvBackUptoSaid : Prop := csvBackUptoRow.holds Try.pinned (OpenSpec.upto csvBackSpec)

/-- 'tartanlaw03.CsvBreaks', WHERE WHAT IT READS IS OF BULK AT MOST 1048576: true; the input reads as it did. -/
def csvBreaksUptoRow : OpenClaim := { program := "ytggodagdfldndaa", sum := "17dae43bc6537ef3df69860306c769f4fa241307dcf6b595e7bc07450ab67531", func := "tartan/tartanlaw03.CsvBreaks", spec := "csvBreaks", inPlace := ["internal/abi.NoEscape", "internal/bytealg.MakeNoZero"], unfollowed := true, recurses := true, apart := false, narrowed := true }
def CsvBreaksUptoSaid : Prop := csvBreaksUptoRow.holds Try.pinned (OpenSpec.upto csvBreaksSpec)

/-- 'tartanlaw03.CsvJoins', WHERE WHAT IT READS IS OF BULK AT MOST 1048576: true; the input reads as it did. -/
def csvJoinsUptoRow : OpenClaim := { program := "ytggodagdfldndaa", sum := "17dae43bc6537ef3df69860306c769f4fa241307dcf6b595e7bc07450ab67531", func := "tartan/tartanlaw03.CsvJoins", spec := "csvJoins", inPlace := ["internal/abi.NoEscape", "internal/bytealg.MakeNoZero"], unfollowed := true, recurses := true, apart := false, narrowed := true }
def CsvJoinsUptoSaid : Prop := csvJoinsUptoRow.holds Try.pinned (OpenSpec.upto csvJoinsSpec)

/-- 'tartanlaw03.CsvAgain', WHERE WHAT IT READS IS OF BULK AT MOST 1048576: true; the input reads as it did. -/
def csvAgainUptoRow : OpenClaim := { program := "ytggodagdfldndaa", sum := "17dae43bc6537ef3df69860306c769f4fa241307dcf6b595e7bc07450ab67531", func := "tartan/tartanlaw03.CsvAgain", spec := "csvAgain", inPlace := ["internal/abi.NoEscape", "internal/bytealg.MakeNoZero"], unfollowed := true, recurses := true, apart := false, narrowed := true }
def CsvAgainUptoSaid : Prop := csvAgainUptoRow.holds Try.pinned (OpenSpec.upto csvAgainSpec)

/-- 'tartanlaw03.CsvFields', WHERE WHAT IT READS IS OF BULK AT MOST 1048576: true; the input reads as it did. -/
def csvFieldsUptoRow : OpenClaim := { program := "ytggodagdfldndaa", sum := "17dae43bc6537ef3df69860306c769f4fa241307dcf6b595e7bc07450ab67531", func := "tartan/tartanlaw03.CsvFields", spec := "csvFields", inPlace := ["internal/abi.NoEscape", "internal/bytealg.MakeNoZero"], unfollowed := true, recurses := true, apart := false, narrowed := true }
def CsvFieldsUptoSaid : Prop := csvFieldsUptoRow.holds Try.pinned (OpenSpec.upto csvFieldsSpec)

/-- 'tartanlaw03.CsvApart', WHERE WHAT IT READS IS OF BULK AT MOST 1048576: true; the input reads as it did. -/
def csvApartUptoRow : OpenClaim := { program := "ytggodagdfldndaa", sum := "17dae43bc6537ef3df69860306c769f4fa241307dcf6b595e7bc07450ab67531", func := "tartan/tartanlaw03.CsvApart", spec := "csvApart", inPlace := ["internal/abi.NoEscape", "internal/bytealg.MakeNoZero"], unfollowed := true, recurses := true, apart := false, narrowed := true }
def CsvApartUptoSaid : Prop := csvApartUptoRow.holds Try.pinned (OpenSpec.upto csvApartSpec)

/-- 'tartanlaw02.LexWrites', WHERE WHAT IT READS IS OF BULK AT MOST 1048576: true; the input reads as it did. -/
def lexWritesUptoRow : OpenClaim := { program := "ytggodagdfldndaa", sum := "17dae43bc6537ef3df69860306c769f4fa241307dcf6b595e7bc07450ab67531", func := "tartan/tartanlaw02.LexWrites", spec := "lexWrites", inPlace := ["internal/abi.NoEscape", "internal/bytealg.MakeNoZero", "internal/bytealg.CountString", "internal/bytealg.IndexByteString", "internal/bytealg.IndexString"], unfollowed := true, recurses := true, named := ["internal/bytealg.MaxLen"], apart := false, narrowed := true }
def LexWritesUptoSaid : Prop := lexWritesUptoRow.holds Try.pinned (OpenSpec.upto lexWritesSpec)

end Rows
end Go.Proofs.Ytggodagdfldndaa
