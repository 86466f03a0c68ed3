/-
  NARROWER THAN 'FOR EVERY INPUT', by the rows' own cells (each row's printed sentence says how): ArrowTells: laid · ArrowBack: laid · ArrowShort: laid · ArrowSplits: laid.
  DERIVED. THE GIVEN ROWS OF THIS SEAT. 4 by the template 'for every input the law returns true; each argument reads behind the call as it read before'; 0 by the template 'total and deterministic' (their statements: YtggodagdfldndaaDoorTotals.lean).
  GIVEN WITH THE SEED: the statements are not yours to turn. If you find one false, say at which input.
  Laid BY PROGRAM, IN A SANDBOX (cutbox-rows.mjs): the forced cells as the released guide's own fill.sh prints them over the translation 7c886d3a67d2870a… (all of the seat's roots in one cut). By AI agents, Wed Nov 11 2026. No macro, syntax, notation, axiom, sorry.
-/
import Derived.Test.YtggodagdfldndaaDoorChecked
import GoSem.PinnedTables
import GoSem.Claim
import GoSem.ClaimJoined
import GoSem.ClaimMapViews
import Derived.JoinedTies
import Derived.KernelRfl
namespace Go.Proofs.YtggodagdfldndaaDoor
/- THE CELL 'sum', in the pinned program and in every row, IS THE sha256 OF THE DUMP (.gsa) THAT YtggodagdfldndaaDoorProg.lean LOADS. Nothing in Lean hashes anything: it is a label: what it is worth is what the hold of that sum in a sandbox is worth. -/
noncomputable def Tryd.pinned : Pinned := { name := "ytggodagdfldndaadoor", sum := "7c886d3a67d2870a7acf80cbd246cc7ff1573d4c0d61d33f04f30c1da8cbe0a7", checked := Tryd.checked }
namespace Rows
def none {H : Type} : Left H := { results := [], args := [] }

/- WHAT THE LISTED PACKAGE-LEVEL VARIABLES READ AS WHEN THE CALL BEGINS. Each datum BY PROGRAM (the guide's laid-datum.mjs) off the statement by which the dump's own 'gosem.cut.vars' lays the variable. In a bare row this is a premise. The card (YtggodagdfldndaaDoorCards.lean) ties it to the program's text. -/
def laid_unicode_utf8_acceptRanges {H : Type} : DataW H := .agg [.agg [.lit (.int .u8 128), .lit (.int .u8 191)], .agg [.lit (.int .u8 160), .lit (.int .u8 191)], .agg [.lit (.int .u8 128), .lit (.int .u8 159)], .agg [.lit (.int .u8 144), .lit (.int .u8 191)], .agg [.lit (.int .u8 128), .lit (.int .u8 143)], .agg [.lit (.int .u8 0), .lit (.int .u8 0)], .agg [.lit (.int .u8 0), .lit (.int .u8 0)], .agg [.lit (.int .u8 0), .lit (.int .u8 0)], .agg [.lit (.int .u8 0), .lit (.int .u8 0)], .agg [.lit (.int .u8 0), .lit (.int .u8 0)], .agg [.lit (.int .u8 0), .lit (.int .u8 0)], .agg [.lit (.int .u8 0), .lit (.int .u8 0)], .agg [.lit (.int .u8 0), .lit (.int .u8 0)], .agg [.lit (.int .u8 0), .lit (.int .u8 0)], .agg [.lit (.int .u8 0), .lit (.int .u8 0)], .agg [.lit (.int .u8 0), .lit (.int .u8 0)]]
/-- One of Go's own tables, pinned by name: the form's constant. -/
def laid_unicode_utf8_first : DataW Unit := Go.Pinned.utf8First

/-- 'tartanlaw18.ArrowTells': WHATEVER THE INPUT: true; the input reads as it did. -/
def arrowTellsSpec : ChangeSpec := { name := "arrowTells", fn := fun _ => fun
  | [d1, d2, d3] => { results := [.lit (.bool true)], args := [d1, d2, d3] }
  | _ => none }
def arrowTellsRow : OpenClaim := { program := "ytggodagdfldndaadoor", sum := "7c886d3a67d2870a7acf80cbd246cc7ff1573d4c0d61d33f04f30c1da8cbe0a7", func := "tartan/tartanlaw18.ArrowTells", spec := "arrowTells", inPlace := ["internal/bytealg.IndexByteString", "internal/bytealg.IndexString"], unfollowed := true, recurses := true, named := ["unicode/utf8.first", "unicode/utf8.acceptRanges", "internal/bytealg.MaxLen"], apart := false, laid := [("unicode/utf8.acceptRanges", laid_unicode_utf8_acceptRanges), ("unicode/utf8.first", laid_unicode_utf8_first)] }
def ArrowTellsSaid : Prop := arrowTellsRow.holds Tryd.pinned (OpenSpec.ofChange arrowTellsSpec)

/-- ITS FALSE NEIGHBOUR: 'it returns false'. Refute it at one input. -/
def arrowTellsWrong : ChangeSpec := { name := "arrowTells", fn := fun _ => fun
  | [d1, d2, d3] => { results := [.lit (.bool false)], args := [d1, d2, d3] }
  | _ => none }
def ArrowTellsWrongFalsely : Prop := arrowTellsRow.holds Tryd.pinned (OpenSpec.ofChange arrowTellsWrong)

/-- 'tartanlaw18.ArrowBack': WHATEVER THE INPUT: true; the input reads as it did. -/
def arrowBackSpec : ChangeSpec := { name := "arrowBack", fn := fun _ => fun
  | [d1, d2, d3] => { results := [.lit (.bool true)], args := [d1, d2, d3] }
  | _ => none }
def arrowBackRow : OpenClaim := { program := "ytggodagdfldndaadoor", sum := "7c886d3a67d2870a7acf80cbd246cc7ff1573d4c0d61d33f04f30c1da8cbe0a7", func := "tartan/tartanlaw18.ArrowBack", spec := "arrowBack", inPlace := ["internal/bytealg.IndexByteString", "internal/bytealg.IndexString"], unfollowed := true, recurses := true, named := ["unicode/utf8.first", "unicode/utf8.acceptRanges", "internal/bytealg.MaxLen"], apart := false, laid := [("unicode/utf8.acceptRanges", laid_unicode_utf8_acceptRanges), ("unicode/utf8.first", laid_unicode_utf8_first)] }
def ArrowBackSaid : Prop := arrowBackRow.holds Tryd.pinned (OpenSpec.ofChange arrowBackSpec)

/-- ITS FALSE NEIGHBOUR: 'it returns false'. Refute it at one input. -/
def arrowBackWrong : ChangeSpec := { name := "arrowBack", fn := fun _ => fun
  | [d1, d2, d3] => { results := [.lit (.bool false)], args := [d1, d2, d3] }
  | _ => none }
def ArrowBackWrongFalsely : Prop := arrowBackRow.holds Tryd.pinned (OpenSpec.ofChange arrowBackWrong)

/-- 'tartanlaw18.ArrowShort': WHATEVER THE INPUT: true; the input reads as it did. -/
def arrowShortSpec : ChangeSpec := { name := "arrowShort", fn := fun _ => fun
  | [d1, d2] => { results := [.lit (.bool true)], args := [d1, d2] }
  | _ => none }
def arrowShortRow : OpenClaim := { program := "ytggodagdfldndaadoor", sum := "7c886d3a67d2870a7acf80cbd246cc7ff1573d4c0d61d33f04f30c1da8cbe0a7", func := "tartan/tartanlaw18.ArrowShort", spec := "arrowShort", inPlace := ["internal/bytealg.IndexByteString", "internal/bytealg.IndexString"], unfollowed := true, recurses := true, named := ["unicode/utf8.first", "unicode/utf8.acceptRanges", "internal/bytealg.MaxLen"], apart := false, laid := [("unicode/utf8.acceptRanges", laid_unicode_utf8_acceptRanges), ("unicode/utf8.first", laid_unicode_utf8_first)] }
def ArrowShortSaid : Prop := arrowShortRow.holds Tryd.pinned (OpenSpec.ofChange arrowShortSpec)

/-- ITS FALSE NEIGHBOUR: 'it returns false'. Refute it at one input. -/
def arrowShortWrong : ChangeSpec := { name := "arrowShort", fn := fun _ => fun
  | [d1, d2] => { results := [.lit (.bool false)], args := [d1, d2] }
  | _ => none }
def ArrowShortWrongFalsely : Prop := arrowShortRow.holds Tryd.pinned (OpenSpec.ofChange arrowShortWrong)

/-- 'tartanlaw18.ArrowSplits': WHATEVER THE INPUT: true; the input reads as it did. -/
def arrowSplitsSpec : ChangeSpec := { name := "arrowSplits", fn := fun _ => fun
  | [d1, d2] => { results := [.lit (.bool true)], args := [d1, d2] }
  | _ => none }
def arrowSplitsRow : OpenClaim := { program := "ytggodagdfldndaadoor", sum := "7c886d3a67d2870a7acf80cbd246cc7ff1573d4c0d61d33f04f30c1da8cbe0a7", func := "tartan/tartanlaw18.ArrowSplits", spec := "arrowSplits", inPlace := ["internal/bytealg.IndexByteString", "internal/bytealg.IndexString"], unfollowed := true, recurses := true, named := ["unicode/utf8.first", "unicode/utf8.acceptRanges", "internal/bytealg.MaxLen"], apart := false, laid := [("unicode/utf8.acceptRanges", laid_unicode_utf8_acceptRanges), ("unicode/utf8.first", laid_unicode_utf8_first)] }
def ArrowSplitsSaid : Prop := arrowSplitsRow.holds Tryd.pinned (OpenSpec.ofChange arrowSplitsSpec)

/-- ITS FALSE NEIGHBOUR: 'it returns false'. Refute it at one input. -/
def arrowSplitsWrong : ChangeSpec := { name := "arrowSplits", fn := fun _ => fun
  | [d1, d2] => { results := [.lit (.bool false)], args := [d1, d2] }
  | _ => none }
def ArrowSplitsWrongFalsely : Prop := arrowSplitsRow.holds Tryd.pinned (OpenSpec.ofChange arrowSplitsWrong)

/- THE SECOND FORM. 'bulk': how many values and letters a reading holds, each counted each time it is reached (what is shared counts as often as it is met; a slice's spare places count too). A statement '..UptoSaid' is the law's where the arguments, and the package variables that the reading takes, are together of bulk at most 1048576: NARROWER than '..Said'. Prove '..Said' where nothing that the law and all that it calls make is longer than what came in: it says more and counts as full. Else prove '..UptoSaid'. A law counts once. -/
mutual
def uptoBulk {H : Type} : DataW H → Nat
  | .lit (.string bytes) => bytes.length + 1
  | .lit _ => 1
  | .nil => 1
  | .ptr d => uptoBulk d + 1
  | .slice elems spare => uptoBulkAll elems + uptoBulkAll spare + 1
  | .agg parts => uptoBulkAll parts + 1
  | .iface _ d => uptoBulk d + 1
  | .map entries => uptoBulkEntries entries + 1
  | .held _ => 1
def uptoBulkAll {H : Type} : List (DataW H) → Nat
  | [] => 0
  | d :: r => uptoBulk d + uptoBulkAll r
def uptoBulkEntries {H : Type} : List (Lit × DataW H) → Nat
  | [] => 0
  | x :: r => uptoBulkEntry x + uptoBulkEntries r
def uptoBulkEntry {H : Type} : Lit × DataW H → Nat
  | (.string bytes, d) => bytes.length + uptoBulk d + 1
  | (_, d) => uptoBulk d + 1
 end
def uptoSmall : (H : Type) → List (DataW H) → Bool := fun _ ds => decide (uptoBulkAll ds ≤ 1048576)
def OpenSpec.upto (s : _root_.Go.ChangeSpec) : _root_.Go.OpenSpec := { _root_.Go.OpenSpec.ofChange s with cond := some uptoSmall }

/-- 'tartanlaw18.ArrowTells', WHERE WHAT IT READS IS OF BULK AT MOST 1048576: true; the input reads as it did. -/
def arrowTellsUptoRow : OpenClaim := { program := "ytggodagdfldndaadoor", sum := "7c886d3a67d2870a7acf80cbd246cc7ff1573d4c0d61d33f04f30c1da8cbe0a7", func := "tartan/tartanlaw18.ArrowTells", spec := "arrowTells", inPlace := ["internal/bytealg.IndexByteString", "internal/bytealg.IndexString"], unfollowed := true, recurses := true, named := ["unicode/utf8.first", "unicode/utf8.acceptRanges", "internal/bytealg.MaxLen"], apart := false, laid := [("unicode/utf8.acceptRanges", laid_unicode_utf8_acceptRanges), ("unicode/utf8.first", laid_unicode_utf8_first)], narrowed := true }
def ArrowTellsUptoSaid : Prop := arrowTellsUptoRow.holds Tryd.pinned (OpenSpec.upto arrowTellsSpec)

/-- 'tartanlaw18.ArrowBack', WHERE WHAT IT READS IS OF BULK AT MOST 1048576: true; the input reads as it did. -/
def arrowBackUptoRow : OpenClaim := { program := "ytggodagdfldndaadoor", sum := "7c886d3a67d2870a7acf80cbd246cc7ff1573d4c0d61d33f04f30c1da8cbe0a7", func := "tartan/tartanlaw18.ArrowBack", spec := "arrowBack", inPlace := ["internal/bytealg.IndexByteString", "internal/bytealg.IndexString"], unfollowed := true, recurses := true, named := ["unicode/utf8.first", "unicode/utf8.acceptRanges", "internal/bytealg.MaxLen"], apart := false, laid := [("unicode/utf8.acceptRanges", laid_unicode_utf8_acceptRanges), ("unicode/utf8.first", laid_unicode_utf8_first)], narrowed := true }
def ArrowBackUptoSaid : Prop := arrowBackUptoRow.holds Tryd.pinned (OpenSpec.upto arrowBackSpec)

/-- 'tartanlaw18.ArrowShort', WHERE WHAT IT READS IS OF BULK AT MOST 1048576: true; the input reads as it did. -/
def arrowShortUptoRow : OpenClaim := { program := "ytggodagdfldndaadoor", sum := "7c886d3a67d2870a7acf80cbd246cc7ff1573d4c0d61d33f04f30c1da8cbe0a7", func := "tartan/tartanlaw18.ArrowShort", spec := "arrowShort", inPlace := ["internal/bytealg.IndexByteString", "internal/bytealg.IndexString"], unfollowed := true, recurses := true, named := ["unicode/utf8.first", "unicode/utf8.acceptRanges", "internal/bytealg.MaxLen"], apart := false, laid := [("unicode/utf8.acceptRanges", laid_unicode_utf8_acceptRanges), ("unicode/utf8.first", laid_unicode_utf8_first)], narrowed := true }
def ArrowShortUptoSaid : Prop := arrowShortUptoRow.holds Tryd.pinned (OpenSpec.upto arrowShortSpec)

/-- 'tartanlaw18.ArrowSplits', WHERE WHAT IT READS IS OF BULK AT MOST 1048576: true; the input reads as it did. -/
def arrowSplitsUptoRow : OpenClaim := { program := "ytggodagdfldndaadoor", sum := "7c886d3a67d2870a7acf80cbd246cc7ff1573d4c0d61d33f04f30c1da8cbe0a7", func := "tartan/tartanlaw18.ArrowSplits", spec := "arrowSplits", inPlace := ["internal/bytealg.IndexByteString", "internal/bytealg.IndexString"], unfollowed := true, recurses := true, named := ["unicode/utf8.first", "unicode/utf8.acceptRanges", "internal/bytealg.MaxLen"], apart := false, laid := [("unicode/utf8.acceptRanges", laid_unicode_utf8_acceptRanges), ("unicode/utf8.first", laid_unicode_utf8_first)], narrowed := true }
def ArrowSplitsUptoSaid : Prop := arrowSplitsUptoRow.holds Tryd.pinned (OpenSpec.upto arrowSplitsSpec)

end Rows
end Go.Proofs.YtggodagdfldndaaDoor
