/-
  DERIVED. GIVEN WITH THE SEED: THE CARDS: each row of YtggodagdfldndaaDoorRows.lean that lists a variable, with what it lists TIED to the program's text (the seventh form; the later family's looks); each row that meets fmt, with fmt's text TOLD by the authors' own Lean function (tested against real Go, not proved from fmt's source: count such statements apart). THE CARD IS WHAT COUNTS. Prove the row's statement (the work); the ties are given (YtggodagdfldndaaDoorTie.lean); close each card by the builder's one call (the guide's Derived/Test/ToyasCard.lean, 'card_holds'). Laid BY PROGRAM, IN A SANDBOX (cutbox-door.mjs). By AI agents, Wed Nov 11 2026. No macro, syntax, notation, axiom, sorry.
-/
import Derived.Test.YtggodagdfldndaaDoorRows
import GoSem.ClaimSeven
namespace Go.Proofs.YtggodagdfldndaaDoor
namespace Rows

/-- THE TIED CARD OF 'tartanlaw18.ArrowTells'. -/
def arrowTellsCard : Claim7 := { stood := { row := arrowTellsRow, standIns := [], harness := (true, "1d058ca9f362decf784cb941f2a2077b8382054916c50e29ec4cb22b294f23c7"), looks := false }, kinds := [], alts := [], laidByText := true, laidKinds := [.data, .pinned], laidTests := true, laidLooks := .later }
def ArrowTellsCardSaid : Prop := Claim7.holds Tryd.pinned (.plain (OpenSpec.ofChange arrowTellsSpec)) arrowTellsCard

/-- THE TIED CARD OF 'tartanlaw18.ArrowBack'. -/
def arrowBackCard : Claim7 := { stood := { row := arrowBackRow, standIns := [], harness := (true, "1d058ca9f362decf784cb941f2a2077b8382054916c50e29ec4cb22b294f23c7"), looks := false }, kinds := [], alts := [], laidByText := true, laidKinds := [.data, .pinned], laidTests := true, laidLooks := .later }
def ArrowBackCardSaid : Prop := Claim7.holds Tryd.pinned (.plain (OpenSpec.ofChange arrowBackSpec)) arrowBackCard

/-- THE TIED CARD OF 'tartanlaw18.ArrowShort'. -/
def arrowShortCard : Claim7 := { stood := { row := arrowShortRow, standIns := [], harness := (true, "1d058ca9f362decf784cb941f2a2077b8382054916c50e29ec4cb22b294f23c7"), looks := false }, kinds := [], alts := [], laidByText := true, laidKinds := [.data, .pinned], laidTests := true, laidLooks := .later }
def ArrowShortCardSaid : Prop := Claim7.holds Tryd.pinned (.plain (OpenSpec.ofChange arrowShortSpec)) arrowShortCard

/-- THE TIED CARD OF 'tartanlaw18.ArrowSplits'. -/
def arrowSplitsCard : Claim7 := { stood := { row := arrowSplitsRow, standIns := [], harness := (true, "1d058ca9f362decf784cb941f2a2077b8382054916c50e29ec4cb22b294f23c7"), looks := false }, kinds := [], alts := [], laidByText := true, laidKinds := [.data, .pinned], laidTests := true, laidLooks := .later }
def ArrowSplitsCardSaid : Prop := Claim7.holds Tryd.pinned (.plain (OpenSpec.ofChange arrowSplitsSpec)) arrowSplitsCard

/-- THE SECOND FORM's CARD OF 'tartanlaw18.ArrowTells'. -/
def arrowTellsUptoCard : Claim7 := { stood := { row := arrowTellsUptoRow, standIns := [], harness := (true, "1d058ca9f362decf784cb941f2a2077b8382054916c50e29ec4cb22b294f23c7"), looks := false }, kinds := [], alts := [], laidByText := true, laidKinds := [.data, .pinned], laidTests := true, laidLooks := .later }
def ArrowTellsUptoCardSaid : Prop := Claim7.holds Tryd.pinned (.plain (OpenSpec.upto arrowTellsSpec)) arrowTellsUptoCard

/-- THE SECOND FORM's CARD OF 'tartanlaw18.ArrowBack'. -/
def arrowBackUptoCard : Claim7 := { stood := { row := arrowBackUptoRow, standIns := [], harness := (true, "1d058ca9f362decf784cb941f2a2077b8382054916c50e29ec4cb22b294f23c7"), looks := false }, kinds := [], alts := [], laidByText := true, laidKinds := [.data, .pinned], laidTests := true, laidLooks := .later }
def ArrowBackUptoCardSaid : Prop := Claim7.holds Tryd.pinned (.plain (OpenSpec.upto arrowBackSpec)) arrowBackUptoCard

/-- THE SECOND FORM's CARD OF 'tartanlaw18.ArrowShort'. -/
def arrowShortUptoCard : Claim7 := { stood := { row := arrowShortUptoRow, standIns := [], harness := (true, "1d058ca9f362decf784cb941f2a2077b8382054916c50e29ec4cb22b294f23c7"), looks := false }, kinds := [], alts := [], laidByText := true, laidKinds := [.data, .pinned], laidTests := true, laidLooks := .later }
def ArrowShortUptoCardSaid : Prop := Claim7.holds Tryd.pinned (.plain (OpenSpec.upto arrowShortSpec)) arrowShortUptoCard

/-- THE SECOND FORM's CARD OF 'tartanlaw18.ArrowSplits'. -/
def arrowSplitsUptoCard : Claim7 := { stood := { row := arrowSplitsUptoRow, standIns := [], harness := (true, "1d058ca9f362decf784cb941f2a2077b8382054916c50e29ec4cb22b294f23c7"), looks := false }, kinds := [], alts := [], laidByText := true, laidKinds := [.data, .pinned], laidTests := true, laidLooks := .later }
def ArrowSplitsUptoCardSaid : Prop := Claim7.holds Tryd.pinned (.plain (OpenSpec.upto arrowSplitsSpec)) arrowSplitsUptoCard
end Rows
end Go.Proofs.YtggodagdfldndaaDoor
