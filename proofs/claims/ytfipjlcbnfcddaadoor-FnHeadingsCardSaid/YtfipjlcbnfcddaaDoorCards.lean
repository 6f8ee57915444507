/-
  DERIVED. GIVEN WITH THE SEED: THE CARDS: each row of YtfipjlcbnfcddaaDoorRows.lean that lists a variable, with what it lists TIED to the program's text (the seventh form; the later family's looks); each row that meets fmt, with fmt's text TOLD by the authors' own Lean function (tested against real Go, not proved from fmt's source: count such statements apart). THE CARD IS WHAT COUNTS. Prove the row's statement (the work); the ties are given (YtfipjlcbnfcddaaDoorTie.lean); close each card by the builder's one call (the guide's Derived/Test/ToyasCard.lean, 'card_holds'). Laid BY PROGRAM, IN A SANDBOX (cutbox-door.mjs). By AI agents, Wed Nov 11 2026. No macro, syntax, notation, axiom, sorry.
-/
import Derived.Test.YtfipjlcbnfcddaaDoorRows
import GoSem.ClaimSeven
namespace Go.Proofs.YtfipjlcbnfcddaaDoor
namespace Rows

/-- THE TIED CARD OF 'laws.FnExactReadHeading'. -/
def fnExactReadHeadingCard : Claim7 := { stood := { row := fnExactReadHeadingRow, standIns := [], harness := (true, "6eebca7860bf1f61950f58310c180a842ec3ea26d132daf8508f43fc07f901d3"), looks := true }, kinds := [], alts := [], laidByText := true, laidKinds := [.data, .data, .data, .data, .sentinel, .sentinel, .pinned], laidTests := true, laidLooks := .later }
def FnExactReadHeadingCardSaid : Prop := Claim7.holds Tryd.pinned (.plain (OpenSpec.ofChange fnExactReadHeadingSpec)) fnExactReadHeadingCard

/-- THE TIED CARD OF 'laws.FnHeadings'. -/
def fnHeadingsCard : Claim7 := { stood := { row := fnHeadingsRow, standIns := [], harness := (true, "6eebca7860bf1f61950f58310c180a842ec3ea26d132daf8508f43fc07f901d3"), looks := true }, kinds := [], alts := [], laidByText := true, laidKinds := [.data, .data, .data, .data, .sentinel, .sentinel, .pinned], laidTests := true, laidLooks := .later }
def FnHeadingsCardSaid : Prop := Claim7.holds Tryd.pinned (.plain (OpenSpec.ofChange fnHeadingsSpec)) fnHeadingsCard

/-- THE SECOND FORM's CARD OF 'laws.FnExactReadHeading'. -/
def fnExactReadHeadingUptoCard : Claim7 := { stood := { row := fnExactReadHeadingUptoRow, standIns := [], harness := (true, "6eebca7860bf1f61950f58310c180a842ec3ea26d132daf8508f43fc07f901d3"), looks := true }, kinds := [], alts := [], laidByText := true, laidKinds := [.data, .data, .data, .data, .sentinel, .sentinel, .pinned], laidTests := true, laidLooks := .later }
def FnExactReadHeadingUptoCardSaid : Prop := Claim7.holds Tryd.pinned (.plain (OpenSpec.upto fnExactReadHeadingSpec)) fnExactReadHeadingUptoCard

/-- THE SECOND FORM's CARD OF 'laws.FnHeadings'. -/
def fnHeadingsUptoCard : Claim7 := { stood := { row := fnHeadingsUptoRow, standIns := [], harness := (true, "6eebca7860bf1f61950f58310c180a842ec3ea26d132daf8508f43fc07f901d3"), looks := true }, kinds := [], alts := [], laidByText := true, laidKinds := [.data, .data, .data, .data, .sentinel, .sentinel, .pinned], laidTests := true, laidLooks := .later }
def FnHeadingsUptoCardSaid : Prop := Claim7.holds Tryd.pinned (.plain (OpenSpec.upto fnHeadingsSpec)) fnHeadingsUptoCard
end Rows
end Go.Proofs.YtfipjlcbnfcddaaDoor
