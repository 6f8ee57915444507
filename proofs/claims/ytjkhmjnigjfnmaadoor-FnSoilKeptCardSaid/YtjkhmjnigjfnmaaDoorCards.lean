/-
  DERIVED. GIVEN WITH THE SEED: THE CARDS: each row of YtjkhmjnigjfnmaaDoorRows.lean that lists a variable, with what it lists TIED to the program's text (the seventh form; the later family's looks); each row that meets fmt, with fmt's text TOLD by the authors' own Lean function (tested against real Go, not proved from fmt's source: count such statements apart). THE CARD IS WHAT COUNTS. Prove the row's statement (the work); the ties are given (YtjkhmjnigjfnmaaDoorTie.lean); close each card by the builder's one call (the guide's Derived/Test/ToyasCard.lean, 'card_holds'). Laid BY PROGRAM, IN A SANDBOX (cutbox-door.mjs). By AI agents, Wed Nov 11 2026. No macro, syntax, notation, axiom, sorry.
-/
import Derived.Test.YtjkhmjnigjfnmaaDoorRows
import GoSem.ClaimSeven
namespace Go.Proofs.YtjkhmjnigjfnmaaDoor
namespace Rows

/-- THE TIED CARD OF 'laws.FnSoilKept'. -/
def fnSoilKeptCard : Claim7 := { stood := { row := fnSoilKeptRow, standIns := [], harness := (true, "54b337f5244d0ca94a935041ecfdf2f0b970bf7e12b03e65065ca7b7ca49c51a"), looks := true }, kinds := [], alts := [], laidByText := true, laidKinds := [.data, .data, .data, .data, .sentinel, .sentinel, .pinned], laidTests := true, laidLooks := .later }
def FnSoilKeptCardSaid : Prop := Claim7.holds Tryd.pinned (.plain (OpenSpec.ofChange fnSoilKeptSpec)) fnSoilKeptCard

/-- THE SECOND FORM's CARD OF 'laws.FnSoilKept'. -/
def fnSoilKeptUptoCard : Claim7 := { stood := { row := fnSoilKeptUptoRow, standIns := [], harness := (true, "54b337f5244d0ca94a935041ecfdf2f0b970bf7e12b03e65065ca7b7ca49c51a"), looks := true }, kinds := [], alts := [], laidByText := true, laidKinds := [.data, .data, .data, .data, .sentinel, .sentinel, .pinned], laidTests := true, laidLooks := .later }
def FnSoilKeptUptoCardSaid : Prop := Claim7.holds Tryd.pinned (.plain (OpenSpec.upto fnSoilKeptSpec)) fnSoilKeptUptoCard
end Rows
end Go.Proofs.YtjkhmjnigjfnmaaDoor
