/-
  The program's ReadHeading returns what the reference's returns, for every text: the tied card of FnExactReadHeading. Conditions: none but the card's own (the listed variables of the library as the program's text lays them).
-/
import Derived.Test.YtfipjlcbnfcddaaDoorD5
import Derived.Test.YtfipjlcbnfcddaaDoorG
namespace Go.Proofs.YtfipjlcbnfcddaaDoor
set_option linter.unusedVariables false
set_option linter.unusedSimpArgs false
/-- The law's card. -/
theorem readHeading_holds : Rows.FnExactReadHeadingCardSaid :=
  G.card fun s w m hs hm => E.law_any (fun s w h => C.ref_any s w h) (fun s w m h hm => B.read_any s w m h hm) s w m hs hm
#print axioms readHeading_holds
end Go.Proofs.YtfipjlcbnfcddaaDoor
