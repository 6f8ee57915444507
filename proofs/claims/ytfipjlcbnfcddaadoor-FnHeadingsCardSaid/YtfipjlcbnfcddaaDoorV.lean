/-
  Plain laws: a heading's text.
-/
import Derived.Test.YtfipjlcbnfcddaaDoorU
namespace Go.Proofs.YtfipjlcbnfcddaaDoor.V
open Go
open Go.Proofs.YtfipjlcbnfcddaaDoor.U (Hd capsB digsB num centreB markB)
set_option linter.unusedVariables false
set_option linter.unusedSimpArgs false
/-- A number from 0 to 99 in two digits. -/
def ddB (n : Int) : ByteArray := ⟨#[UInt8.ofNat (48 + n.toNat / 10), UInt8.ofNat (48 + n.toNat % 10)]⟩
def spB : ByteArray := ⟨#[32]⟩
/-- A heading's text, but for its mark. -/
def preB (h : Hd) : ByteArray := ((((((((h.kind ++ h.area) ++ ddB h.no) ++ spB) ++ h.centre) ++ spB) ++ ddB h.day) ++ ddB h.hour) ++ ddB h.minute)
def textB (h : Hd) : ByteArray := if h.mark.size = 0 then preB h else (preB h ++ spB) ++ h.mark
/-- Is a heading right? -/
def okB (h : Hd) : Bool := (decide (h.kind.size = 2) && capsB h.kind.data.toList) && ((decide (h.area.size = 2) && capsB h.area.data.toList) && (decide (0 ≤ h.no ∧ h.no ≤ 99) && (centreB h.centre.data.toList && (decide (1 ≤ h.day ∧ h.day ≤ 31) && (decide (0 ≤ h.hour ∧ h.hour ≤ 23) && (decide (0 ≤ h.minute ∧ h.minute ≤ 59) && decide ((markB h.mark.data.toList).1 ≠ -1)))))))
theorem dd_size (n : Int) : (ddB n).size = 2 := rfl
end Go.Proofs.YtfipjlcbnfcddaaDoor.V
