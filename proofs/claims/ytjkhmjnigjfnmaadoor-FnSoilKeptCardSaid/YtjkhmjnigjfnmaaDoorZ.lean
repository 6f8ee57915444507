/-
  Behind a drawn step of the soil all that fell is what lies and what is gone, the layers within their bounds, and a soil comes back from its text: the tied card of FnSoilKept, for every input. Conditions: none but the card's own (the listed variables of the library as the program's text lays them).
-/
import Derived.Test.YtjkhmjnigjfnmaaDoorG
namespace Go.Proofs.YtjkhmjnigjfnmaaDoor
open Go Go.RowKit Go.Proofs.YtjkhmjnigjfnmaaDoorW.PrintWords
set_option linter.unusedVariables false
set_option linter.unusedSimpArgs false
theorem byte_of_wf {x : Int} (h : (Lit.int .u8 x).wf = true) : 0 ≤ x ∧ x ≤ 255 := by
  simp [Lit.wf, IntKind.min, IntKind.max, IntKind.signed, IntKind.bits] at h
  omega
theorem soil_law : G.Law := by
  intro A0 c0 l w m hm ht hr hc hw
  by_cases hl : l.length ≤ 1048576
  · obtain ⟨k, s0, s1, s2, s3, s4, t, r, hd⟩ := C.draw_ok (l := l) ⟨fun x hx => byte_of_wf (hw x hx), hl⟩
    have hD : ∀ W : World, Kd.C (Kd.int .u8) W A0 l.length l → Calls Tryd.prog 5 #[.slice A0 l.length c0] W fun e w' => e = .returned (.tuple #[.agg #[.int .i64 s0, .int .i64 s1, .int .i64 s2, .int .i64 s3, .int .i64 s4], .int .i64 t, .int .i64 r]) ∧ Below W.heap.size W w' :=
      fun W h => F.spec_DrawSoilStep.calls k A0 c0 l _ _ _ _ _ _ _ W h hc hd
    cases hb : F.stepB s0 s1 s2 s3 s4 t r with
    | false => exact E.law_no A0 c0 l w hr hc hl s0 s1 s2 s3 s4 t r hD hb
    | true => exact E.law_yes A0 c0 l w m hm ht hr hc hl s0 s1 s2 s3 s4 t r hD hb
  · exact E.law_big A0 c0 l w hr hc hl
/-- The law's card. -/
theorem soilKept_holds : Rows.FnSoilKeptCardSaid := G.card soil_law
#print axioms soilKept_holds
end Go.Proofs.YtjkhmjnigjfnmaaDoor
