/-
  HeadingText, both sides, of any heading; the reference's in the printed functions' form.
-/
import Derived.Test.YtfipjlcbnfcddaaDoorK
import Derived.Test.YtfipjlcbnfcddaaDoorH2
namespace Go.Proofs.YtfipjlcbnfcddaaDoor.K
open Go Go.RowKit Go.Proofs.YtfipjlcbnfcddaaDoorW.PrintWords Go.Proofs.YtfipjlcbnfcddaaDoor.F
open Go.Proofs.YtfipjlcbnfcddaaDoor.B (hdVal hdCells)
set_option linter.unusedVariables false
set_option linter.unusedSimpArgs false
theorem t10_no (h : U.Hd) (w : World) (hS : ∀ W : World, Calls Tryd.prog 17 #[hdVal h] W fun e w' => e = .returned (.bool false) ∧ Below W.heap.size W w') : Calls Tryd.prog 10 #[hdVal h] w fun e w' => e = .returned (.tuple #[.string ⟨#[]⟩, .bool false]) ∧ Below w.heap.size w w' := by
  have HS := Lib.hid hS
  clear hS
  unfold hdVal
  unfold hdVal at HS
  go_enter Tryd.func10, Tryd.ntmps10
  go_wp2_with fail
  refine (HS.out _).mono ?_
  rintro e w1 ⟨rfl, hb1⟩
  have hB : Below w.heap.size w w1 := below_then (below_alloc (Below.refl _ w) (.cells (hdCells h) 23)) (by simp) hb1
  have HB := Lib.hid hB
  clear hB hb1
  go_wp2_with fail
  all_goals
    go_ret2
    exact ⟨rfl, HB.out⟩
theorem t11_no (h : U.Hd) (w : World) (hS : ∀ W : World, Calls Tryd.prog 29 #[hdVal h] W fun e w' => e = .returned (.bool false) ∧ Below W.heap.size W w') : Calls Tryd.prog 11 #[hdVal h] w fun e w' => e = .returned (.tuple #[.string ⟨#[]⟩, .bool false]) ∧ Below w.heap.size w w' := by
  have HS := Lib.hid hS
  clear hS
  unfold hdVal
  unfold hdVal at HS
  go_enter Tryd.func11, Tryd.ntmps11
  go_wp2_with fail
  refine (HS.out _).mono ?_
  rintro e w1 ⟨rfl, hb1⟩
  have hB : Below w.heap.size w w1 := below_then (below_alloc (Below.refl _ w) (.cells (hdCells h) 23)) (by simp) hb1
  have HB := Lib.hid hB
  clear hB hb1
  go_wp2_with fail
  all_goals
    go_ret2
    exact ⟨rfl, HB.out⟩
/-- What a right heading's parts are. -/
theorem hok_parts {h : U.Hd} (hk : C.hokB h = true) : h.kind.size = 2 ∧ h.area.size = 2 ∧ U.capsB (h.kind ++ h.area).data.toList = true ∧ (0 ≤ h.no ∧ h.no ≤ 99) ∧ U.cenK h.centre = true ∧ (1 ≤ h.day ∧ h.day ≤ 31) ∧ (0 ≤ h.hour ∧ h.hour ≤ 23) ∧ (0 ≤ h.minute ∧ h.minute ≤ 59) ∧ 0 ≤ U.markK h.mark := by
  unfold C.hokB U.inB at hk
  simp only [Bool.and_eq_true, decide_eq_true_eq] at hk
  obtain ⟨⟨⟨⟨⟨⟨⟨⟨h1, h2⟩, h3⟩, h4⟩, h5⟩, h6⟩, h7⟩, h8⟩, h9⟩ := hk
  exact ⟨h1, h2, h3, h4, h5, h6, h7, h8, h9⟩
theorem cen_size {s : ByteArray} (h : U.cenK s = true) : s.size = 4 := by
  unfold U.cenK U.centreB at h
  split at h
  · rename_i e
    rw [← data_length, e]
    rfl
  · cases h
theorem mark_size {s : ByteArray} (h : 0 ≤ U.markK s) : s.size = 0 ∨ s.size = 3 := by
  unfold U.markK U.markB at h
  split at h
  · rename_i e
    left
    rw [← data_length, e]
    rfl
  · rename_i e
    right
    rw [← data_length, e]
    rfl
  · simp at h
theorem t10_any (h : U.Hd) (w : World) (hm : h.mark.size ≤ 9223372036854775806) : Calls Tryd.prog 10 #[hdVal h] w fun e w' => e = .returned (.tuple #[.string (if C.hokB h = true then V.textB h else ⟨#[]⟩), .bool (C.hokB h)]) ∧ Below w.heap.size w w' := by
  cases hk : C.hokB h with
  | false =>
    rw [if_neg (by decide)]
    exact t10_no h w (fun W => by have := C.hok_any h W hm; rwa [hk] at this)
  | true =>
    rw [if_pos rfl]
    obtain ⟨h1, h2, h3, h4, h5, h6, h7, h8, h9⟩ := hok_parts hk
    have hc := cen_size h5
    have hz := mark_size h9
    exact t10_yes h w (fun W => by have := C.hok_any h W hm; rwa [hk] at this) h4 (by omega) (by omega) (by omega) (by omega) (by omega) (by omega) (by omega)
theorem t11_any (h : U.Hd) (w : World) (hka : h.kind.size ≤ 9223372036854775806) (ha : h.area.size ≤ 9223372036854775806) (hm : h.mark.size ≤ 9223372036854775806) : Calls Tryd.prog 11 #[hdVal h] w fun e w' => e = .returned (.tuple #[.string (if C.hokB h = true then V.textB h else ⟨#[]⟩), .bool (C.hokB h)]) ∧ Below w.heap.size w w' := by
  cases hk : C.hokB h with
  | false =>
    rw [if_neg (by decide)]
    exact t11_no h w (fun W => by have := iok_any h W hka ha hm; rwa [hk] at this)
  | true =>
    rw [if_pos rfl]
    obtain ⟨h1, h2, h3, h4, h5, h6, h7, h8, h9⟩ := hok_parts hk
    have hc := cen_size h5
    have hz := mark_size h9
    exact t11_yes h w (fun W => by have := iok_any h W hka ha hm; rwa [hk] at this) h4 (by omega) (by omega) (by omega) (by omega) (by omega) (by omega) (by omega)
end Go.Proofs.YtfipjlcbnfcddaaDoor.K
namespace Go.Proofs.YtfipjlcbnfcddaaDoor.F
open Go Go.RowKit Go.Proofs.YtfipjlcbnfcddaaDoorW.PrintWords
open Go.Proofs.YtfipjlcbnfcddaaDoor.B (hdVal hdCells)
/-- HeadingText; a mark that no text holds is no value here. -/
def spec_HeadingText.f (a0_0 : ByteArray) (a0_1 : ByteArray) (a0_2 : Int) (a0_3 : ByteArray) (a0_4 : Int) (a0_5 : Int) (a0_6 : Int) (a0_7 : ByteArray) : Option (ByteArray × Bool) :=
  if a0_7.size ≤ 9223372036854775806 then some (if C.hokB ⟨a0_0, a0_1, a0_2, a0_3, a0_4, a0_5, a0_6, a0_7⟩ = true then V.textB ⟨a0_0, a0_1, a0_2, a0_3, a0_4, a0_5, a0_6, a0_7⟩ else ⟨#[]⟩, C.hokB ⟨a0_0, a0_1, a0_2, a0_3, a0_4, a0_5, a0_6, a0_7⟩) else none
theorem spec_HeadingText.calls (a0_0 : ByteArray) (a0_1 : ByteArray) (a0_2 : Int) (a0_3 : ByteArray) (a0_4 : Int) (a0_5 : Int) (a0_6 : Int) (a0_7 : ByteArray) (r1 : ByteArray) (r2 : Bool) (w : World) (h : spec_HeadingText.f a0_0 a0_1 a0_2 a0_3 a0_4 a0_5 a0_6 a0_7 = some (r1, r2)) :
    Calls Tryd.prog 10 #[.agg #[.string a0_0, .string a0_1, .int .i64 a0_2, .string a0_3, .int .i64 a0_4, .int .i64 a0_5, .int .i64 a0_6, .string a0_7]] w fun e w' => e = .returned (.tuple #[.string r1, .bool r2]) ∧ Below w.heap.size w w' := by
  unfold spec_HeadingText.f at h
  split at h
  · rename_i hm
    simp only [Option.some.injEq, Prod.mk.injEq] at h
    obtain ⟨rfl, rfl⟩ := h
    exact K.t10_any ⟨a0_0, a0_1, a0_2, a0_3, a0_4, a0_5, a0_6, a0_7⟩ w hm
  · cases h
end Go.Proofs.YtfipjlcbnfcddaaDoor.F
