/-
  The drawer of headings as a Lean function, in the printed functions' own form.
-/
import Derived.Test.YtfipjlcbnfcddaaDoorH1
namespace Go.Proofs.YtfipjlcbnfcddaaDoor.F
open Go Go.RowKit Go.Proofs.YtfipjlcbnfcddaaDoorW.PrintWords Go.Proofs.YtfipjlcbnfcddaaDoorW.PrintLast
open Go.Proofs.YtfipjlcbnfcddaaDoor.B (hdVal hdCells)
set_option linter.unusedVariables false
set_option linter.unusedSimpArgs false
def HeadOk (a b c d e f g : Int) : Prop := (0 ≤ a ∧ a < 5) ∧ (0 ≤ b ∧ b < 3) ∧ 0 ≤ c ∧ (0 ≤ d ∧ d < 3) ∧ (0 ≤ e ∧ e < 31) ∧ 0 ≤ f ∧ 0 ≤ g
instance (a b c d e f g : Int) : Decidable (HeadOk a b c d e f g) := by unfold HeadOk; infer_instance
def spec_l1Rd_heading.f (k : Nat) (s0_0 : List Int) (s0_1 : Int) : Option (ByteArray × ByteArray × Int × ByteArray × Int × Int × Int × ByteArray × Int) :=
  (spec_l1Rd_below.f s0_0 s0_1 5).bind fun a => (spec_l1Rd_below.f s0_0 a.2 3).bind fun b => (spec_l1Rd_below.f s0_0 b.2 100).bind fun c => (spec_l1Rd_below.f s0_0 c.2 3).bind fun d => (spec_l1Rd_below.f s0_0 d.2 31).bind fun e => (spec_l1Rd_below.f s0_0 e.2 24).bind fun f => (spec_l1Rd_below.f s0_0 f.2 60).bind fun g =>
    (spec_l1Rd_mark.f k s0_0 g.2).bind fun m => (spec_MarkOf.f k m.1).bind fun q =>
      if HeadOk a.1 b.1 c.1 d.1 e.1 f.1 g.1 then some (kinds.getD a.1.toNat ByteArray.empty, areas.getD b.1.toNat ByteArray.empty, c.1, cents.getD d.1.toNat ByteArray.empty, 1 + e.1, f.1, g.1, if q.1 < 0 then ⟨#[67, 67, 65]⟩ else m.1, m.2) else none
theorem spec_l1Rd_heading.mono : ∀ a0 a1 k, LeO (spec_l1Rd_heading.f k a0 a1) (spec_l1Rd_heading.f (k + 1) a0 a1) := by
  intro a0 a1 k
  unfold spec_l1Rd_heading.f
  refine LeO.bind (LeO.refl _) fun _ => LeO.bind (LeO.refl _) fun _ => LeO.bind (LeO.refl _) fun _ => LeO.bind (LeO.refl _) fun _ => LeO.bind (LeO.refl _) fun _ => LeO.bind (LeO.refl _) fun _ => LeO.bind (LeO.refl _) fun _ => ?_
  exact LeO.bind (spec_l1Rd_mark.mono _ _ _) fun _ => LeO.bind (spec_MarkOf.mono _ _) fun _ => LeO.refl _
theorem spec_l1Rd_heading.calls (k : Nat) (g : Nat) (s0_0 : List Int) (s0_1 : Int) (r1 : ByteArray) (r2 : ByteArray) (r3 : Int) (r4 : ByteArray) (r5 : Int) (r6 : Int) (r7 : Int) (r8 : ByteArray) (r9 : Int) (w0 w : World) (hI : IsS59 w0 w g s0_0 s0_1) (hB : Below w0.heap.size w0 w) (h : spec_l1Rd_heading.f k s0_0 s0_1 = some (r1, r2, r3, r4, r5, r6, r7, r8, r9)) :
    Calls Tryd.prog 26 #[.pointer (some ⟨g, 0, none⟩)] w fun e w' => e = .returned (.agg #[.string r1, .string r2, .int .i64 r3, .string r4, .int .i64 r5, .int .i64 r6, .int .i64 r7, .string r8]) ∧ IsS59 w0 w' g s0_0 r9 ∧ Below w0.heap.size w0 w' ∧ KeepBut w w' g none := by
  unfold spec_l1Rd_heading.f at h
  simp only [Option.bind_eq_some_iff] at h
  obtain ⟨⟨n1, p1⟩, A1, ⟨n2, p2⟩, A2, ⟨n3, p3⟩, A3, ⟨n4, p4⟩, A4, ⟨n5, p5⟩, A5, ⟨n6, p6⟩, A6, ⟨n7, p7⟩, A7, ⟨mk, p8⟩, A8, ⟨m1, m2⟩, AM, h⟩ := h
  by_cases hok : HeadOk n1 n2 n3 n4 n5 n6 n7
  · rw [if_pos hok] at h
    simp only [Option.some.injEq, Prod.mk.injEq] at h
    obtain ⟨⟨l1, u1⟩, ⟨l2, u2⟩, l3, ⟨l4, u4⟩, ⟨l5, u5⟩, l6, l7⟩ := hok
    obtain ⟨n1, rfl⟩ := Int.eq_ofNat_of_zero_le l1
    obtain ⟨n2, rfl⟩ := Int.eq_ofNat_of_zero_le l2
    obtain ⟨n3, rfl⟩ := Int.eq_ofNat_of_zero_le l3
    obtain ⟨n4, rfl⟩ := Int.eq_ofNat_of_zero_le l4
    obtain ⟨n5, rfl⟩ := Int.eq_ofNat_of_zero_le l5
    obtain ⟨n6, rfl⟩ := Int.eq_ofNat_of_zero_le l6
    obtain ⟨n7, rfl⟩ := Int.eq_ofNat_of_zero_le l7
    obtain ⟨rfl, rfl, rfl, rfl, rfl, rfl, rfl, h8, rfl⟩ := h
    exact heading_calls g s0_0 s0_1 p1 p2 p3 p4 p5 p6 p7 p8 k n1 n2 n3 n4 n5 n6 n7 mk r8 m1 m2 h8 w0 w hI hB ⟨A1⟩ ⟨A2⟩ ⟨A3⟩ ⟨A4⟩ ⟨A5⟩ ⟨A6⟩ ⟨A7⟩ ⟨A8⟩ ⟨AM⟩ (by omega) (by omega) (by omega) (by omega)
  · rw [if_neg hok] at h
    cases h
end Go.Proofs.YtfipjlcbnfcddaaDoor.F
