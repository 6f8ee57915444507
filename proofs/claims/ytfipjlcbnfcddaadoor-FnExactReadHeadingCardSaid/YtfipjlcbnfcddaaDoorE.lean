/-
  The law FnExactReadHeading: the program's ReadHeading and the reference's come to the same.
-/
import Derived.Test.YtfipjlcbnfcddaaDoorC
namespace Go.Proofs.YtfipjlcbnfcddaaDoor.E
open Go Go.RowKit Go.Proofs.YtfipjlcbnfcddaaDoorW.PrintWords Go.Proofs.YtfipjlcbnfcddaaDoor.F A B C
set_option linter.unusedVariables false
set_option linter.unusedSimpArgs false
attribute [local go_sem] al_dn

theorem eqh_any (k ar : ByteArray) (no : Int) (ce : ByteArray) (d h m : Int) (mk : ByteArray) (w : World) :
    Calls Tryd.prog 7 #[.agg #[.string k, .string ar, .int .i64 no, .string ce, .int .i64 d, .int .i64 h, .int .i64 m, .string mk], .agg #[.string k, .string ar, .int .i64 no, .string ce, .int .i64 d, .int .i64 h, .int .i64 m, .string mk]] w fun e w' => e = .returned (.bool true) ∧ Below w.heap.size w w' := by
  refine laws_eqHeading.calls _ _ _ _ _ _ _ _ _ _ _ _ _ _ _ _ _ w ?_
  simp [laws_eqHeading.f]
theorem big_no (s : ByteArray) (w : World) (h : ¬ s.size ≤ 1048576) (hs : s.size ≤ 9223372036854775807) :
    Calls Tryd.prog 3 #[.string s] w fun e w' => e = .returned (.bool true) ∧ Below w.heap.size w w' := by
  have hb : (1048576 : Int) < (s.size : Int) := by omega
  clear h
  go_enter Tryd.func3, Tryd.ntmps3
  go_wp2
  go_ret
  exact ⟨rfl, Below.refl _ _⟩
set_option maxRecDepth 100000 in
set_option maxHeartbeats 1600000 in
theorem law_any (RF : ∀ (s : ByteArray) (w : World), s.size ≤ 1048576 → Calls Tryd.prog 5 #[.string s] w (ReadPost (U.piecesB 32 s) w))
    (IM : ∀ (s : ByteArray) (w : World) (m : Int), s.size ≤ 1048576 → w.cell? ⟨0, 0, none⟩ = some (.int .i64 m) → Calls Tryd.prog 6 #[.string s] w (ReadPost (U.piecesB 32 s) w))
    (s : ByteArray) (w : World) (m : Int) (hs : s.size ≤ 1048576) (hm : w.cell? ⟨0, 0, none⟩ = some (.int .i64 m)) :
    Calls Tryd.prog 3 #[.string s] w fun e w' => e = .returned (.bool true) ∧ Below w.heap.size w w' := by
  have hb : ¬ (1048576 : Int) < (s.size : Int) := by omega
  have RF := fun W : World => RF s W hs
  have IM := fun (W : World) h => IM s W m hs h
  generalize hq : U.readHead (U.piecesB 32 s) = q at *
  obtain ⟨⟨k, ar, no, ce, d, h, mi, mk⟩, n⟩ := q
  have RF : ∀ W : World, Calls Tryd.prog 5 #[.string s] W fun e w' => e = .returned (.tuple #[.agg #[.string k, .string ar, .int .i64 no, .string ce, .int .i64 d, .int .i64 h, .int .i64 mi, .string mk], .int .i64 n]) ∧ Below W.heap.size W w' := fun W => (RF W).mono fun e w' hp => by
    unfold ReadPost at hp
    rw [hq] at hp
    exact hp
  have IM : ∀ W : World, W.cell? ⟨0, 0, none⟩ = some (.int .i64 m) → Calls Tryd.prog 6 #[.string s] W fun e w' => e = .returned (.tuple #[.agg #[.string k, .string ar, .int .i64 no, .string ce, .int .i64 d, .int .i64 h, .int .i64 mi, .string mk], .int .i64 n]) ∧ Below W.heap.size W w' := fun W hW => (IM W hW).mono fun e w' hp => by
    unfold ReadPost at hp
    rw [hq] at hp
    exact hp
  have HR := Lib.hid RF
  have HI := Lib.hid IM
  have HM := Lib.hid hm
  clear RF IM hm hq hs
  go_enter Tryd.func3, Tryd.ntmps3
  go_wp2_with (first
    | (go_at_call 5; refine (HR.out _).mono ?_; rintro e w1 ⟨rfl, hb1⟩)
    | (go_at_call 6; refine (HI.out _ (acell (pw_cell_below hb1 HM.out) _)).mono ?_; rintro e w2 ⟨rfl, hb2⟩; have hX := blk_below (blk_new w1 (.cells #[.string k, .string ar, .int .i64 no, .string ce, .int .i64 d, .int .i64 h, .int .i64 mi, .string mk] 23)) hb2; obtain ⟨x0, x1, x2, x3, x4, x5, x6, x7, xf⟩ := cells8 hX; have y0 := fun o => acell x0 o; have y1 := fun o => acell x1 o; have y2 := fun o => acell x2 o; have y3 := fun o => acell x3 o; have y4 := fun o => acell x4 o; have y5 := fun o => acell x5 o; have y6 := fun o => acell x6 o; have y7 := fun o => acell x7 o; have hB2 := below_then (below_alloc hb1 _) (by simp; have := hb1.size; omega) hb2)
    | (go_at_call 7; refine (eqh_any _ _ _ _ _ _ _ _ _).mono ?_; rintro e w3 ⟨rfl, hb3⟩))
  all_goals go_ret
  exact ⟨rfl, below_then (below_alloc hB2 _) (by simp; have := hB2.size; omega) hb3⟩
end Go.Proofs.YtfipjlcbnfcddaaDoor.E
