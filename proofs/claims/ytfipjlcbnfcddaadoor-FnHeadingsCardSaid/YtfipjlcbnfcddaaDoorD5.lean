/-
  The reference's ReadHeading, at every text.
-/
import Derived.Test.YtfipjlcbnfcddaaDoorB5
import Derived.Test.YtfipjlcbnfcddaaDoorD3
import Derived.Test.YtfipjlcbnfcddaaDoorD4
namespace Go.Proofs.YtfipjlcbnfcddaaDoor.C
open Go Go.RowKit Go.Proofs.YtfipjlcbnfcddaaDoorW.PrintWords Go.Proofs.YtfipjlcbnfcddaaDoor.F A B
set_option linter.unusedVariables false
set_option linter.unusedSimpArgs false

set_option maxRecDepth 100000 in
set_option maxHeartbeats 1600000 in
theorem ref_other (s : ByteArray) (w : World) (hs : s.size ≤ 1048576) (p : List ByteArray) (hp : U.piecesB 32 s = p) (h3 : ((p.length : Int) == 3) = false) (h4 : ((p.length : Int) == 4) = false) :
    Calls Tryd.prog 5 #[.string s] w (ReadPost p w) := by
  have hr : U.readHead p = (U.Hd.nil, 1) := by
    have e3 := beq_eq_false_iff_ne.1 h3
    have e4 := beq_eq_false_iff_ne.1 h4
    unfold U.readHead
    rw [if_pos (by omega)]
  have PC := fun W : World => pcs_any s hs W
  rw [hp] at PC
  have PC := Lib.hid PC
  have NW := Lib.hid (new2 w)
  have HR := Lib.hid hr
  have n3 : ((p.length : Int) != 3) = true := by rw [bne, h3]; rfl
  have n4 : ((p.length : Int) != 4) = true := by rw [bne, h4]; rfl
  clear hp hr
  go_enter Tryd.func5, Tryd.ntmps5
  go_wp2_with (go_at_call 13; refine (PC.out _).mono ?_; rintro e w1 ⟨pg, cap, rfl, hge, hpl, hpc, hb1⟩; obtain ⟨iH, iN⟩ := NW.out; have hH := blk_below iH hb1; have hN := blk_below iN hb1; have hB := below_then (below_alloc (below_alloc (Below.refl w.heap.size w) _) _) (by simp; exact two_le _) hb1; clear iH iN hb1; obtain ⟨r0, r1, r2, r3, r4, r5, r6, r7, rf⟩ := cells8 hH; obtain ⟨z0, z1, z2, z3, z4, z5, z6, z7, zf⟩ := cells8 hN; clear hpc)
  exact ret_ref HR.out (below8 hB (Nat.le_refl _) _ _ _ _ _ _ _ _) rfl rfl rfl (set8 hH _ _ _ _ _ _ _ _)
theorem ref_any (s : ByteArray) (w : World) (hs : s.size ≤ 1048576) : Calls Tryd.prog 5 #[.string s] w (ReadPost (U.piecesB 32 s) w) := by
  have hle : ∀ a ∈ U.piecesB 32 s, a.size ≤ 1048576 := fun a ha => Nat.le_trans (piecesB_le ha) hs
  match hp : U.piecesB 32 s with
  | [] => exact ref_other s w hs [] hp rfl rfl
  | [_] => exact ref_other s w hs _ hp rfl rfl
  | [_, _] => exact ref_other s w hs _ hp rfl rfl
  | [a, b, c] =>
    rw [hp] at hle
    exact ref_three s w hs a b c hp (hle a (by simp)) (hle b (by simp)) (hle c (by simp))
  | [a, b, c, d] =>
    rw [hp] at hle
    exact ref_four s w hs a b c d hp (hle a (by simp)) (hle b (by simp)) (hle c (by simp)) (hle d (by simp))
  | a :: b :: c :: d :: e :: r =>
    refine ref_other s w hs _ hp (beq_eq_false_iff_ne.2 ?_) (beq_eq_false_iff_ne.2 ?_) <;> simp <;> omega
end Go.Proofs.YtfipjlcbnfcddaaDoor.C
