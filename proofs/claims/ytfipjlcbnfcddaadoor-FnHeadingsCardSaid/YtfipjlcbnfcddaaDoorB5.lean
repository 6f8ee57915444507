/-
  The program's ReadHeading, at every text.
-/
import Derived.Test.YtfipjlcbnfcddaaDoorB3
import Derived.Test.YtfipjlcbnfcddaaDoorB4
namespace Go.Proofs.YtfipjlcbnfcddaaDoor.B
open Go Go.RowKit Go.Proofs.YtfipjlcbnfcddaaDoorW.PrintWords Go.Proofs.YtfipjlcbnfcddaaDoor.F A
set_option linter.unusedVariables false
set_option linter.unusedSimpArgs false

set_option maxRecDepth 100000 in
set_option maxHeartbeats 1600000 in
theorem read_other (s : ByteArray) (w : World) (m : Int) (hs : s.size ≤ 1048576) (hm : w.cell? ⟨0, 0, none⟩ = some (.int .i64 m)) (p : List ByteArray) (hp : U.piecesB 32 s = p) (h3 : ((p.length : Int) == 3) = false) (h4 : ((p.length : Int) == 4) = false) :
    Calls Tryd.prog 6 #[.string s] w (ReadPost p w) := by
  have hr : U.readHead p = (U.Hd.nil, 1) := by
    have e3 := beq_eq_false_iff_ne.1 h3
    have e4 := beq_eq_false_iff_ne.1 h4
    unfold U.readHead
    rw [if_pos (by omega)]
  have hw0 := World.block_lt_of_cell? w _ hm
  have HM : ∀ o : Obj, (w.alloc o).cell? ⟨0, 0, none⟩ = some (.int .i64 m) := fun o => (World.cell?_alloc_lt w o ⟨0, 0, none⟩ hw0).trans hm
  have HS := fun o : Obj => Tryd.strings_Split s ⟨#[32]⟩ m (w.alloc o) (by omega) (HM o) (by simp [ByteArray.size])
  rw [U.splitB_pieces, U.countB_pieces, hp] at HS
  have HS' := Lib.hid HS
  have HN := Lib.hid (new0 w (p.map Value.string).toArray)
  have HR := Lib.hid hr
  have n3 : ((p.length : Int) != 3) = true := by rw [bne, h3]; rfl
  have n4 : ((p.length : Int) != 4) = true := by rw [bne, h4]; rfl
  clear hp HM hm HS hr
  go_enter Tryd.func6, Tryd.ntmps6
  go_wp2_with (go_at_call 18; refine (HS'.out _).mono ?_; rintro e w' ⟨rfl, rfl⟩)
  exact ret_post HR.out (by repeat (first | with_reducible exact Below.refl _ _ | with_reducible apply below_alloc | with_reducible apply bset0)) rfl rfl rfl HN.out

theorem pieces_le (c : UInt8) : ∀ (l : List UInt8) (p : List UInt8), p ∈ U.pieces c l → p.length ≤ l.length
  | [], p, h => by simp [U.pieces] at h; simp [h]
  | b :: r, p, h => by
    by_cases hb : b = c
    · subst hb
      rw [U.pieces_hit] at h
      rcases List.mem_cons.1 h with rfl | h
      · simp
      · have := pieces_le b r p h
        simp
        omega
    · obtain ⟨q, qs, hq⟩ := pieces_cons c r
      rw [U.pieces_miss hb hq] at h
      rcases List.mem_cons.1 h with rfl | h
      · have := pieces_le c r q (by rw [hq]; simp)
        simp
        omega
      · have := pieces_le c r p (by rw [hq]; simp [h])
        simp
        omega
theorem piecesB_le {c : UInt8} {s a : ByteArray} (h : a ∈ U.piecesB c s) : a.size ≤ s.size := by
  unfold U.piecesB at h
  rw [List.mem_map] at h
  obtain ⟨l, hl, rfl⟩ := h
  have := pieces_le c _ l hl
  rw [data_length] at this
  show l.toArray.size ≤ s.size
  simpa using this
theorem read_any (s : ByteArray) (w : World) (m : Int) (hs : s.size ≤ 1048576) (hm : w.cell? ⟨0, 0, none⟩ = some (.int .i64 m)) : Calls Tryd.prog 6 #[.string s] w (ReadPost (U.piecesB 32 s) w) := by
  have hle : ∀ a ∈ U.piecesB 32 s, a.size ≤ 1048576 := fun a ha => Nat.le_trans (piecesB_le ha) hs
  match hp : U.piecesB 32 s with
  | [] => exact read_other s w m hs hm [] hp rfl rfl
  | [_] => exact read_other s w m hs hm _ hp rfl rfl
  | [_, _] => exact read_other s w m hs hm _ hp rfl rfl
  | [a, b, c] =>
    rw [hp] at hle
    exact read_three s w m hs hm a b c hp (hle a (by simp)) (hle b (by simp)) (hle c (by simp))
  | [a, b, c, d] =>
    rw [hp] at hle
    exact read_four s w m hs hm a b c d hp (hle a (by simp)) (hle b (by simp)) (hle c (by simp)) (hle d (by simp))
  | a :: b :: c :: d :: e :: r =>
    refine read_other s w m hs hm _ hp (beq_eq_false_iff_ne.2 ?_) (beq_eq_false_iff_ne.2 ?_) <;> simp <;> omega
end Go.Proofs.YtfipjlcbnfcddaaDoor.B
