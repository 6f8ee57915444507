/-
  The reference's ReadHeading: its callees' contracts, and laws for its walk.
-/
import Derived.Test.YtfipjlcbnfcddaaDoorB
namespace Go.Proofs.YtfipjlcbnfcddaaDoor.C
open Go Go.RowKit Go.Proofs.YtfipjlcbnfcddaaDoorW.PrintWords Go.Proofs.YtfipjlcbnfcddaaDoor.F A B
set_option linter.unusedVariables false
set_option linter.unusedSimpArgs false

def numO (s : ByteArray) : Int := numOr s.data.toList
theorem numO_any (s : ByteArray) (w : World) : Calls Tryd.prog 15 #[.string s] w fun e w' => e = .returned (.int .i64 (numO s)) ∧ Drawn0 w w' := number_any s w
theorem numO_yes {s : ByteArray} (h : U.digK s = true) (hs : s.size ≤ 15) : numO s = U.numK s ∧ 0 ≤ numO s := by
  unfold numO numOr
  rw [if_pos ⟨h, by rw [data_length]; exact hs⟩]
  exact ⟨rfl, (U.num_bound h).1⟩
theorem numO_no {s : ByteArray} (h : U.digK s = false) : numO s = -1 := by
  unfold numO numOr
  rw [if_neg]
  intro h'
  have : U.digK s = true := h'.1
  rw [h] at this
  cases this
theorem numO_neg {s : ByteArray} (h : numO s < 0) (hs : s.size ≤ 15) : U.digK s = false := by
  cases hd : U.digK s with
  | false => rfl
  | true =>
    have := (numO_yes hd hs).2
    omega
theorem numO_pos {s : ByteArray} (h : ¬ numO s < 0) : U.digK s = true := by
  cases hd : U.digK s with
  | true => rfl
  | false => rw [numO_no hd] at h; omega
theorem capL_any (s : ByteArray) (w : World) (hs : s.size ≤ 9223372036854775806) : Calls Tryd.prog 14 #[.string s] w fun e w' => e = .returned (.bool (U.capL s)) ∧ Drawn0 w w' := letters_any s w hs
theorem cenL_any (s : ByteArray) (w : World) : Calls Tryd.prog 16 #[.string s] w fun e w' => e = .returned (.bool (U.cenK s)) ∧ Drawn0 w w' := l4centre_any s w
/-- The pieces: a row of the call's own. -/
theorem pcs_any (s : ByteArray) (hs : s.size ≤ 1048576) (w : World) : Calls Tryd.prog 13 #[.string s] w fun e w' => ∃ g cap, e = .returned (.slice (some ⟨g, 0, none⟩) (U.piecesB 32 s).length cap) ∧ w.heap.size ≤ g ∧ g < w'.heap.size ∧
    (∀ i, i < (U.piecesB 32 s).length → w'.cell? ⟨g, i, none⟩ = some (.string (U.at_ (U.piecesB 32 s) i))) ∧ Below w.heap.size w w' := by
  refine (spec_l4Pieces.calls _ s _ w (l4pieces_f s (by omega))).mono ?_
  rintro e w' ⟨v, rfl, hr, hb⟩
  have hp : 0 < (U.piecesB 32 s).length := by
    have := U.countB_pieces 32 s
    omega
  obtain ⟨g, cap, rfl, hg, hlt, _⟩ := Kd.R_form hr hp
  refine ⟨g, cap, rfl, hg, hlt, fun i hi => ?_, hb⟩
  obtain ⟨_, _, hc⟩ := Kd.R_reads' hr
  obtain ⟨ad, ha, hcell⟩ := Kd.at_string hc (i : Int) (by omega) (by omega)
  obtain rfl := Option.some.inj ha
  have := hcell
  rw [add_plain] at this
  simpa [rdOf, U.at_] using this
/-- A heading is right. -/
def hokB (h : U.Hd) : Bool := decide (h.kind.size = 2) && decide (h.area.size = 2) && U.capsB (h.kind ++ h.area).data.toList && U.inB h.no 0 99 && U.cenK h.centre && U.inB h.day 1 31 && U.inB h.hour 0 23 && U.inB h.minute 0 59 && decide (0 ≤ U.markK h.mark)
theorem l2in_f (n lo hi : Int) : spec_l2In.f n lo hi = some (U.inB n lo hi) := by
  unfold spec_l2In.f U.inB
  by_cases h : n ≥ lo
  · rw [if_pos h]
    congr 1
    exact decide_eq_decide.2 (by omega)
  · rw [if_neg h, decide_eq_false (by omega)]
theorem hok_ev (h : U.Hd) (hm : h.mark.size ≤ 9223372036854775806) : ∃ k, spec_l4HeadingOk.f k h.kind h.area h.no h.centre h.day h.hour h.minute h.mark = some (hokB h) := by
  obtain ⟨k1, h1⟩ := l4mark_ev h.mark hm
  obtain ⟨k2, h2⟩ := l4centre_ev h.centre
  refine ⟨k1 + k2 + 5, ?_⟩
  have g1 := at_rounds (spec_MarkOf.mono h.mark) (show k1 ≤ k1 + k2 + 5 by omega) h1
  have g2 := at_rounds (spec_l4CentreOk.mono h.centre) (show k2 ≤ k1 + k2 + 5 by omega) h2
  unfold spec_l4HeadingOk.f hokB
  rw [g1]
  simp only [Option.bind_some]
  by_cases e1 : h.kind.size = 2
  · by_cases e2 : h.area.size = 2
    · rw [if_pos (by omega), if_pos (by omega), if_pos (by omega), letters_f _ (by rw [ByteArray.size_append]; omega) _ (by rw [ByteArray.size_append]; omega), g2, decide_eq_true e1, decide_eq_true e2]
      simp only [Option.bind_some, l2in_f]
      have ec : U.cenK h.centre = U.centreB h.centre.data.toList := rfl
      have em : U.markK h.mark = (U.markB h.mark.data.toList).1 := rfl
      rw [ec, em]
      cases U.capsB (h.kind ++ h.area).data.toList <;> cases U.inB h.no 0 99 <;> cases U.centreB h.centre.data.toList <;> cases U.inB h.day 1 31 <;> cases U.inB h.hour 0 23 <;> cases U.inB h.minute 0 59 <;> simp
    · rw [if_pos (by omega), if_neg (by omega), decide_eq_false e2]
      simp
  · rw [if_neg (by omega), decide_eq_false e1]
    simp
theorem hok_any (h : U.Hd) (w : World) (hm : h.mark.size ≤ 9223372036854775806) : Calls Tryd.prog 17 #[hdVal h] w fun e w' => e = .returned (.bool (hokB h)) ∧ Below w.heap.size w w' := by
  obtain ⟨k, hk⟩ := hok_ev h hm
  exact spec_l4HeadingOk.calls k _ _ _ _ _ _ _ _ _ w hk
theorem new2 (w : World) : ((w.alloc (.cells #[.string ⟨#[]⟩, .string ⟨#[]⟩, .int .i64 0, .string ⟨#[]⟩, .int .i64 0, .int .i64 0, .int .i64 0, .string ⟨#[]⟩] 23)).alloc (.cells #[.string ⟨#[]⟩, .string ⟨#[]⟩, .int .i64 0, .string ⟨#[]⟩, .int .i64 0, .int .i64 0, .int .i64 0, .string ⟨#[]⟩] 23)).heap[w.heap.size]? = some (.cells #[.string ⟨#[]⟩, .string ⟨#[]⟩, .int .i64 0, .string ⟨#[]⟩, .int .i64 0, .int .i64 0, .int .i64 0, .string ⟨#[]⟩] 23 (0, 0)) ∧ ((w.alloc (.cells #[.string ⟨#[]⟩, .string ⟨#[]⟩, .int .i64 0, .string ⟨#[]⟩, .int .i64 0, .int .i64 0, .int .i64 0, .string ⟨#[]⟩] 23)).alloc (.cells #[.string ⟨#[]⟩, .string ⟨#[]⟩, .int .i64 0, .string ⟨#[]⟩, .int .i64 0, .int .i64 0, .int .i64 0, .string ⟨#[]⟩] 23)).heap[w.heap.size + 1]? = some (.cells #[.string ⟨#[]⟩, .string ⟨#[]⟩, .int .i64 0, .string ⟨#[]⟩, .int .i64 0, .int .i64 0, .int .i64 0, .string ⟨#[]⟩] 23 (0, 0)) := by
  refine ⟨blk_alloc (blk_new w _) _, ?_⟩
  have := blk_new (w.alloc (.cells #[.string ⟨#[]⟩, .string ⟨#[]⟩, .int .i64 0, .string ⟨#[]⟩, .int .i64 0, .int .i64 0, .int .i64 0, .string ⟨#[]⟩] 23)) (.cells #[.string ⟨#[]⟩, .string ⟨#[]⟩, .int .i64 0, .string ⟨#[]⟩, .int .i64 0, .int .i64 0, .int .i64 0, .string ⟨#[]⟩] 23)
  simpa using this
theorem ret_ref {p : List ByteArray} {w w' : World} {a : Act} {h : U.Hd} {n : Int} (hr : U.readHead p = (h, n)) (hb : Below w.heap.size w w') (h2 : a.tmps.getD 2 undef = .pointer (some ⟨w.heap.size, 0, none⟩)) (h3 : a.tmps.getD 3 undef = .int .i64 n) (hd : a.defers = [])
    (hg : w'.heap[w.heap.size]? = some (.cells (hdCells h) 23 (0, 0))) : bodyPost Tryd.prog Tryd.f5 (ReadPost p w) Exit.ret a w' := by
  have hres := results_ct (P := Tryd.prog) (fn := Tryd.f5) (p := 2) (u := 3) (ty := 23) rfl a.tmps w' w.heap.size 23 (hdCells h) (0, 0) _ h2 hg Tryd.underlying23 rfl (by kernel_rfl)
  rw [h3] at hres
  exact bodyPost_ret hres hd (post_of hr hb)
theorem capK_four {a : ByteArray} (h6 : a.size = 6) : U.capK (a.extract 0 4) 4 = U.capL (a.extract 0 4) := by
  unfold U.capK U.capL
  have : (((a.extract 0 4).size : Int) == 4) = true := by
    rw [beq_iff_eq, ByteArray.size_extract]
    omega
  rw [this, Bool.and_true]
theorem kind_parts {a : ByteArray} (h : U.kindOk a = true) : ((a.size : Int) != 6) = false ∧ U.capL (a.extract 0 4) = true ∧ ¬ numO (a.extract 4 a.size) < 0 := by
  unfold U.kindOk at h
  rw [Bool.and_eq_true, Bool.and_eq_true] at h
  obtain ⟨⟨h1, h2⟩, h3⟩ := h
  have h6 := of_decide_eq_true h1
  refine ⟨bne_eq_false_iff_eq.2 (by omega), by rw [← capK_four h6]; exact h2, ?_⟩
  have := (numO_yes h3 (by rw [ByteArray.size_extract]; omega)).2
  omega
theorem time_parts {c : ByteArray} (h : U.timeOk c = true) : ((c.size : Int) != 6) = false ∧ ¬ numO c < 0 := by
  unfold U.timeOk at h
  rw [Bool.and_eq_true] at h
  have h6 := of_decide_eq_true h.1
  refine ⟨bne_eq_false_iff_eq.2 (by omega), ?_⟩
  have := (numO_yes h.2 (by omega)).2
  omega
/-- What memory holds behind the heading's making. -/
def MadeR (p : List ByteArray) (pg : Nat) (h : U.Hd) (g : Nat) (w w1 : World) : Prop :=
  w1.heap[w.heap.size]? = some (.cells (hdCells U.Hd.nil) 23 (0, 0)) ∧ w1.heap[w.heap.size + 1]? = some (.cells (hdCells U.Hd.nil) 23 (0, 0)) ∧ w1.heap[g]? = some (.cells (hdCells h) 23 (0, 0)) ∧ w.heap.size + 1 < g ∧ (∀ i, i < p.length → w1.cell? ⟨pg, i, none⟩ = some (.string (U.at_ p i))) ∧ pg ≠ g ∧ Below w.heap.size w w1
def headO (p : List ByteArray) : U.Hd := ⟨(U.at_ p 0).extract 0 2, (U.at_ p 0).extract 2 4, numO ((U.at_ p 0).extract 4 (U.at_ p 0).size), U.at_ p 1, numO ((U.at_ p 2).extract 0 2), numO ((U.at_ p 2).extract 2 4), numO ((U.at_ p 2).extract 4 (U.at_ p 2).size), ⟨#[]⟩⟩
theorem al_dn (w : World) (n : Nat) (o : Obj) : (w.drewN n).alloc o = (w.alloc o).drewN n := rfl
theorem keepR {w1 : World} {pg i n : Nat} {Z : Obj} {u : Value} (hne : ¬ pg = w1.heap.size) (h : w1.cell? ⟨pg, i, none⟩ = some u) (v0 v1 v2 v3 v4 v5 v6 v7 : Value) :
    (((((((((((w1.alloc Z).drewN n).setCell ⟨w1.heap.size, 0, none⟩ v0).setCell ⟨w1.heap.size, 1, none⟩ v1).setCell ⟨w1.heap.size, 2, none⟩ v2).setCell ⟨w1.heap.size, 3, none⟩ v3).setCell ⟨w1.heap.size, 4, none⟩ v4).setCell ⟨w1.heap.size, 5, none⟩ v5).setCell ⟨w1.heap.size, 6, none⟩ v6).setCell ⟨w1.heap.size, 7, none⟩ v7)).cell? ⟨pg, i, none⟩ = some u := by
  iterate 8 (refine scell hne ?_)
  rw [World.cell?_drewN]
  exact acell h _
theorem two_le (n : Nat) : n ≤ n + 1 + 1 := by omega
theorem kind_six {a : ByteArray} (h : U.kindOk a = true) : 6 ≤ a.size ∧ a.size ≤ 6 := by
  unfold U.kindOk at h
  rw [Bool.and_eq_true, Bool.and_eq_true] at h
  have := of_decide_eq_true h.1.1
  omega
theorem time_six {a : ByteArray} (h : U.timeOk a = true) : 6 ≤ a.size ∧ a.size ≤ 6 := by
  unfold U.timeOk at h
  rw [Bool.and_eq_true] at h
  have := of_decide_eq_true h.1
  omega
theorem kind_split {a : ByteArray} (h : ¬ U.kindOk a = true) : ((a.size : Int) != 6) = true ∨ (((a.size : Int) != 6) = false ∧ (6 ≤ a.size ∧ a.size ≤ 6) ∧ U.capL (a.extract 0 4) = false) ∨ (((a.size : Int) != 6) = false ∧ (6 ≤ a.size ∧ a.size ≤ 6) ∧ U.capL (a.extract 0 4) = true ∧ numO (a.extract 4 a.size) < 0) := by
  by_cases h6 : a.size = 6
  · have e : ((a.size : Int) != 6) = false := bne_eq_false_iff_eq.2 (by omega)
    cases hc : U.capL (a.extract 0 4) with
    | false => exact .inr (.inl ⟨e, by omega, rfl⟩)
    | true =>
      refine .inr (.inr ⟨e, by omega, rfl, ?_⟩)
      cases hd : U.digK (a.extract 4 a.size) with
      | true =>
        exfalso
        apply h
        unfold U.kindOk
        rw [capK_four h6, hc, hd, decide_eq_true h6]
        rfl
      | false => rw [numO_no hd]; omega
  · exact .inl (bne_iff_ne.2 (by omega))
theorem time_split {c : ByteArray} (h : ¬ U.timeOk c = true) : ((c.size : Int) != 6) = true ∨ (((c.size : Int) != 6) = false ∧ numO c < 0) := by
  by_cases h6 : c.size = 6
  · refine .inr ⟨bne_eq_false_iff_eq.2 (by omega), ?_⟩
    cases hd : U.digK c with
    | true =>
      exfalso
      apply h
      unfold U.timeOk
      rw [hd, decide_eq_true h6]
      rfl
    | false => rw [numO_no hd]; omega
  · exact .inl (bne_iff_ne.2 (by omega))
/-- What the two checks of a heading come to, behind the checks of its pieces. -/
theorem ext_dig {a : ByteArray} (h : U.kindOk a = true) : U.digK (a.extract 4 a.size) = true := by
  unfold U.kindOk at h
  rw [Bool.and_eq_true] at h
  exact h.2
theorem two_num {s : ByteArray} (h : U.digK s = true) (hs : s.size = 2) : 0 ≤ U.numK s ∧ U.numK s ≤ 99 := by
  have := U.num_bound h
  rw [data_length, hs] at this
  have e : (10 : Int) ^ 2 = 100 := by decide
  unfold U.numK
  omega
theorem caps_ext {a : ByteArray} (h : U.kindOk a = true) : U.capsB (a.extract 0 2 ++ a.extract 2 4).data.toList = true := by
  have h6 := kind_six h
  unfold U.kindOk at h
  rw [Bool.and_eq_true, Bool.and_eq_true] at h
  have h2 := h.1.2
  rw [capK_four (by omega)] at h2
  have e : (a.extract 0 2 ++ a.extract 2 4) = a.extract 0 4 := by
    rw [ByteArray.extract_append_extract]
    rfl
  rw [e]
  exact h2
theorem hok_head {p : List ByteArray} (hk : U.kindOk (U.at_ p 0) = true) (hc : U.cenK (U.at_ p 1) = true) (ht : U.timeOk (U.at_ p 2) = true) (m : ByteArray) (hm : 0 ≤ U.markK m ∨ U.markK m = -1) :
    hokB { U.head0 p with mark := m } = (U.dayOk (U.head0 p) && decide (¬ U.markK m = -1)) := by
  have h6 := kind_six hk
  have t6 := time_six ht
  have hd : U.digK (U.at_ p 2) = true := by
    unfold U.timeOk at ht
    rw [Bool.and_eq_true] at ht
    exact ht.2
  have n0 := two_num (ext_dig hk) (by rw [ByteArray.size_extract]; omega)
  have n1 := two_num (U.digK_extract hd 0 2 (by omega) (by omega)) (by rw [ByteArray.size_extract]; omega)
  have n2 := two_num (U.digK_extract hd 2 4 (by omega) (by omega)) (by rw [ByteArray.size_extract]; omega)
  have n3 := two_num (U.digK_extract hd 4 (U.at_ p 2).size (by omega) (by omega)) (by rw [ByteArray.size_extract]; omega)
  have e1 : ((U.at_ p 0).extract 0 2).size = 2 := by rw [ByteArray.size_extract]; omega
  have e2 : ((U.at_ p 0).extract 2 4).size = 2 := by rw [ByteArray.size_extract]; omega
  have e3 := caps_ext hk
  unfold hokB U.dayOk U.head0
  dsimp only
  rw [decide_eq_true e1, decide_eq_true e2, e3, hc]
  unfold U.inB
  rw [decide_eq_true n0]
  rw [Bool.eq_iff_iff]
  simp
  omega
theorem mark_range (m : ByteArray) : 0 ≤ U.markK m ∨ U.markK m = -1 := by
  unfold U.markK U.markB
  split
  · exact .inl (by decide)
  · repeat' split
    all_goals (first | (right; rfl) | (left; dsimp only; omega))
  · exact .inr rfl
theorem made_ref {p : List ByteArray} {pg n : Nat} {w w1 : World} (hd : U.Hd) (hH : w1.heap[w.heap.size]? = some (.cells (hdCells U.Hd.nil) 23 (0, 0))) (hN : w1.heap[w.heap.size + 1]? = some (.cells (hdCells U.Hd.nil) 23 (0, 0))) (hpg : ¬ pg = w1.heap.size)
    (hp : ∀ i, i < p.length → w1.cell? ⟨pg, i, none⟩ = some (.string (U.at_ p i))) (hB : Below w.heap.size w w1) : MadeR p pg hd w1.heap.size w
    (((((((((((w1.alloc (.cells (hdCells U.Hd.nil) 23)).drewN n).setCell ⟨w1.heap.size, 0, none⟩ (.string hd.kind)).setCell ⟨w1.heap.size, 1, none⟩ (.string hd.area)).setCell ⟨w1.heap.size, 2, none⟩ (.int .i64 hd.no)).setCell ⟨w1.heap.size, 3, none⟩ (.string hd.centre)).setCell ⟨w1.heap.size, 4, none⟩ (.int .i64 hd.day)).setCell ⟨w1.heap.size, 5, none⟩ (.int .i64 hd.hour)).setCell ⟨w1.heap.size, 6, none⟩ (.int .i64 hd.minute)).setCell ⟨w1.heap.size, 7, none⟩ (.string hd.mark))) := by
  have l1 := blk_lt hH
  have l2 := blk_lt hN
  have hB' := hB.size
  refine ⟨far8 (blk_drewN (blk_alloc hH _) _) (by omega) _ _ _ _ _ _ _ _, far8 (blk_drewN (blk_alloc hN _) _) (by omega) _ _ _ _ _ _ _ _, set8 (blk_drewN (blk_new w1 _) _) _ _ _ _ _ _ _ _, by omega, fun i hi => keepR hpg (hp i hi) _ _ _ _ _ _ _ _, hpg, below8 (pw_below_drewN (below_alloc hB _) _) (by omega) _ _ _ _ _ _ _ _⟩
theorem hok8 {k ar : ByteArray} {no : Int} {ce : ByteArray} {d h m : Int} {mk : ByteArray} {b : Bool} (hb : hokB ⟨k, ar, no, ce, d, h, m, mk⟩ = b) (w : World) (hm : mk.size ≤ 9223372036854775806) :
    Calls Tryd.prog 17 #[.agg #[.string k, .string ar, .int .i64 no, .string ce, .int .i64 d, .int .i64 h, .int .i64 m, .string mk]] w fun e w' => e = .returned (.bool b) ∧ Below w.heap.size w w' := by
  have := hok_any ⟨k, ar, no, ce, d, h, m, mk⟩ w hm
  rw [hb] at this
  exact this
theorem headO_eq {p : List ByteArray} (hk : U.kindOk (U.at_ p 0) = true) (ht : U.timeOk (U.at_ p 2) = true) : headO p = U.head0 p := by
  have h6 := kind_six hk
  have t6 := time_six ht
  have hd : U.digK (U.at_ p 2) = true := by
    unfold U.timeOk at ht
    rw [Bool.and_eq_true] at ht
    exact ht.2
  unfold headO U.head0
  rw [(numO_yes (ext_dig hk) (by rw [ByteArray.size_extract]; omega)).1, (numO_yes (U.digK_extract hd 0 2 (by omega) (by omega)) (by rw [ByteArray.size_extract]; omega)).1, (numO_yes (U.digK_extract hd 2 4 (by omega) (by omega)) (by rw [ByteArray.size_extract]; omega)).1, (numO_yes (U.digK_extract hd 4 (U.at_ p 2).size (by omega) (by omega)) (by rw [ByteArray.size_extract]; omega)).1]
theorem hok_first {p : List ByteArray} (hk : U.kindOk (U.at_ p 0) = true) (hc : U.cenK (U.at_ p 1) = true) (ht : U.timeOk (U.at_ p 2) = true) : hokB (U.head0 p) = U.dayOk (U.head0 p) := by
  have := hok_head hk hc ht ⟨#[]⟩ (.inl (by decide))
  rw [show decide (¬ U.markK ⟨#[]⟩ = -1) = true from by decide, Bool.and_true] at this
  exact this
theorem hok_second {p : List ByteArray} (hk : U.kindOk (U.at_ p 0) = true) (hc : U.cenK (U.at_ p 1) = true) (ht : U.timeOk (U.at_ p 2) = true) (hd : U.dayOk (U.head0 p) = true) (m : ByteArray) : hokB { U.head0 p with mark := m } = decide (¬ U.markK m = -1) := by
  rw [hok_head hk hc ht m (mark_range m), hd, Bool.true_and]
theorem MadeR.after {p : List ByteArray} {pg g : Nat} {h : U.Hd} {w w1 w2 : World} (hM : MadeR p pg h g w w1) (b : Below w1.heap.size w1 w2) : MadeR p pg h g w w2 := by
  obtain ⟨h1, h2, h3, h4, h5, h6, h7⟩ := hM
  exact ⟨blk_below h1 b, blk_below h2 b, blk_below h3 b, h4, fun i hi => pw_cell_below b (h5 i hi), h6, below_then h7 h7.size b⟩
theorem MadeR.marked {p : List ByteArray} {pg g : Nat} {h : U.Hd} {w w1 : World} (hM : MadeR p pg h g w w1) (m : ByteArray) : MadeR p pg { h with mark := m } g w (w1.setCell ⟨g, 7, none⟩ (.string m)) := by
  obtain ⟨h1, h2, h3, h4, h5, h6, h7⟩ := hM
  have i3 := blk_set h3 7 (.string m)
  simp only [hdCells, List.setIfInBounds_toArray, List.set_cons_zero, List.set_cons_succ] at i3
  exact ⟨far_set h1 (by omega) _, far_set h2 (by omega) _, i3, h4, fun i hi => scell h6 (h5 i hi), h6, bset (show w.heap.size ≤ g by omega) h7⟩
end Go.Proofs.YtfipjlcbnfcddaaDoor.C
