/-
  The walk of the drawer of headings.
-/
import Derived.Test.YtfipjlcbnfcddaaDoorH
import Derived.Outline
import Derived.Lib.Hide
namespace Go.Proofs.YtfipjlcbnfcddaaDoor.F
open Go Go.RowKit Go.Proofs.YtfipjlcbnfcddaaDoorW.PrintWords Go.Proofs.YtfipjlcbnfcddaaDoorW.PrintLast
open Go.Proofs.YtfipjlcbnfcddaaDoor.R (Weak weak_step weak_region apartB no_dst)
open Go.Proofs.YtfipjlcbnfcddaaDoor.B (hdVal hdCells cells8 far_set)
set_option linter.unusedVariables false
set_option linter.unusedSimpArgs false
def headT : Bool × List (List Nat × List Nat) := (true, [([], []), ([], []), ([1], [1]), ([0, 2], [0, 2]), ([3], [3]), ([], []), ([], []), ([6, 2], [6]), ([5, 7], [5, 7]), ([8], [8]), ([], []), ([10, 7], [10]), ([], []), ([], []), ([13, 11], [13]), ([12, 14], [12, 14]), ([15], [15]), ([], []), ([17, 14], [17]), ([18], [18]), ([], []), ([20, 18], [20]), ([], []), ([22, 21], [22]), ([], []), ([24, 23], [24]), ([4, 9, 11, 16, 19, 21, 23, 25], [4, 9, 11, 16, 19, 21, 23, 25]), ([], []), ([27, 26, 25, 0, 1, 2, 3, 4, 5, 6, 7, 8, 9, 10, 11, 12, 13, 14, 15, 16, 17, 18, 19, 20, 21, 22, 23, 24, 25, 26, 27], [26, 27])])
def headB : List Nat := [0, 0, 2, 7, 15, 0, 0, 70, 230, 486, 0, 1222, 0, 0, 11462, 31942, 64710, 0, 158918, 421062, 0, 1469638, 0, 7761094, 0, 32926918, 67108863, 0, 268435455]
theorem head_tab : rtab .any (opsOf Tryd.f26 1) = headT := by kernel_rfl
theorem head_bits : waitsOk headT.2 headB = true := by kernel_rfl
def HeadPost (g : Nat) (s : List Int) (p : Int) (w0 w : World) (h : U.Hd) (e : Ending) (w' : World) : Prop := e = .returned (hdVal h) ∧ IsS59 w0 w' g s p ∧ Below w0.heap.size w0 w' ∧ KeepBut w w' g none
theorem head_ret {g : Nat} {s : List Int} {p : Int} {w0 w w' : World} {h : U.Hd} {a : Act} (h2 : a.tmps.getD 2 undef = .pointer (some ⟨w.heap.size, 0, none⟩)) (hdf : a.defers = []) (hg : w'.heap[w.heap.size]? = some (.cells (hdCells h) 23 (0, 0))) (hI : IsS59 w0 w' g s p) (hB : Below w0.heap.size w0 w') (hK : KeepBut w w' g none) :
    bodyPost Tryd.prog Tryd.f26 (HeadPost g s p w0 w h) Exit.ret a w' :=
  bodyPost_ret (results_cell_row rfl a.tmps w' w.heap.size 23 (hdCells h) (0, 0) _ h2 hg Tryd.underlying23 rfl (by kernel_rfl)) hdf ⟨rfl, hI, hB, hK⟩
theorem kind_cell {g0 n : Nat} {W : World} (h : W.heap[g0]? = some (.cells kindC 9 (0, 0))) (hn : n < 5) : W.cell? ⟨g0, n, none⟩ = some (.string (kinds.getD n ByteArray.empty)) := by
  match n, hn with
  | 0, _ => exact blk_cell h 0
  | 1, _ => exact blk_cell h 1
  | 2, _ => exact blk_cell h 2
  | 3, _ => exact blk_cell h 3
  | 4, _ => exact blk_cell h 4
  | n + 5, hn => omega
theorem area_cell {g0 n : Nat} {W : World} (h : W.heap[g0]? = some (.cells areaC 9 (0, 0))) (hn : n < 3) : W.cell? ⟨g0, n, none⟩ = some (.string (areas.getD n ByteArray.empty)) := by
  match n, hn with
  | 0, _ => exact blk_cell h 0
  | 1, _ => exact blk_cell h 1
  | 2, _ => exact blk_cell h 2
  | n + 3, hn => omega
theorem cent_cell {g0 n : Nat} {W : World} (h : W.heap[g0]? = some (.cells centC 9 (0, 0))) (hn : n < 3) : W.cell? ⟨g0, n, none⟩ = some (.string (cents.getD n ByteArray.empty)) := by
  match n, hn with
  | 0, _ => exact blk_cell h 0
  | 1, _ => exact blk_cell h 1
  | 2, _ => exact blk_cell h 2
  | n + 3, hn => omega
theorem IsS59.far8 {w0 W : World} {g k : Nat} {f0 : List Int} {f1 : Int} (h : IsS59 w0 W g f0 f1) (hne : g ≠ k) (v0 v1 v2 v3 v4 v5 v6 v7 : Value) : IsS59 w0 ((((((((W.setCell ⟨k, 0, none⟩ v0).setCell ⟨k, 1, none⟩ v1).setCell ⟨k, 2, none⟩ v2).setCell ⟨k, 3, none⟩ v3).setCell ⟨k, 4, none⟩ v4).setCell ⟨k, 5, none⟩ v5).setCell ⟨k, 6, none⟩ v6).setCell ⟨k, 7, none⟩ v7) g f0 f1 :=
  (((((((h.far (p := ⟨k, 0, none⟩) hne v0).far (p := ⟨k, 1, none⟩) hne v1).far (p := ⟨k, 2, none⟩) hne v2).far (p := ⟨k, 3, none⟩) hne v3).far (p := ⟨k, 4, none⟩) hne v4).far (p := ⟨k, 5, none⟩) hne v5).far (p := ⟨k, 6, none⟩) hne v6).far (p := ⟨k, 7, none⟩) hne v7
theorem below8w {w0 W : World} {k : Nat} (h : Below w0.heap.size w0 W) (hk : w0.heap.size ≤ k) (v0 v1 v2 v3 v4 v5 v6 v7 : Value) : Below w0.heap.size w0 ((((((((W.setCell ⟨k, 0, none⟩ v0).setCell ⟨k, 1, none⟩ v1).setCell ⟨k, 2, none⟩ v2).setCell ⟨k, 3, none⟩ v3).setCell ⟨k, 4, none⟩ v4).setCell ⟨k, 5, none⟩ v5).setCell ⟨k, 6, none⟩ v6).setCell ⟨k, 7, none⟩ v7) :=
  below_set (below_set (below_set (below_set (below_set (below_set (below_set (below_set h hk) hk) hk) hk) hk) hk) hk) hk
theorem keep8 {w W : World} {g k : Nat} (h : KeepBut w W g none) (hk : w.heap.size ≤ k) (v0 v1 v2 v3 v4 v5 v6 v7 : Value) : KeepBut w ((((((((W.setCell ⟨k, 0, none⟩ v0).setCell ⟨k, 1, none⟩ v1).setCell ⟨k, 2, none⟩ v2).setCell ⟨k, 3, none⟩ v3).setCell ⟨k, 4, none⟩ v4).setCell ⟨k, 5, none⟩ v5).setCell ⟨k, 6, none⟩ v6).setCell ⟨k, 7, none⟩ v7) g none :=
  keep_far (keep_far (keep_far (keep_far (keep_far (keep_far (keep_far (keep_far h (p := ⟨k, 0, none⟩) hk v0) (p := ⟨k, 1, none⟩) hk v1) (p := ⟨k, 2, none⟩) hk v2) (p := ⟨k, 3, none⟩) hk v3) (p := ⟨k, 4, none⟩) hk v4) (p := ⟨k, 5, none⟩) hk v5) (p := ⟨k, 6, none⟩) hk v6) (p := ⟨k, 7, none⟩) hk v7
theorem Le.set8 {g k : Nat} {W : World} {u0 u1 u2 u3 u4 u5 u6 u7 : Value} (h : W.heap[k]? = some (.cells #[u0, u1, u2, u3, u4, u5, u6, u7] 23 (0, 0))) (v0 v1 v2 v3 v4 v5 v6 v7 : Value) : Le g W ((((((((W.setCell ⟨k, 0, none⟩ v0).setCell ⟨k, 1, none⟩ v1).setCell ⟨k, 2, none⟩ v2).setCell ⟨k, 3, none⟩ v3).setCell ⟨k, 4, none⟩ v4).setCell ⟨k, 5, none⟩ v5).setCell ⟨k, 6, none⟩ v6).setCell ⟨k, 7, none⟩ v7) := by
  constructor
  · intro q C hq hb
    have hne : q ≠ k := by
      rintro rfl
      rw [h] at hb
      simp at hb
    exact B.far8 hb hne _ _ _ _ _ _ _ _
  · intro q c0 c1 c2 c3 c4 c5 c6 c7 hq hb
    by_cases hne : q = k
    · subst hne
      exact ⟨_, _, _, _, _, _, _, _, B.set8 hb _ _ _ _ _ _ _ _⟩
    · exact ⟨_, _, _, _, _, _, _, _, B.far8 hb hne _ _ _ _ _ _ _ _⟩
set_option maxRecDepth 100000 in
set_option maxHeartbeats 4000000 in
theorem heading_calls (g : Nat) (s : List Int) (p0 p1 p2 p3 p4 p5 p6 p7 p8 : Int) (k n1 n2 n3 n4 n5 n6 n7 : Nat) (mk mk' : ByteArray) (m1 m2 : Int) (hmk : (if m1 < 0 then (⟨#[67, 67, 65]⟩ : ByteArray) else mk) = mk') (w0 w : World) (hI : IsS59 w0 w g s p0) (hB : Below w0.heap.size w0 w)
    (A1 : Aside0 (spec_l1Rd_below.f s p0 5 = some ((n1 : Int), p1))) (A2 : Aside0 (spec_l1Rd_below.f s p1 3 = some ((n2 : Int), p2))) (A3 : Aside0 (spec_l1Rd_below.f s p2 100 = some ((n3 : Int), p3))) (A4 : Aside0 (spec_l1Rd_below.f s p3 3 = some ((n4 : Int), p4))) (A5 : Aside0 (spec_l1Rd_below.f s p4 31 = some ((n5 : Int), p5)))
    (A6 : Aside0 (spec_l1Rd_below.f s p5 24 = some ((n6 : Int), p6))) (A7 : Aside0 (spec_l1Rd_below.f s p6 60 = some ((n7 : Int), p7))) (A8 : Aside0 (spec_l1Rd_mark.f k s p7 = some (mk, p8))) (AM : Aside0 (spec_MarkOf.f k mk = some (m1, m2))) (b1 : n1 < 5) (b2 : n2 < 3) (b4 : n4 < 3) (b5 : n5 < 31) :
    Calls Tryd.prog 26 #[.pointer (some ⟨g, 0, none⟩)] w (HeadPost g s p8 w0 w ⟨kinds.getD n1 ByteArray.empty, areas.getD n2 ByteArray.empty, n3, cents.getD n4 ByteArray.empty, 1 + n5, n6, n7, mk'⟩) := by
  have hmk' := Lib.hid hmk
  clear hmk
  have hgl := hI.lt
  have hle := hB.size
  have hgr : w.heap.size ≠ g := by omega
  go_enter Tryd.func26, Tryd.ntmps26
  go_upto_region 1 with (fail)
  refine weak_region (T := headT) (B := headB) (n := 29) (HV g w.heap.size w0 w n1 n2 n3 n4 n5 n6 n7 mk) (HR g w.heap.size w0 w s ⟨kinds.getD n1 ByteArray.empty, areas.getD n2 ByteArray.empty, n3, cents.getD n4 ByteArray.empty, 1 + n5, n6, n7, mk⟩ p0 p1 p2 p3 p4 p5 p6 p7 p8) #[false, false, false, false, false, false, false, false, false, false, false, false, false, false, false, false, false, false, false, false, false, false, false, false, false, false, false, false, false] (by kernel_rfl) rfl rfl head_tab head_bits (by kernel_rfl) (by kernel_rfl) ?start ?steps ?fin
  case start =>
    exact ⟨(hI.alloc _).drew, below_drew1 (below_alloc hB _), keep_drew (keep_alloc (KeepBut.refl w g none) _), blk_drew (blk_new w _), fun h => by cases h⟩
  case steps =>
    show ∀ i ∈ [0, 1, 2, 3, 4, 5, 6, 7, 8, 9, 10, 11, 12, 13, 14, 15, 16, 17, 18, 19, 20, 21, 22, 23, 24, 25, 26, 27, 28], StepAt _ _ _ _ _ _ i
    refine steps_cons (i := 0) (weak_step (i := 0) rfl (by kernel_rfl) (fun j v W W' hl h => hv_le g w.heap.size w0 w n1 n2 n3 n4 n5 n6 n7 mk j v W W' hl h) ?_) ?_
    · rintro b a W ⟨hI, hB, hK, hG, hL⟩ hb hon hoff hsz hfr hall K hK_
      refine value_ (w1 := W.alloc (.cells kindC 9)) (v := .slice (some ⟨W.heap.size, 0, none⟩) 5 5) (by rfl) rfl ?_ ?_
      · clear hoff hon hall hfr hL hsz
        unfold kindC
        go_simp
      · refine hK_.out _ _ (Le.keep (keep_alloc (KeepBut.refl W g none) _)) ⟨?_, below_alloc hB _, keep_alloc hK _, blk_alloc hG _, (fun h => absurd h (by rw [up_ne (by decide)]; rw [hoff 28 (by kernel_rfl) (by kernel_rfl)]; decide))⟩ (fun t ht => ⟨W.heap.size, rfl, by have := hI.lt; omega, blk_new W _⟩)
        rw [pos_up (i := 0) ⟨by decide, by decide, by decide, by decide, by decide, by decide, by decide, by decide⟩]
        exact hI.alloc _
    refine steps_cons (i := 1) (weak_step (i := 1) rfl (by kernel_rfl) (fun j v W W' hl h => hv_le g w.heap.size w0 w n1 n2 n3 n4 n5 n6 n7 mk j v W W' hl h) ?_) ?_
    · rintro b a W ⟨hI, hB, hK, hG, hL⟩ hb hon hoff hsz hfr hall K hK_
      have e0 : a.tmps[0]? = some (ptr g) := (hfr 0 (no_dst (by kernel_rfl))).trans rfl
      unfold ptr at e0
      refine value_ (w1 := W) (v := ptr g) (by rfl) rfl ?_ ?_
      · clear hoff hon hall hfr hL hsz
        unfold ptr
        go_simp
      · refine hK_.out _ _ (Le.refl g W) ⟨?_, hB, hK, hG, (fun h => absurd h (by rw [up_ne (by decide)]; rw [hoff 28 (by kernel_rfl) (by kernel_rfl)]; decide))⟩ (fun t ht => rfl)
        rw [pos_up (i := 1) ⟨by decide, by decide, by decide, by decide, by decide, by decide, by decide, by decide⟩]
        exact hI
    refine steps_cons (i := 2) (weak_step (i := 2) rfl (by kernel_rfl) (fun j v W W' hl h => hv_le g w.heap.size w0 w n1 n2 n3 n4 n5 n6 n7 mk j v W W' hl h) ?_) ?_
    · rintro b a W ⟨hI, hB, hK, hG, hL⟩ hb hon hoff hsz hfr hall K hK_
      obtain ⟨v1, e1, q1⟩ := hall 1 _ 7 rfl rfl (by kernel_rfl)
      change v1 = ptr g at q1
      subst q1
      unfold ptr at e1
      rw [pos_at2 hb (hoff 7 (by kernel_rfl) (by kernel_rfl)) (hoff 11 (by kernel_rfl) (by kernel_rfl)) (hoff 14 (by kernel_rfl) (by kernel_rfl)) (hoff 18 (by kernel_rfl) (by kernel_rfl)) (hoff 21 (by kernel_rfl) (by kernel_rfl)) (hoff 23 (by kernel_rfl) (by kernel_rfl)) (hoff 25 (by kernel_rfl) (by kernel_rfl))] at hI
      refine goes_ Tryd.func27 (by kernel_rfl) rfl #[.pointer (some ⟨g, 0, none⟩), .int .i64 5] (by rfl) rfl rfl (by first | (simp only [List.map_toArray, List.map_cons, List.map_nil, Act.eval, Array.getD_eq_getD_getElem?, Option.getD_some, e1]; done) | (simp only [List.map_toArray, List.map_cons, List.map_nil, Act.eval, Array.getD_eq_getD_getElem?, Option.getD_some, e1]; rfl)) ?_
      with_reducible refine (spec_l1Rd_below.calls g s p0 5 n1 p1 w0 _ hI hB A1.out).mono ?_
      rintro e w2 ⟨rfl, hi, hb2, hk⟩
      refine ⟨_, rfl, hK_.out _ _ (Le.keep hk) ⟨?_, hb2, KeepBut.trans hK hk (.inl rfl), hk.blk hG hgr (by simp), (fun h => absurd h (by rw [up_ne (by decide)]; rw [hoff 28 (by kernel_rfl) (by kernel_rfl)]; decide))⟩ (fun t ht => rfl)⟩
      rw [pos_to2 hb (hoff 7 (by kernel_rfl) (by kernel_rfl)) (hoff 11 (by kernel_rfl) (by kernel_rfl)) (hoff 14 (by kernel_rfl) (by kernel_rfl)) (hoff 18 (by kernel_rfl) (by kernel_rfl)) (hoff 21 (by kernel_rfl) (by kernel_rfl)) (hoff 23 (by kernel_rfl) (by kernel_rfl)) (hoff 25 (by kernel_rfl) (by kernel_rfl))]
      exact hi
    refine steps_cons (i := 3) (weak_step (i := 3) rfl (by kernel_rfl) (fun j v W W' hl h => hv_le g w.heap.size w0 w n1 n2 n3 n4 n5 n6 n7 mk j v W W' hl h) ?_) ?_
    · rintro b a W ⟨hI, hB, hK, hG, hL⟩ hb hon hoff hsz hfr hall K hK_
      obtain ⟨v0, e0, q0⟩ := hall 0 _ 6 rfl rfl (by kernel_rfl)
      change Lit g 5 kindC v0 W at q0
      obtain ⟨v2, e2, q2⟩ := hall 2 _ 8 rfl rfl (by kernel_rfl)
      change v2 = .int .i64 n1 at q2
      obtain ⟨g0, rfl, hg0, hc0⟩ := q0
      subst q2
      have hlt : (n1 : Int) < 5 := by omega
      refine value_ (w1 := W) (v := .pointer (some ⟨g0, n1, none⟩)) (by rfl) rfl ?_ ?_
      · clear hoff hon hall hfr hL hsz
        go_simp
      · refine hK_.out _ _ (Le.refl g W) ⟨?_, hB, hK, hG, (fun h => absurd h (by rw [up_ne (by decide)]; rw [hoff 28 (by kernel_rfl) (by kernel_rfl)]; decide))⟩ (fun t ht => ⟨g0, rfl, hg0, hc0⟩)
        rw [pos_up (i := 3) ⟨by decide, by decide, by decide, by decide, by decide, by decide, by decide, by decide⟩]
        exact hI
    refine steps_cons (i := 4) (weak_step (i := 4) rfl (by kernel_rfl) (fun j v W W' hl h => hv_le g w.heap.size w0 w n1 n2 n3 n4 n5 n6 n7 mk j v W W' hl h) ?_) ?_
    · rintro b a W ⟨hI, hB, hK, hG, hL⟩ hb hon hoff hsz hfr hall K hK_
      obtain ⟨v3, e3, q3⟩ := hall 3 _ 9 rfl rfl (by kernel_rfl)
      change Elt g kindC n1 v3 W at q3
      obtain ⟨g0, rfl, hg0, hc0⟩ := q3
      have hcell := kind_cell hc0 b1
      clear hc0
      refine value_ (w1 := W) (v := .string (kinds.getD n1 ByteArray.empty)) (by rfl) rfl ?_ ?_
      · clear hoff hon hall hfr hL hsz
        go_simp
      · refine hK_.out _ _ (Le.refl g W) ⟨?_, hB, hK, hG, (fun h => absurd h (by rw [up_ne (by decide)]; rw [hoff 28 (by kernel_rfl) (by kernel_rfl)]; decide))⟩ (fun t ht => rfl)
        rw [pos_up (i := 4) ⟨by decide, by decide, by decide, by decide, by decide, by decide, by decide, by decide⟩]
        exact hI
    refine steps_cons (i := 5) (weak_step (i := 5) rfl (by kernel_rfl) (fun j v W W' hl h => hv_le g w.heap.size w0 w n1 n2 n3 n4 n5 n6 n7 mk j v W W' hl h) ?_) ?_
    · rintro b a W ⟨hI, hB, hK, hG, hL⟩ hb hon hoff hsz hfr hall K hK_
      refine value_ (w1 := W.alloc (.cells areaC 9)) (v := .slice (some ⟨W.heap.size, 0, none⟩) 3 3) (by rfl) rfl ?_ ?_
      · clear hoff hon hall hfr hL hsz
        unfold areaC
        go_simp
      · refine hK_.out _ _ (Le.keep (keep_alloc (KeepBut.refl W g none) _)) ⟨?_, below_alloc hB _, keep_alloc hK _, blk_alloc hG _, (fun h => absurd h (by rw [up_ne (by decide)]; rw [hoff 28 (by kernel_rfl) (by kernel_rfl)]; decide))⟩ (fun t ht => ⟨W.heap.size, rfl, by have := hI.lt; omega, blk_new W _⟩)
        rw [pos_up (i := 5) ⟨by decide, by decide, by decide, by decide, by decide, by decide, by decide, by decide⟩]
        exact hI.alloc _
    refine steps_cons (i := 6) (weak_step (i := 6) rfl (by kernel_rfl) (fun j v W W' hl h => hv_le g w.heap.size w0 w n1 n2 n3 n4 n5 n6 n7 mk j v W W' hl h) ?_) ?_
    · rintro b a W ⟨hI, hB, hK, hG, hL⟩ hb hon hoff hsz hfr hall K hK_
      have e0 : a.tmps[0]? = some (ptr g) := (hfr 0 (no_dst (by kernel_rfl))).trans rfl
      unfold ptr at e0
      refine value_ (w1 := W) (v := ptr g) (by rfl) rfl ?_ ?_
      · clear hoff hon hall hfr hL hsz
        unfold ptr
        go_simp
      · refine hK_.out _ _ (Le.refl g W) ⟨?_, hB, hK, hG, (fun h => absurd h (by rw [up_ne (by decide)]; rw [hoff 28 (by kernel_rfl) (by kernel_rfl)]; decide))⟩ (fun t ht => rfl)
        rw [pos_up (i := 6) ⟨by decide, by decide, by decide, by decide, by decide, by decide, by decide, by decide⟩]
        exact hI
    refine steps_cons (i := 7) (weak_step (i := 7) rfl (by kernel_rfl) (fun j v W W' hl h => hv_le g w.heap.size w0 w n1 n2 n3 n4 n5 n6 n7 mk j v W W' hl h) ?_) ?_
    · rintro b a W ⟨hI, hB, hK, hG, hL⟩ hb hon hoff hsz hfr hall K hK_
      obtain ⟨v6, e6, q6⟩ := hall 6 _ 12 rfl rfl (by kernel_rfl)
      change v6 = ptr g at q6
      subst q6
      unfold ptr at e6
      rw [pos_at7 hb (hoff 11 (by kernel_rfl) (by kernel_rfl)) (hoff 14 (by kernel_rfl) (by kernel_rfl)) (hoff 18 (by kernel_rfl) (by kernel_rfl)) (hoff 21 (by kernel_rfl) (by kernel_rfl)) (hoff 23 (by kernel_rfl) (by kernel_rfl)) (hoff 25 (by kernel_rfl) (by kernel_rfl)) (hon 2 (by kernel_rfl) (by kernel_rfl))] at hI
      refine goes_ Tryd.func27 (by kernel_rfl) rfl #[.pointer (some ⟨g, 0, none⟩), .int .i64 3] (by rfl) rfl rfl (by first | (simp only [List.map_toArray, List.map_cons, List.map_nil, Act.eval, Array.getD_eq_getD_getElem?, Option.getD_some, e6]; done) | (simp only [List.map_toArray, List.map_cons, List.map_nil, Act.eval, Array.getD_eq_getD_getElem?, Option.getD_some, e6]; rfl)) ?_
      with_reducible refine (spec_l1Rd_below.calls g s p1 3 n2 p2 w0 _ hI hB A2.out).mono ?_
      rintro e w2 ⟨rfl, hi, hb2, hk⟩
      refine ⟨_, rfl, hK_.out _ _ (Le.keep hk) ⟨?_, hb2, KeepBut.trans hK hk (.inl rfl), hk.blk hG hgr (by simp), (fun h => absurd h (by rw [up_ne (by decide)]; rw [hoff 28 (by kernel_rfl) (by kernel_rfl)]; decide))⟩ (fun t ht => rfl)⟩
      rw [pos_to7 hb (hoff 11 (by kernel_rfl) (by kernel_rfl)) (hoff 14 (by kernel_rfl) (by kernel_rfl)) (hoff 18 (by kernel_rfl) (by kernel_rfl)) (hoff 21 (by kernel_rfl) (by kernel_rfl)) (hoff 23 (by kernel_rfl) (by kernel_rfl)) (hoff 25 (by kernel_rfl) (by kernel_rfl)) (hon 2 (by kernel_rfl) (by kernel_rfl))]
      exact hi
    refine steps_cons (i := 8) (weak_step (i := 8) rfl (by kernel_rfl) (fun j v W W' hl h => hv_le g w.heap.size w0 w n1 n2 n3 n4 n5 n6 n7 mk j v W W' hl h) ?_) ?_
    · rintro b a W ⟨hI, hB, hK, hG, hL⟩ hb hon hoff hsz hfr hall K hK_
      obtain ⟨v5, e5, q5⟩ := hall 5 _ 11 rfl rfl (by kernel_rfl)
      change Lit g 3 areaC v5 W at q5
      obtain ⟨v7, e7, q7⟩ := hall 7 _ 13 rfl rfl (by kernel_rfl)
      change v7 = .int .i64 n2 at q7
      obtain ⟨g0, rfl, hg0, hc0⟩ := q5
      subst q7
      have hlt : (n2 : Int) < 3 := by omega
      refine value_ (w1 := W) (v := .pointer (some ⟨g0, n2, none⟩)) (by rfl) rfl ?_ ?_
      · clear hoff hon hall hfr hL hsz
        go_simp
      · refine hK_.out _ _ (Le.refl g W) ⟨?_, hB, hK, hG, (fun h => absurd h (by rw [up_ne (by decide)]; rw [hoff 28 (by kernel_rfl) (by kernel_rfl)]; decide))⟩ (fun t ht => ⟨g0, rfl, hg0, hc0⟩)
        rw [pos_up (i := 8) ⟨by decide, by decide, by decide, by decide, by decide, by decide, by decide, by decide⟩]
        exact hI
    refine steps_cons (i := 9) (weak_step (i := 9) rfl (by kernel_rfl) (fun j v W W' hl h => hv_le g w.heap.size w0 w n1 n2 n3 n4 n5 n6 n7 mk j v W W' hl h) ?_) ?_
    · rintro b a W ⟨hI, hB, hK, hG, hL⟩ hb hon hoff hsz hfr hall K hK_
      obtain ⟨v8, e8, q8⟩ := hall 8 _ 14 rfl rfl (by kernel_rfl)
      change Elt g areaC n2 v8 W at q8
      obtain ⟨g0, rfl, hg0, hc0⟩ := q8
      have hcell := area_cell hc0 b2
      clear hc0
      refine value_ (w1 := W) (v := .string (areas.getD n2 ByteArray.empty)) (by rfl) rfl ?_ ?_
      · clear hoff hon hall hfr hL hsz
        go_simp
      · refine hK_.out _ _ (Le.refl g W) ⟨?_, hB, hK, hG, (fun h => absurd h (by rw [up_ne (by decide)]; rw [hoff 28 (by kernel_rfl) (by kernel_rfl)]; decide))⟩ (fun t ht => rfl)
        rw [pos_up (i := 9) ⟨by decide, by decide, by decide, by decide, by decide, by decide, by decide, by decide⟩]
        exact hI
    refine steps_cons (i := 10) (weak_step (i := 10) rfl (by kernel_rfl) (fun j v W W' hl h => hv_le g w.heap.size w0 w n1 n2 n3 n4 n5 n6 n7 mk j v W W' hl h) ?_) ?_
    · rintro b a W ⟨hI, hB, hK, hG, hL⟩ hb hon hoff hsz hfr hall K hK_
      have e0 : a.tmps[0]? = some (ptr g) := (hfr 0 (no_dst (by kernel_rfl))).trans rfl
      unfold ptr at e0
      refine value_ (w1 := W) (v := ptr g) (by rfl) rfl ?_ ?_
      · clear hoff hon hall hfr hL hsz
        unfold ptr
        go_simp
      · refine hK_.out _ _ (Le.refl g W) ⟨?_, hB, hK, hG, (fun h => absurd h (by rw [up_ne (by decide)]; rw [hoff 28 (by kernel_rfl) (by kernel_rfl)]; decide))⟩ (fun t ht => rfl)
        rw [pos_up (i := 10) ⟨by decide, by decide, by decide, by decide, by decide, by decide, by decide, by decide⟩]
        exact hI
    refine steps_cons (i := 11) (weak_step (i := 11) rfl (by kernel_rfl) (fun j v W W' hl h => hv_le g w.heap.size w0 w n1 n2 n3 n4 n5 n6 n7 mk j v W W' hl h) ?_) ?_
    · rintro b a W ⟨hI, hB, hK, hG, hL⟩ hb hon hoff hsz hfr hall K hK_
      obtain ⟨v10, e10, q10⟩ := hall 10 _ 16 rfl rfl (by kernel_rfl)
      change v10 = ptr g at q10
      subst q10
      unfold ptr at e10
      rw [pos_at11 hb (hoff 14 (by kernel_rfl) (by kernel_rfl)) (hoff 18 (by kernel_rfl) (by kernel_rfl)) (hoff 21 (by kernel_rfl) (by kernel_rfl)) (hoff 23 (by kernel_rfl) (by kernel_rfl)) (hoff 25 (by kernel_rfl) (by kernel_rfl)) (hon 7 (by kernel_rfl) (by kernel_rfl))] at hI
      refine goes_ Tryd.func27 (by kernel_rfl) rfl #[.pointer (some ⟨g, 0, none⟩), .int .i64 100] (by rfl) rfl rfl (by first | (simp only [List.map_toArray, List.map_cons, List.map_nil, Act.eval, Array.getD_eq_getD_getElem?, Option.getD_some, e10]; done) | (simp only [List.map_toArray, List.map_cons, List.map_nil, Act.eval, Array.getD_eq_getD_getElem?, Option.getD_some, e10]; rfl)) ?_
      with_reducible refine (spec_l1Rd_below.calls g s p2 100 n3 p3 w0 _ hI hB A3.out).mono ?_
      rintro e w2 ⟨rfl, hi, hb2, hk⟩
      refine ⟨_, rfl, hK_.out _ _ (Le.keep hk) ⟨?_, hb2, KeepBut.trans hK hk (.inl rfl), hk.blk hG hgr (by simp), (fun h => absurd h (by rw [up_ne (by decide)]; rw [hoff 28 (by kernel_rfl) (by kernel_rfl)]; decide))⟩ (fun t ht => rfl)⟩
      rw [pos_to11 hb (hoff 14 (by kernel_rfl) (by kernel_rfl)) (hoff 18 (by kernel_rfl) (by kernel_rfl)) (hoff 21 (by kernel_rfl) (by kernel_rfl)) (hoff 23 (by kernel_rfl) (by kernel_rfl)) (hoff 25 (by kernel_rfl) (by kernel_rfl)) (hon 7 (by kernel_rfl) (by kernel_rfl))]
      exact hi
    refine steps_cons (i := 12) (weak_step (i := 12) rfl (by kernel_rfl) (fun j v W W' hl h => hv_le g w.heap.size w0 w n1 n2 n3 n4 n5 n6 n7 mk j v W W' hl h) ?_) ?_
    · rintro b a W ⟨hI, hB, hK, hG, hL⟩ hb hon hoff hsz hfr hall K hK_
      refine value_ (w1 := W.alloc (.cells centC 9)) (v := .slice (some ⟨W.heap.size, 0, none⟩) 3 3) (by rfl) rfl ?_ ?_
      · clear hoff hon hall hfr hL hsz
        unfold centC
        go_simp
      · refine hK_.out _ _ (Le.keep (keep_alloc (KeepBut.refl W g none) _)) ⟨?_, below_alloc hB _, keep_alloc hK _, blk_alloc hG _, (fun h => absurd h (by rw [up_ne (by decide)]; rw [hoff 28 (by kernel_rfl) (by kernel_rfl)]; decide))⟩ (fun t ht => ⟨W.heap.size, rfl, by have := hI.lt; omega, blk_new W _⟩)
        rw [pos_up (i := 12) ⟨by decide, by decide, by decide, by decide, by decide, by decide, by decide, by decide⟩]
        exact hI.alloc _
    refine steps_cons (i := 13) (weak_step (i := 13) rfl (by kernel_rfl) (fun j v W W' hl h => hv_le g w.heap.size w0 w n1 n2 n3 n4 n5 n6 n7 mk j v W W' hl h) ?_) ?_
    · rintro b a W ⟨hI, hB, hK, hG, hL⟩ hb hon hoff hsz hfr hall K hK_
      have e0 : a.tmps[0]? = some (ptr g) := (hfr 0 (no_dst (by kernel_rfl))).trans rfl
      unfold ptr at e0
      refine value_ (w1 := W) (v := ptr g) (by rfl) rfl ?_ ?_
      · clear hoff hon hall hfr hL hsz
        unfold ptr
        go_simp
      · refine hK_.out _ _ (Le.refl g W) ⟨?_, hB, hK, hG, (fun h => absurd h (by rw [up_ne (by decide)]; rw [hoff 28 (by kernel_rfl) (by kernel_rfl)]; decide))⟩ (fun t ht => rfl)
        rw [pos_up (i := 13) ⟨by decide, by decide, by decide, by decide, by decide, by decide, by decide, by decide⟩]
        exact hI
    refine steps_cons (i := 14) (weak_step (i := 14) rfl (by kernel_rfl) (fun j v W W' hl h => hv_le g w.heap.size w0 w n1 n2 n3 n4 n5 n6 n7 mk j v W W' hl h) ?_) ?_
    · rintro b a W ⟨hI, hB, hK, hG, hL⟩ hb hon hoff hsz hfr hall K hK_
      obtain ⟨v13, e13, q13⟩ := hall 13 _ 19 rfl rfl (by kernel_rfl)
      change v13 = ptr g at q13
      subst q13
      unfold ptr at e13
      rw [pos_at14 hb (hoff 18 (by kernel_rfl) (by kernel_rfl)) (hoff 21 (by kernel_rfl) (by kernel_rfl)) (hoff 23 (by kernel_rfl) (by kernel_rfl)) (hoff 25 (by kernel_rfl) (by kernel_rfl)) (hon 11 (by kernel_rfl) (by kernel_rfl))] at hI
      refine goes_ Tryd.func27 (by kernel_rfl) rfl #[.pointer (some ⟨g, 0, none⟩), .int .i64 3] (by rfl) rfl rfl (by first | (simp only [List.map_toArray, List.map_cons, List.map_nil, Act.eval, Array.getD_eq_getD_getElem?, Option.getD_some, e13]; done) | (simp only [List.map_toArray, List.map_cons, List.map_nil, Act.eval, Array.getD_eq_getD_getElem?, Option.getD_some, e13]; rfl)) ?_
      with_reducible refine (spec_l1Rd_below.calls g s p3 3 n4 p4 w0 _ hI hB A4.out).mono ?_
      rintro e w2 ⟨rfl, hi, hb2, hk⟩
      refine ⟨_, rfl, hK_.out _ _ (Le.keep hk) ⟨?_, hb2, KeepBut.trans hK hk (.inl rfl), hk.blk hG hgr (by simp), (fun h => absurd h (by rw [up_ne (by decide)]; rw [hoff 28 (by kernel_rfl) (by kernel_rfl)]; decide))⟩ (fun t ht => rfl)⟩
      rw [pos_to14 hb (hoff 18 (by kernel_rfl) (by kernel_rfl)) (hoff 21 (by kernel_rfl) (by kernel_rfl)) (hoff 23 (by kernel_rfl) (by kernel_rfl)) (hoff 25 (by kernel_rfl) (by kernel_rfl)) (hon 11 (by kernel_rfl) (by kernel_rfl))]
      exact hi
    refine steps_cons (i := 15) (weak_step (i := 15) rfl (by kernel_rfl) (fun j v W W' hl h => hv_le g w.heap.size w0 w n1 n2 n3 n4 n5 n6 n7 mk j v W W' hl h) ?_) ?_
    · rintro b a W ⟨hI, hB, hK, hG, hL⟩ hb hon hoff hsz hfr hall K hK_
      obtain ⟨v12, e12, q12⟩ := hall 12 _ 18 rfl rfl (by kernel_rfl)
      change Lit g 3 centC v12 W at q12
      obtain ⟨v14, e14, q14⟩ := hall 14 _ 20 rfl rfl (by kernel_rfl)
      change v14 = .int .i64 n4 at q14
      obtain ⟨g0, rfl, hg0, hc0⟩ := q12
      subst q14
      have hlt : (n4 : Int) < 3 := by omega
      refine value_ (w1 := W) (v := .pointer (some ⟨g0, n4, none⟩)) (by rfl) rfl ?_ ?_
      · clear hoff hon hall hfr hL hsz
        go_simp
      · refine hK_.out _ _ (Le.refl g W) ⟨?_, hB, hK, hG, (fun h => absurd h (by rw [up_ne (by decide)]; rw [hoff 28 (by kernel_rfl) (by kernel_rfl)]; decide))⟩ (fun t ht => ⟨g0, rfl, hg0, hc0⟩)
        rw [pos_up (i := 15) ⟨by decide, by decide, by decide, by decide, by decide, by decide, by decide, by decide⟩]
        exact hI
    refine steps_cons (i := 16) (weak_step (i := 16) rfl (by kernel_rfl) (fun j v W W' hl h => hv_le g w.heap.size w0 w n1 n2 n3 n4 n5 n6 n7 mk j v W W' hl h) ?_) ?_
    · rintro b a W ⟨hI, hB, hK, hG, hL⟩ hb hon hoff hsz hfr hall K hK_
      obtain ⟨v15, e15, q15⟩ := hall 15 _ 21 rfl rfl (by kernel_rfl)
      change Elt g centC n4 v15 W at q15
      obtain ⟨g0, rfl, hg0, hc0⟩ := q15
      have hcell := cent_cell hc0 b4
      clear hc0
      refine value_ (w1 := W) (v := .string (cents.getD n4 ByteArray.empty)) (by rfl) rfl ?_ ?_
      · clear hoff hon hall hfr hL hsz
        go_simp
      · refine hK_.out _ _ (Le.refl g W) ⟨?_, hB, hK, hG, (fun h => absurd h (by rw [up_ne (by decide)]; rw [hoff 28 (by kernel_rfl) (by kernel_rfl)]; decide))⟩ (fun t ht => rfl)
        rw [pos_up (i := 16) ⟨by decide, by decide, by decide, by decide, by decide, by decide, by decide, by decide⟩]
        exact hI
    refine steps_cons (i := 17) (weak_step (i := 17) rfl (by kernel_rfl) (fun j v W W' hl h => hv_le g w.heap.size w0 w n1 n2 n3 n4 n5 n6 n7 mk j v W W' hl h) ?_) ?_
    · rintro b a W ⟨hI, hB, hK, hG, hL⟩ hb hon hoff hsz hfr hall K hK_
      have e0 : a.tmps[0]? = some (ptr g) := (hfr 0 (no_dst (by kernel_rfl))).trans rfl
      unfold ptr at e0
      refine value_ (w1 := W) (v := ptr g) (by rfl) rfl ?_ ?_
      · clear hoff hon hall hfr hL hsz
        unfold ptr
        go_simp
      · refine hK_.out _ _ (Le.refl g W) ⟨?_, hB, hK, hG, (fun h => absurd h (by rw [up_ne (by decide)]; rw [hoff 28 (by kernel_rfl) (by kernel_rfl)]; decide))⟩ (fun t ht => rfl)
        rw [pos_up (i := 17) ⟨by decide, by decide, by decide, by decide, by decide, by decide, by decide, by decide⟩]
        exact hI
    refine steps_cons (i := 18) (weak_step (i := 18) rfl (by kernel_rfl) (fun j v W W' hl h => hv_le g w.heap.size w0 w n1 n2 n3 n4 n5 n6 n7 mk j v W W' hl h) ?_) ?_
    · rintro b a W ⟨hI, hB, hK, hG, hL⟩ hb hon hoff hsz hfr hall K hK_
      obtain ⟨v17, e17, q17⟩ := hall 17 _ 23 rfl rfl (by kernel_rfl)
      change v17 = ptr g at q17
      subst q17
      unfold ptr at e17
      rw [pos_at18 hb (hoff 21 (by kernel_rfl) (by kernel_rfl)) (hoff 23 (by kernel_rfl) (by kernel_rfl)) (hoff 25 (by kernel_rfl) (by kernel_rfl)) (hon 14 (by kernel_rfl) (by kernel_rfl))] at hI
      refine goes_ Tryd.func27 (by kernel_rfl) rfl #[.pointer (some ⟨g, 0, none⟩), .int .i64 31] (by rfl) rfl rfl (by first | (simp only [List.map_toArray, List.map_cons, List.map_nil, Act.eval, Array.getD_eq_getD_getElem?, Option.getD_some, e17]; done) | (simp only [List.map_toArray, List.map_cons, List.map_nil, Act.eval, Array.getD_eq_getD_getElem?, Option.getD_some, e17]; rfl)) ?_
      with_reducible refine (spec_l1Rd_below.calls g s p4 31 n5 p5 w0 _ hI hB A5.out).mono ?_
      rintro e w2 ⟨rfl, hi, hb2, hk⟩
      refine ⟨_, rfl, hK_.out _ _ (Le.keep hk) ⟨?_, hb2, KeepBut.trans hK hk (.inl rfl), hk.blk hG hgr (by simp), (fun h => absurd h (by rw [up_ne (by decide)]; rw [hoff 28 (by kernel_rfl) (by kernel_rfl)]; decide))⟩ (fun t ht => rfl)⟩
      rw [pos_to18 hb (hoff 21 (by kernel_rfl) (by kernel_rfl)) (hoff 23 (by kernel_rfl) (by kernel_rfl)) (hoff 25 (by kernel_rfl) (by kernel_rfl)) (hon 14 (by kernel_rfl) (by kernel_rfl))]
      exact hi
    refine steps_cons (i := 19) (weak_step (i := 19) rfl (by kernel_rfl) (fun j v W W' hl h => hv_le g w.heap.size w0 w n1 n2 n3 n4 n5 n6 n7 mk j v W W' hl h) ?_) ?_
    · rintro b a W ⟨hI, hB, hK, hG, hL⟩ hb hon hoff hsz hfr hall K hK_
      obtain ⟨v18, e18, q18⟩ := hall 18 _ 24 rfl rfl (by kernel_rfl)
      change v18 = .int .i64 n5 at q18
      subst q18
      have h5 : (n5 : Int) < 31 := by omega
      refine value_ (w1 := W) (v := .int .i64 (1 + n5)) (by rfl) rfl ?_ ?_
      · clear hoff hon hall hfr hL hsz
        go_simp
        rw [i64_w]
        unfold wrap64
        omega
      · refine hK_.out _ _ (Le.refl g W) ⟨?_, hB, hK, hG, (fun h => absurd h (by rw [up_ne (by decide)]; rw [hoff 28 (by kernel_rfl) (by kernel_rfl)]; decide))⟩ (fun t ht => rfl)
        rw [pos_up (i := 19) ⟨by decide, by decide, by decide, by decide, by decide, by decide, by decide, by decide⟩]
        exact hI
    refine steps_cons (i := 20) (weak_step (i := 20) rfl (by kernel_rfl) (fun j v W W' hl h => hv_le g w.heap.size w0 w n1 n2 n3 n4 n5 n6 n7 mk j v W W' hl h) ?_) ?_
    · rintro b a W ⟨hI, hB, hK, hG, hL⟩ hb hon hoff hsz hfr hall K hK_
      have e0 : a.tmps[0]? = some (ptr g) := (hfr 0 (no_dst (by kernel_rfl))).trans rfl
      unfold ptr at e0
      refine value_ (w1 := W) (v := ptr g) (by rfl) rfl ?_ ?_
      · clear hoff hon hall hfr hL hsz
        unfold ptr
        go_simp
      · refine hK_.out _ _ (Le.refl g W) ⟨?_, hB, hK, hG, (fun h => absurd h (by rw [up_ne (by decide)]; rw [hoff 28 (by kernel_rfl) (by kernel_rfl)]; decide))⟩ (fun t ht => rfl)
        rw [pos_up (i := 20) ⟨by decide, by decide, by decide, by decide, by decide, by decide, by decide, by decide⟩]
        exact hI
    refine steps_cons (i := 21) (weak_step (i := 21) rfl (by kernel_rfl) (fun j v W W' hl h => hv_le g w.heap.size w0 w n1 n2 n3 n4 n5 n6 n7 mk j v W W' hl h) ?_) ?_
    · rintro b a W ⟨hI, hB, hK, hG, hL⟩ hb hon hoff hsz hfr hall K hK_
      obtain ⟨v20, e20, q20⟩ := hall 20 _ 26 rfl rfl (by kernel_rfl)
      change v20 = ptr g at q20
      subst q20
      unfold ptr at e20
      rw [pos_at21 hb (hoff 23 (by kernel_rfl) (by kernel_rfl)) (hoff 25 (by kernel_rfl) (by kernel_rfl)) (hon 18 (by kernel_rfl) (by kernel_rfl))] at hI
      refine goes_ Tryd.func27 (by kernel_rfl) rfl #[.pointer (some ⟨g, 0, none⟩), .int .i64 24] (by rfl) rfl rfl (by first | (simp only [List.map_toArray, List.map_cons, List.map_nil, Act.eval, Array.getD_eq_getD_getElem?, Option.getD_some, e20]; done) | (simp only [List.map_toArray, List.map_cons, List.map_nil, Act.eval, Array.getD_eq_getD_getElem?, Option.getD_some, e20]; rfl)) ?_
      with_reducible refine (spec_l1Rd_below.calls g s p5 24 n6 p6 w0 _ hI hB A6.out).mono ?_
      rintro e w2 ⟨rfl, hi, hb2, hk⟩
      refine ⟨_, rfl, hK_.out _ _ (Le.keep hk) ⟨?_, hb2, KeepBut.trans hK hk (.inl rfl), hk.blk hG hgr (by simp), (fun h => absurd h (by rw [up_ne (by decide)]; rw [hoff 28 (by kernel_rfl) (by kernel_rfl)]; decide))⟩ (fun t ht => rfl)⟩
      rw [pos_to21 hb (hoff 23 (by kernel_rfl) (by kernel_rfl)) (hoff 25 (by kernel_rfl) (by kernel_rfl)) (hon 18 (by kernel_rfl) (by kernel_rfl))]
      exact hi
    refine steps_cons (i := 22) (weak_step (i := 22) rfl (by kernel_rfl) (fun j v W W' hl h => hv_le g w.heap.size w0 w n1 n2 n3 n4 n5 n6 n7 mk j v W W' hl h) ?_) ?_
    · rintro b a W ⟨hI, hB, hK, hG, hL⟩ hb hon hoff hsz hfr hall K hK_
      have e0 : a.tmps[0]? = some (ptr g) := (hfr 0 (no_dst (by kernel_rfl))).trans rfl
      unfold ptr at e0
      refine value_ (w1 := W) (v := ptr g) (by rfl) rfl ?_ ?_
      · clear hoff hon hall hfr hL hsz
        unfold ptr
        go_simp
      · refine hK_.out _ _ (Le.refl g W) ⟨?_, hB, hK, hG, (fun h => absurd h (by rw [up_ne (by decide)]; rw [hoff 28 (by kernel_rfl) (by kernel_rfl)]; decide))⟩ (fun t ht => rfl)
        rw [pos_up (i := 22) ⟨by decide, by decide, by decide, by decide, by decide, by decide, by decide, by decide⟩]
        exact hI
    refine steps_cons (i := 23) (weak_step (i := 23) rfl (by kernel_rfl) (fun j v W W' hl h => hv_le g w.heap.size w0 w n1 n2 n3 n4 n5 n6 n7 mk j v W W' hl h) ?_) ?_
    · rintro b a W ⟨hI, hB, hK, hG, hL⟩ hb hon hoff hsz hfr hall K hK_
      obtain ⟨v22, e22, q22⟩ := hall 22 _ 28 rfl rfl (by kernel_rfl)
      change v22 = ptr g at q22
      subst q22
      unfold ptr at e22
      rw [pos_at23 hb (hoff 25 (by kernel_rfl) (by kernel_rfl)) (hon 21 (by kernel_rfl) (by kernel_rfl))] at hI
      refine goes_ Tryd.func27 (by kernel_rfl) rfl #[.pointer (some ⟨g, 0, none⟩), .int .i64 60] (by rfl) rfl rfl (by first | (simp only [List.map_toArray, List.map_cons, List.map_nil, Act.eval, Array.getD_eq_getD_getElem?, Option.getD_some, e22]; done) | (simp only [List.map_toArray, List.map_cons, List.map_nil, Act.eval, Array.getD_eq_getD_getElem?, Option.getD_some, e22]; rfl)) ?_
      with_reducible refine (spec_l1Rd_below.calls g s p6 60 n7 p7 w0 _ hI hB A7.out).mono ?_
      rintro e w2 ⟨rfl, hi, hb2, hk⟩
      refine ⟨_, rfl, hK_.out _ _ (Le.keep hk) ⟨?_, hb2, KeepBut.trans hK hk (.inl rfl), hk.blk hG hgr (by simp), (fun h => absurd h (by rw [up_ne (by decide)]; rw [hoff 28 (by kernel_rfl) (by kernel_rfl)]; decide))⟩ (fun t ht => rfl)⟩
      rw [pos_to23 hb (hoff 25 (by kernel_rfl) (by kernel_rfl)) (hon 21 (by kernel_rfl) (by kernel_rfl))]
      exact hi
    refine steps_cons (i := 24) (weak_step (i := 24) rfl (by kernel_rfl) (fun j v W W' hl h => hv_le g w.heap.size w0 w n1 n2 n3 n4 n5 n6 n7 mk j v W W' hl h) ?_) ?_
    · rintro b a W ⟨hI, hB, hK, hG, hL⟩ hb hon hoff hsz hfr hall K hK_
      have e0 : a.tmps[0]? = some (ptr g) := (hfr 0 (no_dst (by kernel_rfl))).trans rfl
      unfold ptr at e0
      refine value_ (w1 := W) (v := ptr g) (by rfl) rfl ?_ ?_
      · clear hoff hon hall hfr hL hsz
        unfold ptr
        go_simp
      · refine hK_.out _ _ (Le.refl g W) ⟨?_, hB, hK, hG, (fun h => absurd h (by rw [up_ne (by decide)]; rw [hoff 28 (by kernel_rfl) (by kernel_rfl)]; decide))⟩ (fun t ht => rfl)
        rw [pos_up (i := 24) ⟨by decide, by decide, by decide, by decide, by decide, by decide, by decide, by decide⟩]
        exact hI
    refine steps_cons (i := 25) (weak_step (i := 25) rfl (by kernel_rfl) (fun j v W W' hl h => hv_le g w.heap.size w0 w n1 n2 n3 n4 n5 n6 n7 mk j v W W' hl h) ?_) ?_
    · rintro b a W ⟨hI, hB, hK, hG, hL⟩ hb hon hoff hsz hfr hall K hK_
      obtain ⟨v24, e24, q24⟩ := hall 24 _ 30 rfl rfl (by kernel_rfl)
      change v24 = ptr g at q24
      subst q24
      unfold ptr at e24
      rw [pos_at25 hb  (hon 23 (by kernel_rfl) (by kernel_rfl))] at hI
      refine goes_ Tryd.func37 (by kernel_rfl) rfl #[.pointer (some ⟨g, 0, none⟩)] (by rfl) rfl rfl (by first | (simp only [List.map_toArray, List.map_cons, List.map_nil, Act.eval, Array.getD_eq_getD_getElem?, Option.getD_some, e24]; done) | (simp only [List.map_toArray, List.map_cons, List.map_nil, Act.eval, Array.getD_eq_getD_getElem?, Option.getD_some, e24]; rfl)) ?_
      with_reducible refine (spec_l1Rd_mark.calls k g s p7 mk p8 w0 _ hI hB A8.out).mono ?_
      rintro e w2 ⟨rfl, hi, hb2, hk⟩
      refine ⟨_, rfl, hK_.out _ _ (Le.keep hk) ⟨?_, hb2, KeepBut.trans hK hk (.inl rfl), hk.blk hG hgr (by simp), (fun h => absurd h (by rw [up_ne (by decide)]; rw [hoff 28 (by kernel_rfl) (by kernel_rfl)]; decide))⟩ (fun t ht => rfl)⟩
      rw [pos_to25 hb  (hon 23 (by kernel_rfl) (by kernel_rfl))]
      exact hi
    refine steps_cons (i := 26) (weak_step (i := 26) rfl (by kernel_rfl) (fun j v W W' hl h => hv_le g w.heap.size w0 w n1 n2 n3 n4 n5 n6 n7 mk j v W W' hl h) ?_) ?_
    · rintro b a W ⟨hI, hB, hK, hG, hL⟩ hb hon hoff hsz hfr hall K hK_
      obtain ⟨v4, e4, q4⟩ := hall 4 _ 10 rfl rfl (by kernel_rfl)
      change v4 = .string (kinds.getD n1 ByteArray.empty) at q4
      obtain ⟨v9, e9, q9⟩ := hall 9 _ 15 rfl rfl (by kernel_rfl)
      change v9 = .string (areas.getD n2 ByteArray.empty) at q9
      obtain ⟨v11, e11, q11⟩ := hall 11 _ 17 rfl rfl (by kernel_rfl)
      change v11 = .int .i64 n3 at q11
      obtain ⟨v16, e16, q16⟩ := hall 16 _ 22 rfl rfl (by kernel_rfl)
      change v16 = .string (cents.getD n4 ByteArray.empty) at q16
      obtain ⟨v19, e19, q19⟩ := hall 19 _ 25 rfl rfl (by kernel_rfl)
      change v19 = .int .i64 (1 + n5) at q19
      obtain ⟨v21, e21, q21⟩ := hall 21 _ 27 rfl rfl (by kernel_rfl)
      change v21 = .int .i64 n6 at q21
      obtain ⟨v23, e23, q23⟩ := hall 23 _ 29 rfl rfl (by kernel_rfl)
      change v23 = .int .i64 n7 at q23
      obtain ⟨v25, e25, q25⟩ := hall 25 _ 31 rfl rfl (by kernel_rfl)
      change v25 = .string mk at q25
      subst q4 q9 q11 q16 q19 q21 q23 q25
      refine value_ (w1 := W) (v := .agg #[.string (kinds.getD n1 ByteArray.empty), .string (areas.getD n2 ByteArray.empty), .int .i64 n3, .string (cents.getD n4 ByteArray.empty), .int .i64 (1 + n5), .int .i64 n6, .int .i64 n7, .string mk]) (by rfl) rfl ?_ ?_
      · clear hoff hon hall hfr hL hsz
        go_simp
      · refine hK_.out _ _ (Le.refl g W) ⟨?_, hB, hK, hG, (fun h => absurd h (by rw [up_ne (by decide)]; rw [hoff 28 (by kernel_rfl) (by kernel_rfl)]; decide))⟩ (fun t ht => rfl)
        rw [pos_up (i := 26) ⟨by decide, by decide, by decide, by decide, by decide, by decide, by decide, by decide⟩]
        exact hI
    refine steps_cons (i := 27) (weak_step (i := 27) rfl (by kernel_rfl) (fun j v W W' hl h => hv_le g w.heap.size w0 w n1 n2 n3 n4 n5 n6 n7 mk j v W W' hl h) ?_) ?_
    · rintro b a W ⟨hI, hB, hK, hG, hL⟩ hb hon hoff hsz hfr hall K hK_
      refine value_ (w1 := W.alloc (.cells (hdCells U.Hd.nil) 23)) (v := ptr W.heap.size) (by rfl) rfl ?_ ?_
      · clear hoff hon hall hfr hL hsz
        unfold ptr hdCells U.Hd.nil
        go_simp
      · refine hK_.out _ _ (Le.keep (keep_alloc (KeepBut.refl W g none) _)) ⟨?_, below_alloc hB _, keep_alloc hK _, blk_alloc hG _, (fun h => absurd h (by rw [up_ne (by decide)]; rw [hoff 28 (by kernel_rfl) (by kernel_rfl)]; decide))⟩ (fun t ht => ⟨W.heap.size, rfl, by have := hI.lt; omega, by have := blk_lt hG; omega, hK.1, Nat.le_trans hle hK.1, _, _, _, _, _, _, _, _, blk_new W _⟩)
        rw [pos_up (i := 27) ⟨by decide, by decide, by decide, by decide, by decide, by decide, by decide, by decide⟩]
        exact hI.alloc _
    refine steps_cons (i := 28) (weak_step (i := 28) rfl (by kernel_rfl) (fun j v W W' hl h => hv_le g w.heap.size w0 w n1 n2 n3 n4 n5 n6 n7 mk j v W W' hl h) ?_) ?_
    · rintro b a W ⟨hI, hB, hK, hG, hL⟩ hb hon hoff hsz hfr hall K hK_
      obtain ⟨v26, e26, q26⟩ := hall 26 _ 32 rfl rfl (by kernel_rfl)
      change v26 = .agg #[.string (kinds.getD n1 ByteArray.empty), .string (areas.getD n2 ByteArray.empty), .int .i64 n3, .string (cents.getD n4 ByteArray.empty), .int .i64 (1 + n5), .int .i64 n6, .int .i64 n7, .string mk] at q26
      obtain ⟨v27, e27, q27⟩ := hall 27 _ 3 rfl rfl (by kernel_rfl)
      change Box g w.heap.size w0 w v27 W at q27
      subst q26
      obtain ⟨g3, rfl, h1, h2, h3, h4, u0, u1, u2, u3, u4, u5, u6, u7, h5⟩ := q27
      have e27' := e27
      unfold ptr at e27
      obtain ⟨x0, x1, x2, x3, x4, x5, x6, x7, xf⟩ := cells8 h5
      refine skip_ (w1 := ((((((((W.setCell ⟨g3, 0, none⟩ (.string (kinds.getD n1 ByteArray.empty))).setCell ⟨g3, 1, none⟩ (.string (areas.getD n2 ByteArray.empty))).setCell ⟨g3, 2, none⟩ (.int .i64 n3)).setCell ⟨g3, 3, none⟩ (.string (cents.getD n4 ByteArray.empty))).setCell ⟨g3, 4, none⟩ (.int .i64 (1 + n5))).setCell ⟨g3, 5, none⟩ (.int .i64 n6)).setCell ⟨g3, 6, none⟩ (.int .i64 n7)).setCell ⟨g3, 7, none⟩ (.string mk))) (by rfl) rfl ?_ ?_
      · clear hoff hon hall hfr hL hsz h5 e27'
        go_simp
      · have hle := Le.set8 (g := g) h5 (.string (kinds.getD n1 ByteArray.empty)) (.string (areas.getD n2 ByteArray.empty)) (.int .i64 n3) (.string (cents.getD n4 ByteArray.empty)) (.int .i64 (1 + n5)) (.int .i64 n6) (.int .i64 n7) (.string mk)
        refine hK_.out undef _ hle ⟨?_, ?_, ?_, ?_, fun _ => ⟨g3, e27', h1, h2, h3, h4, ?_⟩⟩ (fun t ht => by cases ht)
        · rw [pos_up (i := 28) ⟨by decide, by decide, by decide, by decide, by decide, by decide, by decide, by decide⟩]
          exact IsS59.far8 hI (fun e => h1 e.symm) _ _ _ _ _ _ _ _
        · exact below8w hB h4 _ _ _ _ _ _ _ _
        · exact keep8 hK h3 _ _ _ _ _ _ _ _
        · exact B.far8 hG (fun e => h2 e.symm) _ _ _ _ _ _ _ _
        · exact B.set8 h5 _ _ _ _ _ _ _ _
    exact steps_nil
  case fin =>
    intro b a W hall ⟨hI', hB', hK', hG', hL'⟩ hsz hdf hfr hv
    obtain ⟨g3, e3, h1, h2, h3, h4, hX⟩ := hL' (hall 28 (by decide))
    have hp : pos p0 p1 p2 p3 p4 p5 p6 p7 p8 b = p8 := by unfold pos; rw [hall 25 (by decide)]; rfl
    rw [hp] at hI'
    have e0 : a.tmps[0]? = some (ptr g) := (hfr 0 (no_dst (by kernel_rfl))).trans rfl
    have e2 : a.tmps[2]? = some (ptr w.heap.size) := (hfr 2 (no_dst (by kernel_rfl))).trans rfl
    obtain ⟨u, hu⟩ : ∃ u : Nat → Value, ∀ i, a.tmps.getD i undef = u i := ⟨fun i => a.tmps.getD i undef, fun _ => rfl⟩
    have s0 : u 0 = ptr g := by rw [← hu, Array.getD_eq_getD_getElem?, e0]; rfl
    have s2 : u 2 = ptr w.heap.size := by rw [← hu, Array.getD_eq_getD_getElem?, e2]; rfl
    have s3 : u 3 = ptr g3 := by rw [← hu, Array.getD_eq_getD_getElem?, e3]; rfl
    have ht : a.tmps = #[ptr g, u 1, ptr w.heap.size, ptr g3, u 4, u 5, u 6, u 7, u 8, u 9, u 10, u 11, u 12, u 13, u 14, u 15, u 16, u 17, u 18, u 19, u 20, u 21, u 22, u 23, u 24, u 25, u 26, u 27, u 28, u 29, u 30, u 31, u 32, u 33, u 34, u 35, u 36, u 37, u 38, u 39, u 40, u 41, u 42] := by
      rw [R.lit_of_size (hsz.trans (by rfl : _ = 43)), ← s0, ← s2, ← s3]
      simp only [hu]
      rfl
    have ha : a = ⟨#[ptr g, u 1, ptr w.heap.size, ptr g3, u 4, u 5, u 6, u 7, u 8, u 9, u 10, u 11, u 12, u 13, u 14, u 15, u 16, u 17, u 18, u 19, u 20, u 21, u 22, u 23, u 24, u 25, u 26, u 27, u 28, u 29, u 30, u 31, u 32, u 33, u 34, u 35, u 36, u 37, u 38, u 39, u 40, u 41, u 42], []⟩ := by
      cases a
      simp only at ht hdf
      rw [ht, hdf]
    subst ha
    clear ht hu s0 s2 s3 e0 e2 e3 hsz hdf hfr hv hall hL'
    have hI2 := Lib.hid hI'
    have hB2 := Lib.hid hB'
    have hK2 := Lib.hid hK'
    have HM := Lib.hid (fun W' : World => spec_MarkOf.calls k mk m1 m2 W' AM.out)
    obtain ⟨x0, x1, x2, x3, x4, x5, x6, x7, xf⟩ := cells8 hX
    obtain ⟨y0, y1, y2, y3, y4, y5, y6, y7, yf⟩ := cells8 hG'
    unfold ptr
    clear hI hB hI' hB' hK' A1 A2 A3 A4 A5 A6 A7 A8
    go_wp2_with fail
    refine (HM.out _).mono ?_
    rintro e w2 ⟨rfl, n2_, rfl⟩
    by_cases hm : m1 < 0
    · obtain rfl : (⟨#[67, 67, 65]⟩ : ByteArray) = mk' := by rw [← hmk'.out, if_pos hm]
      go_wp2_with fail
      all_goals exact head_ret rfl rfl (B.set8 (far_set (blk_drewN hG' _) (fun e => h2 e.symm) _) _ _ _ _ _ _ _ _) (IsS59.far8 ((hI2.out.drewN _).far (p := ⟨g3, 7, none⟩) (fun e => h1 e.symm) _) (by omega) _ _ _ _ _ _ _ _) (below8w (below_set (pw_below_drewN hB2.out _) h4) hle _ _ _ _ _ _ _ _) (keep8 (keep_far (p := ⟨g3, 7, none⟩) (keep_drewN hK2.out _) h3 _) (Nat.le_refl _) _ _ _ _ _ _ _ _)
    · obtain rfl : mk = mk' := by rw [← hmk'.out, if_neg hm]
      go_wp2_with fail
      all_goals exact head_ret rfl rfl (B.set8 (blk_drewN hG' _) _ _ _ _ _ _ _ _) (IsS59.far8 (hI2.out.drewN _) (by omega) _ _ _ _ _ _ _ _) (below8w (pw_below_drewN hB2.out _) hle _ _ _ _ _ _ _ _) (keep8 (keep_drewN hK2.out _) (Nat.le_refl _) _ _ _ _ _ _ _ _)
end Go.Proofs.YtfipjlcbnfcddaaDoor.F
