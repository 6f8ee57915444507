/-
  The walk of the program's ReadHeading.
-/
import Derived.Test.YtfipjlcbnfcddaaDoorA
namespace Go.Proofs.YtfipjlcbnfcddaaDoor.B
open Go Go.RowKit Go.Proofs.YtfipjlcbnfcddaaDoorW.PrintWords Go.Proofs.YtfipjlcbnfcddaaDoor.F A
set_option linter.unusedVariables false
set_option linter.unusedSimpArgs false

def hdVal (h : U.Hd) : Value := .agg #[.string h.kind, .string h.area, .int .i64 h.no, .string h.centre, .int .i64 h.day, .int .i64 h.hour, .int .i64 h.minute, .string h.mark]
theorem cap_any (s : ByteArray) (n : Int) (w : World) (hs : s.size ≤ 9223372036854775806) : Calls Tryd.prog 19 #[.string s, .int .i64 n] w fun e w' => e = .returned (.bool (U.capK s n)) ∧ Drawn0 w w' := capitals_any s n w hs
theorem dig_any (s : ByteArray) (w : World) (hs : s.size ≤ 9223372036854775806) : Calls Tryd.prog 20 #[.string s] w fun e w' => e = .returned (.bool (U.digK s)) ∧ Drawn0 w w' := digits_any s w hs
theorem cen_any (s : ByteArray) (w : World) : Calls Tryd.prog 22 #[.string s] w fun e w' => e = .returned (.bool (U.cenK s)) ∧ Drawn0 w w' := centreOk_any s w
theorem who_any (s : ByteArray) (w : World) (hd : U.digK s = true) (hn : s.size ≤ 18) : Calls Tryd.prog 21 #[.string s] w fun e w' => e = .returned (.int .i64 (U.numK s)) ∧ Below w.heap.size w w' := whole_any s w hd hn
theorem mrk_any (s : ByteArray) (w : World) (hs : s.size ≤ 9223372036854775806) : Calls Tryd.prog 24 #[.string s] w fun e w' => e = .returned (.tuple #[.int .i64 (U.markK s), .int .i64 (U.markN s)]) ∧ Below w.heap.size w w' := mark_any s w hs
def ReadPost (p : List ByteArray) (w : World) (e : Ending) (w' : World) : Prop := e = .returned (.tuple #[hdVal (U.readHead p).1, .int .i64 (U.readHead p).2]) ∧ Below w.heap.size w w'

theorem acell {w : World} {p : Addr} {v : Value} (h : w.cell? p = some v) (o : Obj) : (w.alloc o).cell? p = some v := (World.cell?_alloc_some w p o (by rw [h]; rfl)).trans h
theorem bcell {W w1 : World} (hb : Below W.heap.size W w1) : (∀ b o, b < W.heap.size → w1.cell? ⟨b, o, none⟩ = W.cell? ⟨b, o, none⟩) ∧ (∀ b o, b < W.heap.size → w1.frozen? ⟨b, o, none⟩ = W.frozen? ⟨b, o, none⟩) :=
  ⟨fun b o h => hb.cell (p := ⟨b, o, none⟩) h, fun b o h => hb.frozen (p := ⟨b, o, none⟩) h⟩
theorem bset {w W : World} {p : Addr} {v : Value} (hp : w.heap.size ≤ p.block) (h : Below w.heap.size w W) : Below w.heap.size w (W.setCell p v) := h.setCell hp v
theorem bset0 {w W : World} {i : Nat} {v : Value} (h : Below w.heap.size w W) : Below w.heap.size w (W.setCell ⟨w.heap.size, i, none⟩ v) := h.setCell (Nat.le_refl _) v
theorem ext_le {a : ByteArray} (i j : Nat) (h : a.size ≤ 1048576) : (a.extract i j).size ≤ 9223372036854775806 := by
  rw [ByteArray.size_extract]
  omega
theorem few {a : ByteArray} (h : a.size ≤ 1048576) : a.size ≤ 9223372036854775806 := by omega

def hdCells (h : U.Hd) : Array Value := #[.string h.kind, .string h.area, .int .i64 h.no, .string h.centre, .int .i64 h.day, .int .i64 h.hour, .int .i64 h.minute, .string h.mark]
/-- What memory holds from the heading's making on: the result's place, the pieces, the heading. -/
def Made (p : List ByteArray) (h : U.Hd) (g : Nat) (w w1 : World) : Prop :=
  w1.heap[w.heap.size]? = some (.cells (hdCells U.Hd.nil) 23 (0, 0)) ∧ w1.heap[w.heap.size + 1]? = some (.cells (p.map Value.string).toArray 9 (0, 0)) ∧ w1.heap[g]? = some (.cells (hdCells h) 23 (0, 0)) ∧ w.heap.size + 1 < g ∧ Below w.heap.size w w1
def headA (p : List ByteArray) : U.Hd := { U.head0 p with day := 0, hour := 0, minute := 0 }
/-- The two blocks that are made first. -/
def Two (p : List ByteArray) (w W : World) : Prop :=
  W.heap[w.heap.size]? = some (.cells (hdCells U.Hd.nil) 23 (0, 0)) ∧ W.heap[w.heap.size + 1]? = some (.cells (p.map Value.string).toArray 9 (0, 0)) ∧ W.heap.size = w.heap.size + 2 ∧ Below w.heap.size w W
theorem two_made (p : List ByteArray) (w : World) (n : Nat) : Two p w (((w.alloc (.cells (hdCells U.Hd.nil) 23)).alloc (.cells (p.map Value.string).toArray 9)).drewN n) := by
  refine ⟨?_, ?_, ?_, pw_below_drewN (below_alloc (below_alloc (Below.refl _ _) _) _) n⟩
  · exact blk_drewN (blk_alloc (blk_new w _) _) n
  · refine blk_drewN ?_ n
    have := blk_new (w.alloc (.cells (hdCells U.Hd.nil) 23)) (.cells (p.map Value.string).toArray 9)
    simpa using this
  · simp
theorem made_after {p : List ByteArray} {w W w1 : World} (h : Two p w W) (hb : Below W.heap.size W w1) (hd : U.Hd) : Made p hd w1.heap.size w (w1.alloc (.cells (hdCells hd) 23)) := by
  obtain ⟨h1, h2, h3, h4⟩ := h
  refine ⟨blk_alloc (blk_below h1 hb) _, blk_alloc (blk_below h2 hb) _, blk_new _ _, by have := hb.size; omega, below_alloc (below_then h4 (by omega) hb) _⟩
theorem set8 {W : World} {g : Nat} {u0 u1 u2 u3 u4 u5 u6 u7 : Value} (h : W.heap[g]? = some (.cells #[u0, u1, u2, u3, u4, u5, u6, u7] 23 (0, 0))) (v0 v1 v2 v3 v4 v5 v6 v7 : Value) :
    ((((((((W.setCell ⟨g, 0, none⟩ v0).setCell ⟨g, 1, none⟩ v1).setCell ⟨g, 2, none⟩ v2).setCell ⟨g, 3, none⟩ v3).setCell ⟨g, 4, none⟩ v4).setCell ⟨g, 5, none⟩ v5).setCell ⟨g, 6, none⟩ v6).setCell ⟨g, 7, none⟩ v7).heap[g]? = some (.cells #[v0, v1, v2, v3, v4, v5, v6, v7] 23 (0, 0)) := by
  have h' := blk_set (blk_set (blk_set (blk_set (blk_set (blk_set (blk_set (blk_set h 0 v0) 1 v1) 2 v2) 3 v3) 4 v4) 5 v5) 6 v6) 7 v7
  simp only [List.setIfInBounds_toArray, List.set_cons_zero, List.set_cons_succ] at h'
  exact h'
theorem far_set {W : World} {k g i : Nat} {o : Obj} (h : W.heap[k]? = some o) (hk : k ≠ g) (v : Value) : (W.setCell ⟨g, i, none⟩ v).heap[k]? = some o := (Below.heap_setCell W ⟨g, i, none⟩ v k hk).trans h
theorem far8 {W : World} {k g : Nat} {o : Obj} (h : W.heap[k]? = some o) (hk : k ≠ g) (v0 v1 v2 v3 v4 v5 v6 v7 : Value) : ((((((((W.setCell ⟨g, 0, none⟩ v0).setCell ⟨g, 1, none⟩ v1).setCell ⟨g, 2, none⟩ v2).setCell ⟨g, 3, none⟩ v3).setCell ⟨g, 4, none⟩ v4).setCell ⟨g, 5, none⟩ v5).setCell ⟨g, 6, none⟩ v6).setCell ⟨g, 7, none⟩ v7).heap[k]? = some o :=
  far_set (far_set (far_set (far_set (far_set (far_set (far_set (far_set h hk v0) hk v1) hk v2) hk v3) hk v4) hk v5) hk v6) hk v7
theorem below8 {w W : World} {g : Nat} (h : Below w.heap.size w W) (hk : w.heap.size ≤ g) (v0 v1 v2 v3 v4 v5 v6 v7 : Value) : Below w.heap.size w ((((((((W.setCell ⟨g, 0, none⟩ v0).setCell ⟨g, 1, none⟩ v1).setCell ⟨g, 2, none⟩ v2).setCell ⟨g, 3, none⟩ v3).setCell ⟨g, 4, none⟩ v4).setCell ⟨g, 5, none⟩ v5).setCell ⟨g, 6, none⟩ v6).setCell ⟨g, 7, none⟩ v7) :=
  bset hk (bset hk (bset hk (bset hk (bset hk (bset hk (bset hk (bset hk h)))))))
theorem made_before {p : List ByteArray} {w W w1 : World} (h : Two p w W) (hb : Below (W.alloc (.cells (hdCells U.Hd.nil) 23)).heap.size (W.alloc (.cells (hdCells U.Hd.nil) 23)) w1) (hd : U.Hd) (g : Nat) (hg : g = w.heap.size + 2) : Made p hd g w
    ((((((((w1.setCell ⟨g, 0, none⟩ (.string hd.kind)).setCell ⟨g, 1, none⟩ (.string hd.area)).setCell ⟨g, 2, none⟩ (.int .i64 hd.no)).setCell ⟨g, 3, none⟩ (.string hd.centre)).setCell ⟨g, 4, none⟩ (.int .i64 hd.day)).setCell ⟨g, 5, none⟩ (.int .i64 hd.hour)).setCell ⟨g, 6, none⟩ (.int .i64 hd.minute)).setCell ⟨g, 7, none⟩ (.string hd.mark)) := by
  obtain ⟨h1, h2, h3, h4⟩ := h
  have g1 := blk_below (blk_alloc h1 _) hb
  have g2 := blk_below (blk_alloc h2 _) hb
  have g3 := blk_below (blk_new W (.cells (hdCells U.Hd.nil) 23)) hb
  rw [h3, ← hg] at g3
  have h5 := below_then (below_alloc h4 _) (by simp; omega) hb
  exact ⟨far8 g1 (by omega) _ _ _ _ _ _ _ _, far8 g2 (by omega) _ _ _ _ _ _ _ _, set8 g3 _ _ _ _ _ _ _ _, by omega, below8 h5 (by omega) _ _ _ _ _ _ _ _⟩
theorem cells8 {w : World} {g : Nat} {v0 v1 v2 v3 v4 v5 v6 v7 : Value} (h : w.heap[g]? = some (.cells #[v0, v1, v2, v3, v4, v5, v6, v7] 23 (0, 0))) :
    w.cell? ⟨g, 0, none⟩ = some v0 ∧ w.cell? ⟨g, 1, none⟩ = some v1 ∧ w.cell? ⟨g, 2, none⟩ = some v2 ∧ w.cell? ⟨g, 3, none⟩ = some v3 ∧ w.cell? ⟨g, 4, none⟩ = some v4 ∧ w.cell? ⟨g, 5, none⟩ = some v5 ∧ w.cell? ⟨g, 6, none⟩ = some v6 ∧ w.cell? ⟨g, 7, none⟩ = some v7 ∧ ∀ i, w.frozen? ⟨g, i, none⟩ = false :=
  ⟨blk_cell h 0, blk_cell h 1, blk_cell h 2, blk_cell h 3, blk_cell h 4, blk_cell h 5, blk_cell h 6, blk_cell h 7, fun i => blk_frozen h i⟩
/-- Three cells and their marks behind a call. -/
theorem keep3 {W w1 : World} {g : Nat} (hb : Below W.heap.size W w1) (hg : g < W.heap.size) {x y z : Value} (h : W.cell? ⟨g, 4, none⟩ = some x ∧ W.cell? ⟨g, 5, none⟩ = some y ∧ W.cell? ⟨g, 6, none⟩ = some z ∧ W.frozen? ⟨g, 4, none⟩ = false ∧ W.frozen? ⟨g, 5, none⟩ = false ∧ W.frozen? ⟨g, 6, none⟩ = false) :
    (w1.cell? ⟨g, 4, none⟩ = some x ∧ w1.cell? ⟨g, 5, none⟩ = some y ∧ w1.cell? ⟨g, 6, none⟩ = some z ∧ w1.frozen? ⟨g, 4, none⟩ = false ∧ w1.frozen? ⟨g, 5, none⟩ = false ∧ w1.frozen? ⟨g, 6, none⟩ = false) ∧ g < w1.heap.size :=
  ⟨⟨pw_cell_below hb h.1, pw_cell_below hb h.2.1, pw_cell_below hb h.2.2.1, (hb.frozen (p := ⟨g, 4, none⟩) hg).trans h.2.2.2.1, (hb.frozen (p := ⟨g, 5, none⟩) hg).trans h.2.2.2.2.1, (hb.frozen (p := ⟨g, 6, none⟩) hg).trans h.2.2.2.2.2⟩, Nat.lt_of_lt_of_le hg hb.size⟩
theorem scell {w : World} {k g i j : Nat} {u v : Value} (hne : k ≠ g) (h : w.cell? ⟨k, j, none⟩ = some u) : (w.setCell ⟨g, i, none⟩ v).cell? ⟨k, j, none⟩ = some u :=
  (World.cell?_setCell_other w ⟨g, i, none⟩ ⟨k, j, none⟩ v (fun e => hne (congrArg Addr.block e).symm)).trans h
theorem in_any (n lo hi : Int) (w : World) : Calls Tryd.prog 23 #[.int .i64 n, .int .i64 lo, .int .i64 hi] w fun e w' => e = .returned (.bool (U.inB n lo hi)) ∧ Drawn0 w w' := by
  refine impl_in.calls n lo hi _ w ?_
  unfold impl_in.f U.inB
  by_cases h : n ≥ lo
  · rw [if_pos h]
    congr 1
    exact decide_eq_decide.2 (by omega)
  · rw [if_neg h, decide_eq_false (by omega)]
theorem made3 {p : List ByteArray} {hd : U.Hd} {g : Nat} {w W w1 w2 w3 : World} (h : Made p hd g w W) (b1 : Below W.heap.size W w1) (b2 : Below w1.heap.size w1 w2) (b3 : Below w2.heap.size w2 w3) (x y z : Int) :
    Made p { hd with day := x, hour := y, minute := z } g w (((w3.setCell ⟨g, 4, none⟩ (.int .i64 x)).setCell ⟨g, 5, none⟩ (.int .i64 y)).setCell ⟨g, 6, none⟩ (.int .i64 z)) := by
  obtain ⟨h1, h2, h3, h4, h5⟩ := h
  have l1 := b1.size
  have l2 := b2.size
  have l0 := h5.size
  have i1 := blk_below (blk_below (blk_below h1 b1) b2) b3
  have i2 := blk_below (blk_below (blk_below h2 b1) b2) b3
  have i3 := blk_set (blk_set (blk_set (blk_below (blk_below (blk_below h3 b1) b2) b3) 4 (.int .i64 x)) 5 (.int .i64 y)) 6 (.int .i64 z)
  refine ⟨far_set (far_set (far_set i1 (by omega) _) (by omega) _) (by omega) _, far_set (far_set (far_set i2 (by omega) _) (by omega) _) (by omega) _, ?_, h4, bset (show w.heap.size ≤ g by omega) (bset (show w.heap.size ≤ g by omega) (bset (show w.heap.size ≤ g by omega) (below_then (below_then (below_then h5 l0 b1) (by omega) b2) (by omega) b3)))⟩
  simp only [hdCells, List.setIfInBounds_toArray, List.set_cons_zero, List.set_cons_succ] at i3
  exact i3
theorem new0 (w : World) (C : Array Value) : ((w.alloc (.cells #[.string ⟨#[]⟩, .string ⟨#[]⟩, .int .i64 0, .string ⟨#[]⟩, .int .i64 0, .int .i64 0, .int .i64 0, .string ⟨#[]⟩] 23)).alloc (.cells C 9)).heap[w.heap.size]? = some (.cells #[.string ⟨#[]⟩, .string ⟨#[]⟩, .int .i64 0, .string ⟨#[]⟩, .int .i64 0, .int .i64 0, .int .i64 0, .string ⟨#[]⟩] 23 (0, 0)) := blk_alloc (blk_new w _) _
theorem made_mark {p : List ByteArray} {hd : U.Hd} {g : Nat} {w W w4 : World} (h : Made p hd g w W) (d : ByteArray) (b : Below (W.setCell ⟨g, 7, none⟩ (.string d)).heap.size (W.setCell ⟨g, 7, none⟩ (.string d)) w4) : Made p { hd with mark := d } g w w4 := by
  obtain ⟨h1, h2, h3, h4, h5⟩ := h
  have l0 := h5.size
  have i3 := blk_set h3 7 (.string d)
  simp only [hdCells, List.setIfInBounds_toArray, List.set_cons_zero, List.set_cons_succ] at i3
  exact ⟨blk_below (far_set h1 (by omega) _) b, blk_below (far_set h2 (by omega) _) b, blk_below i3 b, h4, below_then (bset (show w.heap.size ≤ g by omega) h5) (bset (show w.heap.size ≤ g by omega) h5).size b⟩
theorem post_of {p : List ByteArray} {w w' : World} {h : U.Hd} {n : Int} (hr : U.readHead p = (h, n)) (hb : Below w.heap.size w w') : ReadPost p w (.returned (.tuple #[hdVal h, .int .i64 n])) w' := by
  unfold ReadPost
  rw [hr]
  exact ⟨rfl, hb⟩

theorem ret_post {p : List ByteArray} {w w' : World} {a : Act} {h : U.Hd} {n : Int} (hr : U.readHead p = (h, n)) (hb : Below w.heap.size w w') (h2 : a.tmps.getD 2 undef = .pointer (some ⟨w.heap.size, 0, none⟩)) (h3 : a.tmps.getD 3 undef = .int .i64 n) (hd : a.defers = [])
    (hg : w'.heap[w.heap.size]? = some (.cells (hdCells h) 23 (0, 0))) : bodyPost Tryd.prog Tryd.f6 (ReadPost p w) Exit.ret a w' := by
  have hres := results_ct (P := Tryd.prog) (fn := Tryd.f6) (p := 2) (u := 3) (ty := 23) rfl a.tmps w' w.heap.size 23 (hdCells h) (0, 0) _ h2 hg Tryd.underlying23 rfl (by kernel_rfl)
  rw [h3] at hres
  exact bodyPost_ret hres hd (post_of hr hb)

end Go.Proofs.YtfipjlcbnfcddaaDoor.B
