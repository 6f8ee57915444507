/-
  The walk of the law FnHeadings.
-/
import Derived.Test.YtfipjlcbnfcddaaDoorP
import Derived.Test.YtfipjlcbnfcddaaDoorQ
import Derived.Test.YtfipjlcbnfcddaaDoorB5
import Derived.Test.YtfipjlcbnfcddaaDoorD5
namespace Go.Proofs.YtfipjlcbnfcddaaDoor.Y4
open Go Go.RowKit Go.Proofs.YtfipjlcbnfcddaaDoorW.PrintWords Go.Proofs.YtfipjlcbnfcddaaDoor.F
open Go.Proofs.YtfipjlcbnfcddaaDoor.B (hdVal hdCells cells8 acell)
set_option linter.unusedVariables false
set_option linter.unusedSimpArgs false
theorem big_any (A0 : Option Addr) (c0 : Nat) (l : List Int) (w : World) (hr0 : Kd.C (Kd.int .u8) w A0 l.length l) (hc0 : l.length ≤ c0) (b : Bool) (hb : decide ((l.length : Int) > 1048576) = b) :
    Calls Tryd.prog 8 #[.slice A0 l.length c0] w fun e w' => e = .returned (.bool b) ∧ Drawn0 w w' :=
  laws_big.calls A0 c0 l b w hr0 hc0 (by unfold laws_big.f; rw [hb])
set_option maxRecDepth 100000 in
set_option maxHeartbeats 1600000 in
theorem law_big1 (A0 : Option Addr) (c0 : Nat) (l : List Int) (B0 : Option Addr) (d0 : Nat) (q : List Int) (w : World) (hr0 : Kd.C (Kd.int .u8) w A0 l.length l) (hc0 : l.length ≤ c0) (h : ¬ l.length ≤ 1048576) :
    Calls Tryd.prog 4 #[.slice A0 l.length c0, .slice B0 q.length d0] w fun e w' => e = .returned (.bool true) ∧ Below w.heap.size w w' := by
  have HB := Lib.hid (big_any A0 c0 l w hr0 hc0 true (decide_eq_true (by omega)))
  clear hr0 hc0 h
  go_enter Tryd.func4, Tryd.ntmps4
  go_wp2_with fail
  refine HB.out.mono ?_
  rintro e w1 ⟨rfl, n1, rfl⟩
  go_wp2_with fail
  go_ret
  exact ⟨rfl, pw_below_drewN (Below.refl _ _) _⟩
set_option maxRecDepth 100000 in
set_option maxHeartbeats 1600000 in
theorem law_big2 (A0 : Option Addr) (c0 : Nat) (l : List Int) (B0 : Option Addr) (d0 : Nat) (q : List Int) (w : World) (hr0 : Kd.C (Kd.int .u8) w A0 l.length l) (hc0 : l.length ≤ c0) (hl : l.length ≤ 1048576) (hs0 : Kd.C (Kd.int .u8) w B0 q.length q) (hd0 : q.length ≤ d0) (h : ¬ q.length ≤ 1048576) :
    Calls Tryd.prog 4 #[.slice A0 l.length c0, .slice B0 q.length d0] w fun e w' => e = .returned (.bool true) ∧ Below w.heap.size w w' := by
  have HB := Lib.hid (big_any A0 c0 l w hr0 hc0 false (decide_eq_false (by omega)))
  have HB2 := Lib.hid (fun n : Nat => big_any B0 d0 q (w.drewN n) (Kd.C_drewN hs0 n) hd0 true (decide_eq_true (by omega)))
  clear hr0 hc0 hs0 hd0 h hl
  go_enter Tryd.func4, Tryd.ntmps4
  go_wp2_with fail
  refine HB.out.mono ?_
  rintro e w1 ⟨rfl, n1, rfl⟩
  go_wp2_with fail
  refine (HB2.out _).mono ?_
  rintro e w2 ⟨rfl, n2, rfl⟩
  go_wp2_with fail
  go_ret
  exact ⟨rfl, pw_below_drewN (Below.refl _ _) _⟩
/-! ### the walks -/
theorem below_al {w W W' : World} (h : Below w.heap.size w W) (o : Obj) (hb : Below (W.alloc o).heap.size (W.alloc o) W') : Below w.heap.size w W' :=
  below_then (below_alloc h o) (by have := h.size; rw [World.size_alloc]; omega) hb
theorem below_tr {w W W' : World} (h : Below w.heap.size w W) (hb : Below W.heap.size W W') : Below w.heap.size w W' := below_then h h.size hb
set_option maxRecDepth 100000 in
set_option maxHeartbeats 3200000 in
theorem law_yy (A0 : Option Addr) (c0 : Nat) (l : List Int) (B0 : Option Addr) (d0 : Nat) (q : List Int) (w : World) (m : Int) (hm : w.cell? ⟨0, 0, none⟩ = some (.int .i64 m)) (hr0 : Kd.C (Kd.int .u8) w A0 l.length l) (hc0 : l.length ≤ c0) (hl : l.length ≤ 1048576) (hs0 : Kd.C (Kd.int .u8) w B0 q.length q) (hd0 : q.length ≤ d0) (hq : q.length ≤ 1048576)
    (g0 g1 : ByteArray) (g2 : Int) (g3 : ByteArray) (g4 g5 g6 : Int) (g7 : ByteArray) (t L : ByteArray) (p0 p1 : ByteArray) (p2 : Int) (p3 : ByteArray) (p4 p5 p6 : Int) (p7 : ByteArray)
    (h9 : ∀ W : World, Kd.C (Kd.int .u8) W A0 l.length l → Calls Tryd.prog 9 #[.slice A0 l.length c0] W fun e w' => e = .returned (.agg #[.string g0, .string g1, .int .i64 g2, .string g3, .int .i64 g4, .int .i64 g5, .int .i64 g6, .string g7]) ∧ Below W.heap.size W w')
    (h10 : ∀ W : World, Calls Tryd.prog 10 #[.agg #[.string g0, .string g1, .int .i64 g2, .string g3, .int .i64 g4, .int .i64 g5, .int .i64 g6, .string g7]] W fun e w' => e = .returned (.tuple #[.string t, .bool true]) ∧ Below W.heap.size W w')
    (h11 : ∀ W : World, Calls Tryd.prog 11 #[.agg #[.string g0, .string g1, .int .i64 g2, .string g3, .int .i64 g4, .int .i64 g5, .int .i64 g6, .string g7]] W fun e w' => e = .returned (.tuple #[.string t, .bool true]) ∧ Below W.heap.size W w')
    (h6 : ∀ W : World, W.cell? ⟨0, 0, none⟩ = some (.int .i64 m) → Calls Tryd.prog 6 #[.string t] W fun e w' => e = .returned (.tuple #[.agg #[.string g0, .string g1, .int .i64 g2, .string g3, .int .i64 g4, .int .i64 g5, .int .i64 g6, .string g7], .int .i64 0]) ∧ Below W.heap.size W w')
    (h12 : ∀ W : World, Kd.C (Kd.int .u8) W B0 q.length q → Calls Tryd.prog 12 #[.slice B0 q.length d0] W fun e w' => e = .returned (.string L) ∧ Below W.heap.size W w')
    (h5 : ∀ W : World, Calls Tryd.prog 5 #[.string L] W fun e w' => e = .returned (.tuple #[.agg #[.string p0, .string p1, .int .i64 p2, .string p3, .int .i64 p4, .int .i64 p5, .int .i64 p6, .string p7], .int .i64 0]) ∧ Below W.heap.size W w')
    (h6' : ∀ W : World, W.cell? ⟨0, 0, none⟩ = some (.int .i64 m) → Calls Tryd.prog 6 #[.string L] W fun e w' => e = .returned (.tuple #[.agg #[.string p0, .string p1, .int .i64 p2, .string p3, .int .i64 p4, .int .i64 p5, .int .i64 p6, .string p7], .int .i64 0]) ∧ Below W.heap.size W w')
    (h11' : ∀ W : World, Calls Tryd.prog 11 #[.agg #[.string p0, .string p1, .int .i64 p2, .string p3, .int .i64 p4, .int .i64 p5, .int .i64 p6, .string p7]] W fun e w' => e = .returned (.tuple #[.string L, .bool true]) ∧ Below W.heap.size W w')
    : Calls Tryd.prog 4 #[.slice A0 l.length c0, .slice B0 q.length d0] w fun e w' => e = .returned (.bool true) ∧ Below w.heap.size w w' := by
  have HB := Lib.hid (big_any A0 c0 l w hr0 hc0 false (decide_eq_false (by omega)))
  have HB2 := Lib.hid (fun n : Nat => big_any B0 d0 q (w.drewN n) (Kd.C_drewN hs0 n) hd0 false (decide_eq_false (by omega)))
  have H9 := Lib.hid (fun n : Nat => h9 (w.drewN n) (Kd.C_drewN hr0 n))
  have H10 := Lib.hid h10
  have H11 := Lib.hid h11
  have H6 := Lib.hid h6
  have H12 := Lib.hid h12
  have H5 := Lib.hid h5
  have H6l := Lib.hid h6'
  have H11l := Lib.hid h11'
  have HM := Lib.hid hm
  have HS := Lib.hid hs0
  clear hm hr0 hc0 hl hs0 hd0 hq h9 h10 h11 h6 h12 h5 h6' h11'
  go_enter Tryd.func4, Tryd.ntmps4
  go_wp2_with fail
  refine HB.out.mono ?_
  rintro e w1 ⟨rfl, n1, rfl⟩
  go_wp2_with fail
  refine (HB2.out _).mono ?_
  rintro e w1 ⟨rfl, n2, rfl⟩
  go_wp2_with fail
  refine (H9.out _).mono ?_
  rintro e w2 ⟨rfl, hb2⟩
  have hB : Below w.heap.size w w2 := below_then (pw_below_drewN (Below.refl _ w) _) (Nat.le_refl _) hb2
  have hX := blk_new w2 (.cells #[.string g0, .string g1, .int .i64 g2, .string g3, .int .i64 g4, .int .i64 g5, .int .i64 g6, .string g7] 23)
  obtain ⟨x0, x1, x2, x3, x4, x5, x6, x7, xf⟩ := cells8 hX
  have HB2 := Lib.hid hB
  have HX2 := Lib.hid hX
  clear hB hX hb2
  go_wp2_with fail
  refine (H10.out _).mono ?_
  rintro e w3 ⟨rfl, hb3⟩
  clear x0 x1 x2 x3 x4 x5 x6 x7 xf
  have hX := blk_below HX2.out hb3
  obtain ⟨x0, x1, x2, x3, x4, x5, x6, x7, xf⟩ := cells8 hX
  have HB3 := Lib.hid (below_al HB2.out _ hb3)
  have HX3 := Lib.hid hX
  clear hX hb3
  go_wp2_with fail
  refine (H11.out _).mono ?_
  rintro e w4 ⟨rfl, hb4⟩
  clear x0 x1 x2 x3 x4 x5 x6 x7 xf
  have HB4 := Lib.hid (below_tr HB3.out hb4)
  have HX4 := Lib.hid (blk_below HX3.out hb4)
  clear hb4
  go_wp2_with fail
  refine (H6.out _ (pw_cell_below HB4.out HM.out)).mono ?_
  rintro e w5 ⟨rfl, hb5⟩
  have hX := blk_alloc (blk_below HX4.out hb5) (.cells #[.string g0, .string g1, .int .i64 g2, .string g3, .int .i64 g4, .int .i64 g5, .int .i64 g6, .string g7] 23)
  have hY := blk_new w5 (.cells #[.string g0, .string g1, .int .i64 g2, .string g3, .int .i64 g4, .int .i64 g5, .int .i64 g6, .string g7] 23)
  obtain ⟨x0, x1, x2, x3, x4, x5, x6, x7, xf⟩ := cells8 hX
  obtain ⟨y0, y1, y2, y3, y4, y5, y6, y7, yf⟩ := cells8 hY
  have HB5 := Lib.hid (below_alloc (below_tr HB4.out hb5) (.cells #[.string g0, .string g1, .int .i64 g2, .string g3, .int .i64 g4, .int .i64 g5, .int .i64 g6, .string g7] 23))
  clear hb5 hX hY
  go_wp2_with fail
  clear x0 x1 x2 x3 x4 x5 x6 x7 xf y0 y1 y2 y3 y4 y5 y6 y7 yf
  refine (H12.out _ (Kd.C_below HS.out HB5.out)).mono ?_
  rintro e w6 ⟨rfl, hb6⟩
  have HB6 := Lib.hid (below_tr HB5.out hb6)
  clear hb6
  go_wp2_with fail
  refine (H5.out _).mono ?_
  rintro e w7 ⟨rfl, hb7⟩
  have HB7 := Lib.hid (below_alloc (below_tr HB6.out hb7) (.cells #[.string p0, .string p1, .int .i64 p2, .string p3, .int .i64 p4, .int .i64 p5, .int .i64 p6, .string p7] 23))
  clear hb7
  go_wp2_with fail
  refine (H6l.out _ (pw_cell_below HB7.out HM.out)).mono ?_
  rintro e w8 ⟨rfl, hb8⟩
  have hX := blk_new w8 (.cells #[.string p0, .string p1, .int .i64 p2, .string p3, .int .i64 p4, .int .i64 p5, .int .i64 p6, .string p7] 23)
  obtain ⟨x0, x1, x2, x3, x4, x5, x6, x7, xf⟩ := cells8 hX
  have HB8 := Lib.hid (below_alloc (below_tr HB7.out hb8) (.cells #[.string p0, .string p1, .int .i64 p2, .string p3, .int .i64 p4, .int .i64 p5, .int .i64 p6, .string p7] 23))
  clear hb8 hX
  go_wp2_with fail
  refine (H11l.out _).mono ?_
  rintro e w9 ⟨rfl, hb9⟩
  have HB9 := Lib.hid (below_tr HB8.out hb9)
  clear hb9 x0 x1 x2 x3 x4 x5 x6 x7 xf
  go_wp2_with fail
  go_ret
  exact ⟨rfl, HB9.out⟩
set_option maxRecDepth 100000 in
set_option maxHeartbeats 3200000 in
theorem law_yn (A0 : Option Addr) (c0 : Nat) (l : List Int) (B0 : Option Addr) (d0 : Nat) (q : List Int) (w : World) (m : Int) (hm : w.cell? ⟨0, 0, none⟩ = some (.int .i64 m)) (hr0 : Kd.C (Kd.int .u8) w A0 l.length l) (hc0 : l.length ≤ c0) (hl : l.length ≤ 1048576) (hs0 : Kd.C (Kd.int .u8) w B0 q.length q) (hd0 : q.length ≤ d0) (hq : q.length ≤ 1048576)
    (g0 g1 : ByteArray) (g2 : Int) (g3 : ByteArray) (g4 g5 g6 : Int) (g7 : ByteArray) (t L : ByteArray) (n : Int) (hn : n ≠ 0)
    (h9 : ∀ W : World, Kd.C (Kd.int .u8) W A0 l.length l → Calls Tryd.prog 9 #[.slice A0 l.length c0] W fun e w' => e = .returned (.agg #[.string g0, .string g1, .int .i64 g2, .string g3, .int .i64 g4, .int .i64 g5, .int .i64 g6, .string g7]) ∧ Below W.heap.size W w')
    (h10 : ∀ W : World, Calls Tryd.prog 10 #[.agg #[.string g0, .string g1, .int .i64 g2, .string g3, .int .i64 g4, .int .i64 g5, .int .i64 g6, .string g7]] W fun e w' => e = .returned (.tuple #[.string t, .bool true]) ∧ Below W.heap.size W w')
    (h11 : ∀ W : World, Calls Tryd.prog 11 #[.agg #[.string g0, .string g1, .int .i64 g2, .string g3, .int .i64 g4, .int .i64 g5, .int .i64 g6, .string g7]] W fun e w' => e = .returned (.tuple #[.string t, .bool true]) ∧ Below W.heap.size W w')
    (h6 : ∀ W : World, W.cell? ⟨0, 0, none⟩ = some (.int .i64 m) → Calls Tryd.prog 6 #[.string t] W fun e w' => e = .returned (.tuple #[.agg #[.string g0, .string g1, .int .i64 g2, .string g3, .int .i64 g4, .int .i64 g5, .int .i64 g6, .string g7], .int .i64 0]) ∧ Below W.heap.size W w')
    (h12 : ∀ W : World, Kd.C (Kd.int .u8) W B0 q.length q → Calls Tryd.prog 12 #[.slice B0 q.length d0] W fun e w' => e = .returned (.string L) ∧ Below W.heap.size W w')
    (h5 : ∀ W : World, Calls Tryd.prog 5 #[.string L] W fun e w' => e = .returned (.tuple #[.agg #[.string ⟨#[]⟩, .string ⟨#[]⟩, .int .i64 0, .string ⟨#[]⟩, .int .i64 0, .int .i64 0, .int .i64 0, .string ⟨#[]⟩], .int .i64 n]) ∧ Below W.heap.size W w')
    (h6' : ∀ W : World, W.cell? ⟨0, 0, none⟩ = some (.int .i64 m) → Calls Tryd.prog 6 #[.string L] W fun e w' => e = .returned (.tuple #[.agg #[.string ⟨#[]⟩, .string ⟨#[]⟩, .int .i64 0, .string ⟨#[]⟩, .int .i64 0, .int .i64 0, .int .i64 0, .string ⟨#[]⟩], .int .i64 n]) ∧ Below W.heap.size W w')
    : Calls Tryd.prog 4 #[.slice A0 l.length c0, .slice B0 q.length d0] w fun e w' => e = .returned (.bool true) ∧ Below w.heap.size w w' := by
  have HB := Lib.hid (big_any A0 c0 l w hr0 hc0 false (decide_eq_false (by omega)))
  have HB2 := Lib.hid (fun n : Nat => big_any B0 d0 q (w.drewN n) (Kd.C_drewN hs0 n) hd0 false (decide_eq_false (by omega)))
  have H9 := Lib.hid (fun n : Nat => h9 (w.drewN n) (Kd.C_drewN hr0 n))
  have H10 := Lib.hid h10
  have H11 := Lib.hid h11
  have H6 := Lib.hid h6
  have H12 := Lib.hid h12
  have H5 := Lib.hid h5
  have H6l := Lib.hid h6'
  have HM := Lib.hid hm
  have HS := Lib.hid hs0
  clear hm hr0 hc0 hl hs0 hd0 hq h9 h10 h11 h6 h12 h5 h6' 
  go_enter Tryd.func4, Tryd.ntmps4
  go_wp2_with fail
  refine HB.out.mono ?_
  rintro e w1 ⟨rfl, n1, rfl⟩
  go_wp2_with fail
  refine (HB2.out _).mono ?_
  rintro e w1 ⟨rfl, n2, rfl⟩
  go_wp2_with fail
  refine (H9.out _).mono ?_
  rintro e w2 ⟨rfl, hb2⟩
  have hB : Below w.heap.size w w2 := below_then (pw_below_drewN (Below.refl _ w) _) (Nat.le_refl _) hb2
  have hX := blk_new w2 (.cells #[.string g0, .string g1, .int .i64 g2, .string g3, .int .i64 g4, .int .i64 g5, .int .i64 g6, .string g7] 23)
  obtain ⟨x0, x1, x2, x3, x4, x5, x6, x7, xf⟩ := cells8 hX
  have HB2 := Lib.hid hB
  have HX2 := Lib.hid hX
  clear hB hX hb2
  go_wp2_with fail
  refine (H10.out _).mono ?_
  rintro e w3 ⟨rfl, hb3⟩
  clear x0 x1 x2 x3 x4 x5 x6 x7 xf
  have hX := blk_below HX2.out hb3
  obtain ⟨x0, x1, x2, x3, x4, x5, x6, x7, xf⟩ := cells8 hX
  have HB3 := Lib.hid (below_al HB2.out _ hb3)
  have HX3 := Lib.hid hX
  clear hX hb3
  go_wp2_with fail
  refine (H11.out _).mono ?_
  rintro e w4 ⟨rfl, hb4⟩
  clear x0 x1 x2 x3 x4 x5 x6 x7 xf
  have HB4 := Lib.hid (below_tr HB3.out hb4)
  have HX4 := Lib.hid (blk_below HX3.out hb4)
  clear hb4
  go_wp2_with fail
  refine (H6.out _ (pw_cell_below HB4.out HM.out)).mono ?_
  rintro e w5 ⟨rfl, hb5⟩
  have hX := blk_alloc (blk_below HX4.out hb5) (.cells #[.string g0, .string g1, .int .i64 g2, .string g3, .int .i64 g4, .int .i64 g5, .int .i64 g6, .string g7] 23)
  have hY := blk_new w5 (.cells #[.string g0, .string g1, .int .i64 g2, .string g3, .int .i64 g4, .int .i64 g5, .int .i64 g6, .string g7] 23)
  obtain ⟨x0, x1, x2, x3, x4, x5, x6, x7, xf⟩ := cells8 hX
  obtain ⟨y0, y1, y2, y3, y4, y5, y6, y7, yf⟩ := cells8 hY
  have HB5 := Lib.hid (below_alloc (below_tr HB4.out hb5) (.cells #[.string g0, .string g1, .int .i64 g2, .string g3, .int .i64 g4, .int .i64 g5, .int .i64 g6, .string g7] 23))
  clear hb5 hX hY
  go_wp2_with fail
  clear x0 x1 x2 x3 x4 x5 x6 x7 xf y0 y1 y2 y3 y4 y5 y6 y7 yf
  refine (H12.out _ (Kd.C_below HS.out HB5.out)).mono ?_
  rintro e w6 ⟨rfl, hb6⟩
  have HB6 := Lib.hid (below_tr HB5.out hb6)
  clear hb6
  go_wp2_with fail
  refine (H5.out _).mono ?_
  rintro e w7 ⟨rfl, hb7⟩
  have HB7 := Lib.hid (below_alloc (below_tr HB6.out hb7) (.cells #[.string ⟨#[]⟩, .string ⟨#[]⟩, .int .i64 0, .string ⟨#[]⟩, .int .i64 0, .int .i64 0, .int .i64 0, .string ⟨#[]⟩] 23))
  clear hb7
  go_wp2_with fail
  refine (H6l.out _ (pw_cell_below HB7.out HM.out)).mono ?_
  rintro e w8 ⟨rfl, hb8⟩
  have hX := blk_new w8 (.cells #[.string ⟨#[]⟩, .string ⟨#[]⟩, .int .i64 0, .string ⟨#[]⟩, .int .i64 0, .int .i64 0, .int .i64 0, .string ⟨#[]⟩] 23)
  obtain ⟨x0, x1, x2, x3, x4, x5, x6, x7, xf⟩ := cells8 hX
  have HB8 := Lib.hid (below_alloc (below_tr HB7.out hb8) (.cells #[.string ⟨#[]⟩, .string ⟨#[]⟩, .int .i64 0, .string ⟨#[]⟩, .int .i64 0, .int .i64 0, .int .i64 0, .string ⟨#[]⟩] 23))
  clear hb8 hX
  go_wp2_with fail
  go_ret
  exact ⟨rfl, HB8.out⟩
set_option maxRecDepth 100000 in
set_option maxHeartbeats 3200000 in
theorem law_ny (A0 : Option Addr) (c0 : Nat) (l : List Int) (B0 : Option Addr) (d0 : Nat) (q : List Int) (w : World) (m : Int) (hm : w.cell? ⟨0, 0, none⟩ = some (.int .i64 m)) (hr0 : Kd.C (Kd.int .u8) w A0 l.length l) (hc0 : l.length ≤ c0) (hl : l.length ≤ 1048576) (hs0 : Kd.C (Kd.int .u8) w B0 q.length q) (hd0 : q.length ≤ d0) (hq : q.length ≤ 1048576)
    (g0 g1 : ByteArray) (g2 : Int) (g3 : ByteArray) (g4 g5 g6 : Int) (g7 : ByteArray) (t L : ByteArray) (p0 p1 : ByteArray) (p2 : Int) (p3 : ByteArray) (p4 p5 p6 : Int) (p7 : ByteArray)
    (h9 : ∀ W : World, Kd.C (Kd.int .u8) W A0 l.length l → Calls Tryd.prog 9 #[.slice A0 l.length c0] W fun e w' => e = .returned (.agg #[.string g0, .string g1, .int .i64 g2, .string g3, .int .i64 g4, .int .i64 g5, .int .i64 g6, .string g7]) ∧ Below W.heap.size W w')
    (h10 : ∀ W : World, Calls Tryd.prog 10 #[.agg #[.string g0, .string g1, .int .i64 g2, .string g3, .int .i64 g4, .int .i64 g5, .int .i64 g6, .string g7]] W fun e w' => e = .returned (.tuple #[.string t, .bool false]) ∧ Below W.heap.size W w')
    (h11 : ∀ W : World, Calls Tryd.prog 11 #[.agg #[.string g0, .string g1, .int .i64 g2, .string g3, .int .i64 g4, .int .i64 g5, .int .i64 g6, .string g7]] W fun e w' => e = .returned (.tuple #[.string t, .bool false]) ∧ Below W.heap.size W w')
    (h12 : ∀ W : World, Kd.C (Kd.int .u8) W B0 q.length q → Calls Tryd.prog 12 #[.slice B0 q.length d0] W fun e w' => e = .returned (.string L) ∧ Below W.heap.size W w')
    (h5 : ∀ W : World, Calls Tryd.prog 5 #[.string L] W fun e w' => e = .returned (.tuple #[.agg #[.string p0, .string p1, .int .i64 p2, .string p3, .int .i64 p4, .int .i64 p5, .int .i64 p6, .string p7], .int .i64 0]) ∧ Below W.heap.size W w')
    (h6' : ∀ W : World, W.cell? ⟨0, 0, none⟩ = some (.int .i64 m) → Calls Tryd.prog 6 #[.string L] W fun e w' => e = .returned (.tuple #[.agg #[.string p0, .string p1, .int .i64 p2, .string p3, .int .i64 p4, .int .i64 p5, .int .i64 p6, .string p7], .int .i64 0]) ∧ Below W.heap.size W w')
    (h11' : ∀ W : World, Calls Tryd.prog 11 #[.agg #[.string p0, .string p1, .int .i64 p2, .string p3, .int .i64 p4, .int .i64 p5, .int .i64 p6, .string p7]] W fun e w' => e = .returned (.tuple #[.string L, .bool true]) ∧ Below W.heap.size W w')
    : Calls Tryd.prog 4 #[.slice A0 l.length c0, .slice B0 q.length d0] w fun e w' => e = .returned (.bool true) ∧ Below w.heap.size w w' := by
  have HB := Lib.hid (big_any A0 c0 l w hr0 hc0 false (decide_eq_false (by omega)))
  have HB2 := Lib.hid (fun n : Nat => big_any B0 d0 q (w.drewN n) (Kd.C_drewN hs0 n) hd0 false (decide_eq_false (by omega)))
  have H9 := Lib.hid (fun n : Nat => h9 (w.drewN n) (Kd.C_drewN hr0 n))
  have H10 := Lib.hid h10
  have H11 := Lib.hid h11
  have H12 := Lib.hid h12
  have H5 := Lib.hid h5
  have H6l := Lib.hid h6'
  have H11l := Lib.hid h11'
  have HM := Lib.hid hm
  have HS := Lib.hid hs0
  clear hm hr0 hc0 hl hs0 hd0 hq h9 h10 h11  h12 h5 h6' h11'
  go_enter Tryd.func4, Tryd.ntmps4
  go_wp2_with fail
  refine HB.out.mono ?_
  rintro e w1 ⟨rfl, n1, rfl⟩
  go_wp2_with fail
  refine (HB2.out _).mono ?_
  rintro e w1 ⟨rfl, n2, rfl⟩
  go_wp2_with fail
  refine (H9.out _).mono ?_
  rintro e w2 ⟨rfl, hb2⟩
  have hB : Below w.heap.size w w2 := below_then (pw_below_drewN (Below.refl _ w) _) (Nat.le_refl _) hb2
  have hX := blk_new w2 (.cells #[.string g0, .string g1, .int .i64 g2, .string g3, .int .i64 g4, .int .i64 g5, .int .i64 g6, .string g7] 23)
  obtain ⟨x0, x1, x2, x3, x4, x5, x6, x7, xf⟩ := cells8 hX
  have HB2 := Lib.hid hB
  have HX2 := Lib.hid hX
  clear hB hX hb2
  go_wp2_with fail
  refine (H10.out _).mono ?_
  rintro e w3 ⟨rfl, hb3⟩
  clear x0 x1 x2 x3 x4 x5 x6 x7 xf
  have hX := blk_below HX2.out hb3
  obtain ⟨x0, x1, x2, x3, x4, x5, x6, x7, xf⟩ := cells8 hX
  have HB3 := Lib.hid (below_al HB2.out _ hb3)
  have HX3 := Lib.hid hX
  clear hX hb3
  go_wp2_with fail
  refine (H11.out _).mono ?_
  rintro e w4 ⟨rfl, hb4⟩
  clear x0 x1 x2 x3 x4 x5 x6 x7 xf
  have HB4 := Lib.hid (below_tr HB3.out hb4)
  have HX4 := Lib.hid (blk_below HX3.out hb4)
  clear hb4
  go_wp2_with fail
  have HB5 := HB4
  refine (H12.out _ (Kd.C_below HS.out HB5.out)).mono ?_
  rintro e w6 ⟨rfl, hb6⟩
  have HB6 := Lib.hid (below_tr HB5.out hb6)
  clear hb6
  go_wp2_with fail
  refine (H5.out _).mono ?_
  rintro e w7 ⟨rfl, hb7⟩
  have HB7 := Lib.hid (below_alloc (below_tr HB6.out hb7) (.cells #[.string p0, .string p1, .int .i64 p2, .string p3, .int .i64 p4, .int .i64 p5, .int .i64 p6, .string p7] 23))
  clear hb7
  go_wp2_with fail
  refine (H6l.out _ (pw_cell_below HB7.out HM.out)).mono ?_
  rintro e w8 ⟨rfl, hb8⟩
  have hX := blk_new w8 (.cells #[.string p0, .string p1, .int .i64 p2, .string p3, .int .i64 p4, .int .i64 p5, .int .i64 p6, .string p7] 23)
  obtain ⟨x0, x1, x2, x3, x4, x5, x6, x7, xf⟩ := cells8 hX
  have HB8 := Lib.hid (below_alloc (below_tr HB7.out hb8) (.cells #[.string p0, .string p1, .int .i64 p2, .string p3, .int .i64 p4, .int .i64 p5, .int .i64 p6, .string p7] 23))
  clear hb8 hX
  go_wp2_with fail
  refine (H11l.out _).mono ?_
  rintro e w9 ⟨rfl, hb9⟩
  have HB9 := Lib.hid (below_tr HB8.out hb9)
  clear hb9 x0 x1 x2 x3 x4 x5 x6 x7 xf
  go_wp2_with fail
  go_ret
  exact ⟨rfl, HB9.out⟩
set_option maxRecDepth 100000 in
set_option maxHeartbeats 3200000 in
theorem law_nn (A0 : Option Addr) (c0 : Nat) (l : List Int) (B0 : Option Addr) (d0 : Nat) (q : List Int) (w : World) (m : Int) (hm : w.cell? ⟨0, 0, none⟩ = some (.int .i64 m)) (hr0 : Kd.C (Kd.int .u8) w A0 l.length l) (hc0 : l.length ≤ c0) (hl : l.length ≤ 1048576) (hs0 : Kd.C (Kd.int .u8) w B0 q.length q) (hd0 : q.length ≤ d0) (hq : q.length ≤ 1048576)
    (g0 g1 : ByteArray) (g2 : Int) (g3 : ByteArray) (g4 g5 g6 : Int) (g7 : ByteArray) (t L : ByteArray) (n : Int) (hn : n ≠ 0)
    (h9 : ∀ W : World, Kd.C (Kd.int .u8) W A0 l.length l → Calls Tryd.prog 9 #[.slice A0 l.length c0] W fun e w' => e = .returned (.agg #[.string g0, .string g1, .int .i64 g2, .string g3, .int .i64 g4, .int .i64 g5, .int .i64 g6, .string g7]) ∧ Below W.heap.size W w')
    (h10 : ∀ W : World, Calls Tryd.prog 10 #[.agg #[.string g0, .string g1, .int .i64 g2, .string g3, .int .i64 g4, .int .i64 g5, .int .i64 g6, .string g7]] W fun e w' => e = .returned (.tuple #[.string t, .bool false]) ∧ Below W.heap.size W w')
    (h11 : ∀ W : World, Calls Tryd.prog 11 #[.agg #[.string g0, .string g1, .int .i64 g2, .string g3, .int .i64 g4, .int .i64 g5, .int .i64 g6, .string g7]] W fun e w' => e = .returned (.tuple #[.string t, .bool false]) ∧ Below W.heap.size W w')
    (h12 : ∀ W : World, Kd.C (Kd.int .u8) W B0 q.length q → Calls Tryd.prog 12 #[.slice B0 q.length d0] W fun e w' => e = .returned (.string L) ∧ Below W.heap.size W w')
    (h5 : ∀ W : World, Calls Tryd.prog 5 #[.string L] W fun e w' => e = .returned (.tuple #[.agg #[.string ⟨#[]⟩, .string ⟨#[]⟩, .int .i64 0, .string ⟨#[]⟩, .int .i64 0, .int .i64 0, .int .i64 0, .string ⟨#[]⟩], .int .i64 n]) ∧ Below W.heap.size W w')
    (h6' : ∀ W : World, W.cell? ⟨0, 0, none⟩ = some (.int .i64 m) → Calls Tryd.prog 6 #[.string L] W fun e w' => e = .returned (.tuple #[.agg #[.string ⟨#[]⟩, .string ⟨#[]⟩, .int .i64 0, .string ⟨#[]⟩, .int .i64 0, .int .i64 0, .int .i64 0, .string ⟨#[]⟩], .int .i64 n]) ∧ Below W.heap.size W w')
    : Calls Tryd.prog 4 #[.slice A0 l.length c0, .slice B0 q.length d0] w fun e w' => e = .returned (.bool true) ∧ Below w.heap.size w w' := by
  have HB := Lib.hid (big_any A0 c0 l w hr0 hc0 false (decide_eq_false (by omega)))
  have HB2 := Lib.hid (fun n : Nat => big_any B0 d0 q (w.drewN n) (Kd.C_drewN hs0 n) hd0 false (decide_eq_false (by omega)))
  have H9 := Lib.hid (fun n : Nat => h9 (w.drewN n) (Kd.C_drewN hr0 n))
  have H10 := Lib.hid h10
  have H11 := Lib.hid h11
  have H12 := Lib.hid h12
  have H5 := Lib.hid h5
  have H6l := Lib.hid h6'
  have HM := Lib.hid hm
  have HS := Lib.hid hs0
  clear hm hr0 hc0 hl hs0 hd0 hq h9 h10 h11  h12 h5 h6' 
  go_enter Tryd.func4, Tryd.ntmps4
  go_wp2_with fail
  refine HB.out.mono ?_
  rintro e w1 ⟨rfl, n1, rfl⟩
  go_wp2_with fail
  refine (HB2.out _).mono ?_
  rintro e w1 ⟨rfl, n2, rfl⟩
  go_wp2_with fail
  refine (H9.out _).mono ?_
  rintro e w2 ⟨rfl, hb2⟩
  have hB : Below w.heap.size w w2 := below_then (pw_below_drewN (Below.refl _ w) _) (Nat.le_refl _) hb2
  have hX := blk_new w2 (.cells #[.string g0, .string g1, .int .i64 g2, .string g3, .int .i64 g4, .int .i64 g5, .int .i64 g6, .string g7] 23)
  obtain ⟨x0, x1, x2, x3, x4, x5, x6, x7, xf⟩ := cells8 hX
  have HB2 := Lib.hid hB
  have HX2 := Lib.hid hX
  clear hB hX hb2
  go_wp2_with fail
  refine (H10.out _).mono ?_
  rintro e w3 ⟨rfl, hb3⟩
  clear x0 x1 x2 x3 x4 x5 x6 x7 xf
  have hX := blk_below HX2.out hb3
  obtain ⟨x0, x1, x2, x3, x4, x5, x6, x7, xf⟩ := cells8 hX
  have HB3 := Lib.hid (below_al HB2.out _ hb3)
  have HX3 := Lib.hid hX
  clear hX hb3
  go_wp2_with fail
  refine (H11.out _).mono ?_
  rintro e w4 ⟨rfl, hb4⟩
  clear x0 x1 x2 x3 x4 x5 x6 x7 xf
  have HB4 := Lib.hid (below_tr HB3.out hb4)
  have HX4 := Lib.hid (blk_below HX3.out hb4)
  clear hb4
  go_wp2_with fail
  have HB5 := HB4
  refine (H12.out _ (Kd.C_below HS.out HB5.out)).mono ?_
  rintro e w6 ⟨rfl, hb6⟩
  have HB6 := Lib.hid (below_tr HB5.out hb6)
  clear hb6
  go_wp2_with fail
  refine (H5.out _).mono ?_
  rintro e w7 ⟨rfl, hb7⟩
  have HB7 := Lib.hid (below_alloc (below_tr HB6.out hb7) (.cells #[.string ⟨#[]⟩, .string ⟨#[]⟩, .int .i64 0, .string ⟨#[]⟩, .int .i64 0, .int .i64 0, .int .i64 0, .string ⟨#[]⟩] 23))
  clear hb7
  go_wp2_with fail
  refine (H6l.out _ (pw_cell_below HB7.out HM.out)).mono ?_
  rintro e w8 ⟨rfl, hb8⟩
  have hX := blk_new w8 (.cells #[.string ⟨#[]⟩, .string ⟨#[]⟩, .int .i64 0, .string ⟨#[]⟩, .int .i64 0, .int .i64 0, .int .i64 0, .string ⟨#[]⟩] 23)
  obtain ⟨x0, x1, x2, x3, x4, x5, x6, x7, xf⟩ := cells8 hX
  have HB8 := Lib.hid (below_alloc (below_tr HB7.out hb8) (.cells #[.string ⟨#[]⟩, .string ⟨#[]⟩, .int .i64 0, .string ⟨#[]⟩, .int .i64 0, .int .i64 0, .int .i64 0, .string ⟨#[]⟩] 23))
  clear hb8 hX
  go_wp2_with fail
  go_ret
  exact ⟨rfl, HB8.out⟩
end Go.Proofs.YtfipjlcbnfcddaaDoor.Y4
