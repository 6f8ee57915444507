/-
  The drawer of headings: what it comes to. Its region of 29 operations draws its order: each operation is shown once (text R).
-/
import Derived.Test.YtfipjlcbnfcddaaDoorR
import Derived.Test.YtfipjlcbnfcddaaDoorB
namespace Go.Proofs.YtfipjlcbnfcddaaDoor.F
open Go Go.RowKit Go.Proofs.YtfipjlcbnfcddaaDoorW.PrintWords Go.Proofs.YtfipjlcbnfcddaaDoorW.PrintLast
open Go.Proofs.YtfipjlcbnfcddaaDoor.R (Weak weak_step weak_region apartB)
open Go.Proofs.YtfipjlcbnfcddaaDoor.B (hdVal hdCells cells8 far_set)
set_option linter.unusedVariables false
set_option linter.unusedSimpArgs false
def kinds : List ByteArray := [(⟨#[83, 77]⟩ : ByteArray), (⟨#[83, 73]⟩ : ByteArray), (⟨#[85, 83]⟩ : ByteArray), (⟨#[70, 84]⟩ : ByteArray), (⟨#[87, 87]⟩ : ByteArray)]
def areas : List ByteArray := [(⟨#[68, 76]⟩ : ByteArray), (⟨#[78, 79]⟩ : ByteArray), (⟨#[88, 88]⟩ : ByteArray)]
def cents : List ByteArray := [(⟨#[65, 77, 77, 67]⟩ : ByteArray), (⟨#[69, 78, 77, 73]⟩ : ByteArray), (⟨#[75, 49, 65, 65]⟩ : ByteArray)]
def kindC : Array Value := #[.string ⟨#[83, 77]⟩, .string ⟨#[83, 73]⟩, .string ⟨#[85, 83]⟩, .string ⟨#[70, 84]⟩, .string ⟨#[87, 87]⟩]
def areaC : Array Value := #[.string ⟨#[68, 76]⟩, .string ⟨#[78, 79]⟩, .string ⟨#[88, 88]⟩]
def centC : Array Value := #[.string ⟨#[65, 77, 77, 67]⟩, .string ⟨#[69, 78, 77, 73]⟩, .string ⟨#[75, 49, 65, 65]⟩]
def ptr (g : Nat) : Value := .pointer (some ⟨g, 0, none⟩)
/-- A slice's literal lies in memory. -/
def Lit (g : Nat) (n : Nat) (C : Array Value) (v : Value) (W : World) : Prop := ∃ g0, v = .slice (some ⟨g0, 0, none⟩) n n ∧ g0 ≠ g ∧ W.heap[g0]? = some (.cells C 9 (0, 0))
/-- An element's address. -/
def Elt (g : Nat) (C : Array Value) (i : Nat) (v : Value) (W : World) : Prop := ∃ g0, v = .pointer (some ⟨g0, i, none⟩) ∧ g0 ≠ g ∧ W.heap[g0]? = some (.cells C 9 (0, 0))
/-- A heading's block. -/
def Box (g gr : Nat) (w0 w : World) (v : Value) (W : World) : Prop := ∃ g3, v = ptr g3 ∧ g3 ≠ g ∧ g3 ≠ gr ∧ w.heap.size ≤ g3 ∧ w0.heap.size ≤ g3 ∧ ∃ u0 u1 u2 u3 u4 u5 u6 u7, W.heap[g3]? = some (.cells #[u0, u1, u2, u3, u4, u5, u6, u7] 23 (0, 0))
def Le (g : Nat) (W W' : World) : Prop := (∀ k C, k ≠ g → W.heap[k]? = some (.cells C 9 (0, 0)) → W'.heap[k]? = some (.cells C 9 (0, 0))) ∧
  ∀ k u0 u1 u2 u3 u4 u5 u6 u7, k ≠ g → W.heap[k]? = some (.cells #[u0, u1, u2, u3, u4, u5, u6, u7] 23 (0, 0)) → ∃ v0 v1 v2 v3 v4 v5 v6 v7, W'.heap[k]? = some (.cells #[v0, v1, v2, v3, v4, v5, v6, v7] 23 (0, 0))
theorem Lit.le {g n : Nat} {C : Array Value} {v : Value} {W W' : World} (h : Lit g n C v W) (hl : Le g W W') : Lit g n C v W' := by
  obtain ⟨g0, h1, h2, h3⟩ := h
  exact ⟨g0, h1, h2, hl.1 _ _ h2 h3⟩
theorem Elt.le {g i : Nat} {C : Array Value} {v : Value} {W W' : World} (h : Elt g C i v W) (hl : Le g W W') : Elt g C i v W' := by
  obtain ⟨g0, h1, h2, h3⟩ := h
  exact ⟨g0, h1, h2, hl.1 _ _ h2 h3⟩
theorem Box.le {g gr : Nat} {w0 w : World} {v : Value} {W W' : World} (h : Box g gr w0 w v W) (hl : Le g W W') : Box g gr w0 w v W' := by
  obtain ⟨g3, h1, h2, h3, h4, h5, u0, u1, u2, u3, u4, u5, u6, u7, h6⟩ := h
  exact ⟨g3, h1, h2, h3, h4, h5, hl.2 _ _ _ _ _ _ _ _ _ h2 h6⟩
theorem Le.keep {g : Nat} {W W' : World} (h : KeepBut W W' g none) : Le g W W' :=
  ⟨fun k C hk hb => h.blk hb hk (by simp), fun k u0 u1 u2 u3 u4 u5 u6 u7 hk hb => ⟨u0, u1, u2, u3, u4, u5, u6, u7, h.blk hb hk (by simp)⟩⟩
theorem Le.refl (g : Nat) (W : World) : Le g W W := Le.keep (KeepBut.refl W g none)
def pos (p0 p1 p2 p3 p4 p5 p6 p7 p8 : Int) (b : Nat → Bool) : Int := if b 25 = true then p8 else if b 23 = true then p7 else if b 21 = true then p6 else if b 18 = true then p5 else if b 14 = true then p4 else if b 11 = true then p3 else if b 7 = true then p2 else if b 2 = true then p1 else p0
theorem pos_up {p0 p1 p2 p3 p4 p5 p6 p7 p8 : Int} {b : Nat → Bool} {i : Nat} (h : 2 ≠ i ∧ 7 ≠ i ∧ 11 ≠ i ∧ 14 ≠ i ∧ 18 ≠ i ∧ 21 ≠ i ∧ 23 ≠ i ∧ 25 ≠ i) : pos p0 p1 p2 p3 p4 p5 p6 p7 p8 (up b i) = pos p0 p1 p2 p3 p4 p5 p6 p7 p8 b := by
  unfold pos
  obtain ⟨h2, h7, h11, h14, h18, h21, h23, h25⟩ := h
  rw [up_ne h2, up_ne h7, up_ne h11, up_ne h14, up_ne h18, up_ne h21, up_ne h23, up_ne h25]
theorem pos_at2 {p0 p1 p2 p3 p4 p5 p6 p7 p8 : Int} {b : Nat → Bool} (f2 : b 2 = false) (f7 : b 7 = false) (f11 : b 11 = false) (f14 : b 14 = false) (f18 : b 18 = false) (f21 : b 21 = false) (f23 : b 23 = false) (f25 : b 25 = false) : pos p0 p1 p2 p3 p4 p5 p6 p7 p8 b = p0 := by
  unfold pos
  simp [f25, f23, f21, f18, f14, f11, f7, f2]
theorem pos_to2 {p0 p1 p2 p3 p4 p5 p6 p7 p8 : Int} {b : Nat → Bool} (f2 : b 2 = false) (f7 : b 7 = false) (f11 : b 11 = false) (f14 : b 14 = false) (f18 : b 18 = false) (f21 : b 21 = false) (f23 : b 23 = false) (f25 : b 25 = false) : pos p0 p1 p2 p3 p4 p5 p6 p7 p8 (up b 2) = p1 := by
  unfold pos
  rw [up_ne (i := 2) (j := 25) (by decide), up_ne (i := 2) (j := 23) (by decide), up_ne (i := 2) (j := 21) (by decide), up_ne (i := 2) (j := 18) (by decide), up_ne (i := 2) (j := 14) (by decide), up_ne (i := 2) (j := 11) (by decide), up_ne (i := 2) (j := 7) (by decide), up_self]
  simp [f25, f23, f21, f18, f14, f11, f7]
theorem pos_at7 {p0 p1 p2 p3 p4 p5 p6 p7 p8 : Int} {b : Nat → Bool} (f7 : b 7 = false) (f11 : b 11 = false) (f14 : b 14 = false) (f18 : b 18 = false) (f21 : b 21 = false) (f23 : b 23 = false) (f25 : b 25 = false) (t2 : b 2 = true) : pos p0 p1 p2 p3 p4 p5 p6 p7 p8 b = p1 := by
  unfold pos
  simp [f25, f23, f21, f18, f14, f11, f7, t2]
theorem pos_to7 {p0 p1 p2 p3 p4 p5 p6 p7 p8 : Int} {b : Nat → Bool} (f7 : b 7 = false) (f11 : b 11 = false) (f14 : b 14 = false) (f18 : b 18 = false) (f21 : b 21 = false) (f23 : b 23 = false) (f25 : b 25 = false) (t2 : b 2 = true) : pos p0 p1 p2 p3 p4 p5 p6 p7 p8 (up b 7) = p2 := by
  unfold pos
  rw [up_ne (i := 7) (j := 25) (by decide), up_ne (i := 7) (j := 23) (by decide), up_ne (i := 7) (j := 21) (by decide), up_ne (i := 7) (j := 18) (by decide), up_ne (i := 7) (j := 14) (by decide), up_ne (i := 7) (j := 11) (by decide), up_self]
  simp [f25, f23, f21, f18, f14, f11]
theorem pos_at11 {p0 p1 p2 p3 p4 p5 p6 p7 p8 : Int} {b : Nat → Bool} (f11 : b 11 = false) (f14 : b 14 = false) (f18 : b 18 = false) (f21 : b 21 = false) (f23 : b 23 = false) (f25 : b 25 = false) (t7 : b 7 = true) : pos p0 p1 p2 p3 p4 p5 p6 p7 p8 b = p2 := by
  unfold pos
  simp [f25, f23, f21, f18, f14, f11, t7]
theorem pos_to11 {p0 p1 p2 p3 p4 p5 p6 p7 p8 : Int} {b : Nat → Bool} (f11 : b 11 = false) (f14 : b 14 = false) (f18 : b 18 = false) (f21 : b 21 = false) (f23 : b 23 = false) (f25 : b 25 = false) (t7 : b 7 = true) : pos p0 p1 p2 p3 p4 p5 p6 p7 p8 (up b 11) = p3 := by
  unfold pos
  rw [up_ne (i := 11) (j := 25) (by decide), up_ne (i := 11) (j := 23) (by decide), up_ne (i := 11) (j := 21) (by decide), up_ne (i := 11) (j := 18) (by decide), up_ne (i := 11) (j := 14) (by decide), up_self]
  simp [f25, f23, f21, f18, f14]
theorem pos_at14 {p0 p1 p2 p3 p4 p5 p6 p7 p8 : Int} {b : Nat → Bool} (f14 : b 14 = false) (f18 : b 18 = false) (f21 : b 21 = false) (f23 : b 23 = false) (f25 : b 25 = false) (t11 : b 11 = true) : pos p0 p1 p2 p3 p4 p5 p6 p7 p8 b = p3 := by
  unfold pos
  simp [f25, f23, f21, f18, f14, t11]
theorem pos_to14 {p0 p1 p2 p3 p4 p5 p6 p7 p8 : Int} {b : Nat → Bool} (f14 : b 14 = false) (f18 : b 18 = false) (f21 : b 21 = false) (f23 : b 23 = false) (f25 : b 25 = false) (t11 : b 11 = true) : pos p0 p1 p2 p3 p4 p5 p6 p7 p8 (up b 14) = p4 := by
  unfold pos
  rw [up_ne (i := 14) (j := 25) (by decide), up_ne (i := 14) (j := 23) (by decide), up_ne (i := 14) (j := 21) (by decide), up_ne (i := 14) (j := 18) (by decide), up_self]
  simp [f25, f23, f21, f18]
theorem pos_at18 {p0 p1 p2 p3 p4 p5 p6 p7 p8 : Int} {b : Nat → Bool} (f18 : b 18 = false) (f21 : b 21 = false) (f23 : b 23 = false) (f25 : b 25 = false) (t14 : b 14 = true) : pos p0 p1 p2 p3 p4 p5 p6 p7 p8 b = p4 := by
  unfold pos
  simp [f25, f23, f21, f18, t14]
theorem pos_to18 {p0 p1 p2 p3 p4 p5 p6 p7 p8 : Int} {b : Nat → Bool} (f18 : b 18 = false) (f21 : b 21 = false) (f23 : b 23 = false) (f25 : b 25 = false) (t14 : b 14 = true) : pos p0 p1 p2 p3 p4 p5 p6 p7 p8 (up b 18) = p5 := by
  unfold pos
  rw [up_ne (i := 18) (j := 25) (by decide), up_ne (i := 18) (j := 23) (by decide), up_ne (i := 18) (j := 21) (by decide), up_self]
  simp [f25, f23, f21]
theorem pos_at21 {p0 p1 p2 p3 p4 p5 p6 p7 p8 : Int} {b : Nat → Bool} (f21 : b 21 = false) (f23 : b 23 = false) (f25 : b 25 = false) (t18 : b 18 = true) : pos p0 p1 p2 p3 p4 p5 p6 p7 p8 b = p5 := by
  unfold pos
  simp [f25, f23, f21, t18]
theorem pos_to21 {p0 p1 p2 p3 p4 p5 p6 p7 p8 : Int} {b : Nat → Bool} (f21 : b 21 = false) (f23 : b 23 = false) (f25 : b 25 = false) (t18 : b 18 = true) : pos p0 p1 p2 p3 p4 p5 p6 p7 p8 (up b 21) = p6 := by
  unfold pos
  rw [up_ne (i := 21) (j := 25) (by decide), up_ne (i := 21) (j := 23) (by decide), up_self]
  simp [f25, f23]
theorem pos_at23 {p0 p1 p2 p3 p4 p5 p6 p7 p8 : Int} {b : Nat → Bool} (f23 : b 23 = false) (f25 : b 25 = false) (t21 : b 21 = true) : pos p0 p1 p2 p3 p4 p5 p6 p7 p8 b = p6 := by
  unfold pos
  simp [f25, f23, t21]
theorem pos_to23 {p0 p1 p2 p3 p4 p5 p6 p7 p8 : Int} {b : Nat → Bool} (f23 : b 23 = false) (f25 : b 25 = false) (t21 : b 21 = true) : pos p0 p1 p2 p3 p4 p5 p6 p7 p8 (up b 23) = p7 := by
  unfold pos
  rw [up_ne (i := 23) (j := 25) (by decide), up_self]
  simp [f25]
theorem pos_at25 {p0 p1 p2 p3 p4 p5 p6 p7 p8 : Int} {b : Nat → Bool} (f25 : b 25 = false) (t23 : b 23 = true) : pos p0 p1 p2 p3 p4 p5 p6 p7 p8 b = p7 := by
  unfold pos
  simp [f25, t23]
theorem pos_to25 {p0 p1 p2 p3 p4 p5 p6 p7 p8 : Int} {b : Nat → Bool} (f25 : b 25 = false) (t23 : b 23 = true) : pos p0 p1 p2 p3 p4 p5 p6 p7 p8 (up b 25) = p8 := by
  unfold pos
  rw [up_self]
  simp
/-- What each slot holds. -/
def HV (g gr : Nat) (w0 w : World) (n1 n2 n3 n4 n5 n6 n7 : Nat) (mk : ByteArray) : Nat → Value → World → Prop
  | 0, v, W => Lit g 5 kindC v W
  | 1, v, W => v = ptr g
  | 2, v, W => v = .int .i64 n1
  | 3, v, W => Elt g kindC n1 v W
  | 4, v, W => v = .string (kinds.getD n1 ByteArray.empty)
  | 5, v, W => Lit g 3 areaC v W
  | 6, v, W => v = ptr g
  | 7, v, W => v = .int .i64 n2
  | 8, v, W => Elt g areaC n2 v W
  | 9, v, W => v = .string (areas.getD n2 ByteArray.empty)
  | 10, v, W => v = ptr g
  | 11, v, W => v = .int .i64 n3
  | 12, v, W => Lit g 3 centC v W
  | 13, v, W => v = ptr g
  | 14, v, W => v = .int .i64 n4
  | 15, v, W => Elt g centC n4 v W
  | 16, v, W => v = .string (cents.getD n4 ByteArray.empty)
  | 17, v, W => v = ptr g
  | 18, v, W => v = .int .i64 n5
  | 19, v, W => v = .int .i64 (1 + n5)
  | 20, v, W => v = ptr g
  | 21, v, W => v = .int .i64 n6
  | 22, v, W => v = ptr g
  | 23, v, W => v = .int .i64 n7
  | 24, v, W => v = ptr g
  | 25, v, W => v = .string mk
  | 26, v, W => v = .agg #[.string (kinds.getD n1 ByteArray.empty), .string (areas.getD n2 ByteArray.empty), .int .i64 n3, .string (cents.getD n4 ByteArray.empty), .int .i64 (1 + n5), .int .i64 n6, .int .i64 n7, .string mk]
  | 27, v, W => Box g gr w0 w v W
  | _, _, _ => True
theorem hv_le (g gr : Nat) (w0 w : World) (n1 n2 n3 n4 n5 n6 n7 : Nat) (mk : ByteArray) (j : Nat) (v : Value) (W W' : World) (hl : Le g W W') (h : HV g gr w0 w n1 n2 n3 n4 n5 n6 n7 mk j v W) : HV g gr w0 w n1 n2 n3 n4 n5 n6 n7 mk j v W' := by
  match j, h with
  | 0, h => exact Lit.le h hl
  | 1, h => exact h
  | 2, h => exact h
  | 3, h => exact Elt.le h hl
  | 4, h => exact h
  | 5, h => exact Lit.le h hl
  | 6, h => exact h
  | 7, h => exact h
  | 8, h => exact Elt.le h hl
  | 9, h => exact h
  | 10, h => exact h
  | 11, h => exact h
  | 12, h => exact Lit.le h hl
  | 13, h => exact h
  | 14, h => exact h
  | 15, h => exact Elt.le h hl
  | 16, h => exact h
  | 17, h => exact h
  | 18, h => exact h
  | 19, h => exact h
  | 20, h => exact h
  | 21, h => exact h
  | 22, h => exact h
  | 23, h => exact h
  | 24, h => exact h
  | 25, h => exact h
  | 26, h => exact h
  | 27, h => exact Box.le h hl
  | n + 28, h => exact h
/-- The reader, and what lies. -/
def HR (g gr : Nat) (w0 w : World) (s : List Int) (H : U.Hd) (p0 p1 p2 p3 p4 p5 p6 p7 p8 : Int) (b : Nat → Bool) (a : Act) (W : World) : Prop :=
  IsS59 w0 W g s (pos p0 p1 p2 p3 p4 p5 p6 p7 p8 b) ∧ Below w0.heap.size w0 W ∧ KeepBut w W g none ∧ W.heap[gr]? = some (.cells (hdCells U.Hd.nil) 23 (0, 0)) ∧
  (b 28 = true → ∃ g3, a.tmps[3]? = some (ptr g3) ∧ g3 ≠ g ∧ g3 ≠ gr ∧ w.heap.size ≤ g3 ∧ w0.heap.size ≤ g3 ∧ W.heap[g3]? = some (.cells (hdCells H) 23 (0, 0)))
end Go.Proofs.YtfipjlcbnfcddaaDoor.F
