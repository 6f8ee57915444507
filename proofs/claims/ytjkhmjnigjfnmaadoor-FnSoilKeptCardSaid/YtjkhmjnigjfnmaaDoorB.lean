/-
  The walk of the program's ReadSoil at a text that is a soil's.
-/
import Derived.Test.YtjkhmjnigjfnmaaDoorA
namespace Go.Proofs.YtjkhmjnigjfnmaaDoor.B
open Go Go.RowKit Go.Proofs.YtjkhmjnigjfnmaaDoorW.PrintWords Go.Proofs.YtjkhmjnigjfnmaaDoor.F A
set_option linter.unusedVariables false
set_option linter.unusedSimpArgs false
def zero5 : Array Value := #[.int .i64 0, .int .i64 0, .int .i64 0, .int .i64 0, .int .i64 0]
def strs (a b c d e : Nat) : Array Value := #[.string (V.decB a), .string (V.decB b), .string (V.decB c), .string (V.decB d), .string (V.decB e)]
def arr (a b c d e k : Nat) : Array Value := #[.int .i64 (if 0 < k then (a : Int) else 0), .int .i64 (if 1 < k then (b : Int) else 0), .int .i64 (if 2 < k then (c : Int) else 0), .int .i64 (if 3 < k then (d : Int) else 0), .int .i64 (if 4 < k then (e : Int) else 0)]
/-- What memory holds when k pieces are read. -/
def RInv (a b c d e : Nat) (w : World) (k : Nat) (W : World) : Prop :=
  W.heap[w.heap.size]? = some (.cells zero5 25 (0, 0)) ∧ W.heap[w.heap.size + 1]? = some (.cells (strs a b c d e) 9 (0, 0)) ∧ W.heap[w.heap.size + 2]? = some (.cells (arr a b c d e k) 41 (0, 0)) ∧ Below w.heap.size w W
theorem rinv_step {a b c d e k : Nat} {w W w2 : World} {v : Value} (hI : RInv a b c d e w k W) (hb : Below W.heap.size W w2) (hv : (arr a b c d e k).setIfInBounds k v = arr a b c d e (k + 1)) : RInv a b c d e w (k + 1) (w2.setCell ⟨w.heap.size + 2, k, none⟩ v) := by
  obtain ⟨h1, h2, h3, h4⟩ := hI
  refine ⟨far_set (blk_below h1 hb) (by omega) _, far_set (blk_below h2 hb) (by omega) _, ?_, (below_then h4 h4.size hb).setCell (by show w.heap.size ≤ w.heap.size + 2; omega) _⟩
  have := blk_set (blk_below h3 hb) k v
  rw [hv] at this
  exact this
theorem rinv_start (a b c d e : Nat) (w : World) : RInv a b c d e w 0 (((w.alloc (.cells zero5 25)).alloc (.cells (strs a b c d e) 9)).alloc (.cells zero5 41)) := by
  refine ⟨blk_alloc (blk_alloc (blk_new w _) _) _, blk_alloc ?_ _, ?_, below_alloc (below_alloc (below_alloc (Below.refl _ _) _) _) _⟩
  · have := blk_new (w.alloc (.cells zero5 25)) (.cells (strs a b c d e) 9)
    simpa using this
  · have := blk_new ((w.alloc (.cells zero5 25)).alloc (.cells (strs a b c d e) 9)) (.cells zero5 41)
    simpa [arr, zero5] using this
theorem read_ret {a b c d e : Nat} {w w' : World} {t : Act} (hb : Below w.heap.size w w') (h2 : t.tmps.getD 2 undef = .pointer (some ⟨w.heap.size, 0, none⟩)) (h3 : t.tmps.getD 3 undef = .bool true) (hdf : t.defers = [])
    (hg : w'.heap[w.heap.size]? = some (.cells #[.int .i64 a, .int .i64 b, .int .i64 c, .int .i64 d, .int .i64 e] 25 (0, 0))) : bodyPost Tryd.prog Tryd.f8 (fun r w' => r = .returned (.tuple #[.agg #[.int .i64 a, .int .i64 b, .int .i64 c, .int .i64 d, .int .i64 e], .bool true]) ∧ Below w.heap.size w w') Exit.ret t w' := by
  have hres := results_ct (P := Tryd.prog) (fn := Tryd.f8) (p := 2) (u := 3) (ty := 25) rfl t.tmps w' w.heap.size 25 _ (0, 0) _ h2 hg Tryd.underlying25 rfl (by kernel_rfl)
  rw [h3] at hres
  exact bodyPost_ret hres hdf ⟨rfl, hb⟩
set_option maxRecDepth 100000 in
set_option maxHeartbeats 1600000 in
theorem read_any (a b c d e : Nat) (w : World) (m : Int) (hm : w.cell? ⟨0, 0, none⟩ = some (.int .i64 m)) (ha : a < 10 ^ 18) (hb : b < 10 ^ 18) (hc : c < 10 ^ 18) (hd : d < 10 ^ 18) (he : e < 10 ^ 18) (hS : ∀ W : World, Calls Tryd.prog 15 #[.agg #[.int .i64 a, .int .i64 b, .int .i64 c, .int .i64 d, .int .i64 e]] W fun e w' => e = .returned (.bool true) ∧ Below W.heap.size W w') :
    Calls Tryd.prog 8 #[.string (V.soilS a b c d e)] w fun r w' => r = .returned (.tuple #[.agg #[.int .i64 a, .int .i64 b, .int .i64 c, .int .i64 d, .int .i64 e], .bool true]) ∧ Below w.heap.size w w' := by
  have hw0 := World.block_lt_of_cell? w _ hm
  have HM : ∀ o : Obj, (w.alloc o).cell? ⟨0, 0, none⟩ = some (.int .i64 m) := fun o => (World.cell?_alloc_lt w o ⟨0, 0, none⟩ hw0).trans hm
  have hl := V.soilL_len ha hb hc hd he
  have hz : (V.soilS a b c d e).size = (V.soilL a b c d e).length := by simp [V.soilS, ByteArray.size]
  have HSp := fun o : Obj => Tryd.strings_Split (V.soilS a b c d e) ⟨#[32]⟩ m (w.alloc o) (by omega) (HM o) (by simp [ByteArray.size])
  rw [U.splitB_pieces, U.countB_pieces, V.soil_piecesB] at HSp
  have HP := Lib.hid HSp
  clear HSp
  have HS := Lib.hid hS
  have A1 := Lib.hid (fun W : World => decimal_any a ha W)
  have A2 := Lib.hid (fun W : World => decimal_any b hb W)
  have A3 := Lib.hid (fun W : World => decimal_any c hc W)
  have A4 := Lib.hid (fun W : World => decimal_any d hd W)
  have A5 := Lib.hid (fun W : World => decimal_any e he W)
  clear HM hm hl hz hS ha hb hc hd he
  generalize V.soilS a b c d e = s at *
  go_enter Tryd.func8, Tryd.ntmps8
  go_wp2_with fail
  refine (HP.out _).mono ?_
  rintro r w1 ⟨rfl, rfl⟩
  go_wp2_with fail
  go_loopw [19] (fun i W => ∃ k : Nat, k ≤ 5 ∧ i = .int .i64 k ∧ RInv a b c d e w k W) (fun i _ => 5 - (intOf i).toNat)
  case atStart => exact ⟨0, by omega, rfl, rinv_start a b c d e w⟩
  case round =>
    obtain ⟨k, hk, rfl, hI⟩ := hrel
    obtain rfl | rfl | rfl | rfl | rfl | rfl : k = 0 ∨ k = 1 ∨ k = 2 ∨ k = 3 ∨ k = 4 ∨ k = 5 := by omega
    · have hI' := Lib.hid hI
      obtain ⟨hH, hC, hG, hB⟩ := hI
      have p0 := blk_cell hC 0
      have pf := blk_frozen hC 0
      simp only [strs] at p0
      clear hH hC hB
      go_wp2_with fail
      refine (A1.out _).mono ?_
      rintro r w2 ⟨rfl, hb2⟩
      have hG2 := blk_below hG hb2
      have g0 := blk_cell hG2 0
      have gf := blk_frozen hG2 0
      simp only [arr] at g0
      have HB2 := Lib.hid hb2
      clear hG hG2 hb2 p0 pf
      go_wp2_with fail
      exact ⟨⟨1, by omega, rfl, rinv_step hI'.out HB2.out rfl⟩, by simp [intOf]⟩
    · have hI' := Lib.hid hI
      obtain ⟨hH, hC, hG, hB⟩ := hI
      have p0 := blk_cell hC 1
      have pf := blk_frozen hC 1
      simp only [strs] at p0
      clear hH hC hB
      go_wp2_with fail
      refine (A2.out _).mono ?_
      rintro r w2 ⟨rfl, hb2⟩
      have hG2 := blk_below hG hb2
      have g0 := blk_cell hG2 1
      have gf := blk_frozen hG2 1
      simp only [arr] at g0
      have HB2 := Lib.hid hb2
      clear hG hG2 hb2 p0 pf
      go_wp2_with fail
      exact ⟨⟨2, by omega, rfl, rinv_step hI'.out HB2.out rfl⟩, by simp [intOf]⟩
    · have hI' := Lib.hid hI
      obtain ⟨hH, hC, hG, hB⟩ := hI
      have p0 := blk_cell hC 2
      have pf := blk_frozen hC 2
      simp only [strs] at p0
      clear hH hC hB
      go_wp2_with fail
      refine (A3.out _).mono ?_
      rintro r w2 ⟨rfl, hb2⟩
      have hG2 := blk_below hG hb2
      have g0 := blk_cell hG2 2
      have gf := blk_frozen hG2 2
      simp only [arr] at g0
      have HB2 := Lib.hid hb2
      clear hG hG2 hb2 p0 pf
      go_wp2_with fail
      exact ⟨⟨3, by omega, rfl, rinv_step hI'.out HB2.out rfl⟩, by simp [intOf]⟩
    · have hI' := Lib.hid hI
      obtain ⟨hH, hC, hG, hB⟩ := hI
      have p0 := blk_cell hC 3
      have pf := blk_frozen hC 3
      simp only [strs] at p0
      clear hH hC hB
      go_wp2_with fail
      refine (A4.out _).mono ?_
      rintro r w2 ⟨rfl, hb2⟩
      have hG2 := blk_below hG hb2
      have g0 := blk_cell hG2 3
      have gf := blk_frozen hG2 3
      simp only [arr] at g0
      have HB2 := Lib.hid hb2
      clear hG hG2 hb2 p0 pf
      go_wp2_with fail
      exact ⟨⟨4, by omega, rfl, rinv_step hI'.out HB2.out rfl⟩, by simp [intOf]⟩
    · have hI' := Lib.hid hI
      obtain ⟨hH, hC, hG, hB⟩ := hI
      have p0 := blk_cell hC 4
      have pf := blk_frozen hC 4
      simp only [strs] at p0
      clear hH hC hB
      go_wp2_with fail
      refine (A5.out _).mono ?_
      rintro r w2 ⟨rfl, hb2⟩
      have hG2 := blk_below hG hb2
      have g0 := blk_cell hG2 4
      have gf := blk_frozen hG2 4
      simp only [arr] at g0
      have HB2 := Lib.hid hb2
      clear hG hG2 hb2 p0 pf
      go_wp2_with fail
      exact ⟨⟨5, by omega, rfl, rinv_step hI'.out HB2.out rfl⟩, by simp [intOf]⟩
    · obtain ⟨hH, hC, hG, hB⟩ := hI
      have g0 := blk_cell hG 0
      have g1 := blk_cell hG 1
      have g2 := blk_cell hG 2
      have g3 := blk_cell hG 3
      have g4 := blk_cell hG 4
      simp only [arr] at g0 g1 g2 g3 g4
      have HH := Lib.hid hH
      have HB := Lib.hid hB
      clear hH hC hG hB
      go_wp2_with fail
      refine (HS.out _).mono ?_
      rintro r w2 ⟨rfl, hb2⟩
      have hH := blk_below (blk_alloc HH.out (.cells #[.int .i64 a, .int .i64 b, .int .i64 c, .int .i64 d, .int .i64 e] 25)) hb2
      have hG := blk_below (blk_new wr (.cells #[.int .i64 a, .int .i64 b, .int .i64 c, .int .i64 d, .int .i64 e] 25)) hb2
      obtain ⟨x0, x1, x2, x3, x4, xf⟩ := cells5 hH
      obtain ⟨y0, y1, y2, y3, y4, yf⟩ := cells5 hG
      have hB := below_then (below_alloc HB.out (.cells #[.int .i64 a, .int .i64 b, .int .i64 c, .int .i64 d, .int .i64 e] 25)) (by simp; have := HB.out.size; omega) hb2
      clear g0 g1 g2 g3 g4 hb2
      go_wp2_with fail
      all_goals exact read_ret (bset0 (bset0 (bset0 (bset0 (bset0 hB))))) rfl rfl rfl (set5 hH _ _ _ _ _)
end Go.Proofs.YtjkhmjnigjfnmaaDoor.B
