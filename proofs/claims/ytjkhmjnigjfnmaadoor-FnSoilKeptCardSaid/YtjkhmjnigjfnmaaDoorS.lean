/-
  The reference's SoilStep: what it comes to.
-/
import Derived.Test.YtjkhmjnigjfnmaaDoorF1
import Derived.Outline
import Derived.BigQuiet
import Derived.Deep.RegionHeld3
import Derived.Deep.DeepCutAuto
import Derived.Lib.Hide
namespace Go.Proofs.YtjkhmjnigjfnmaaDoor.F
open Go Go.RowKit Go.Proofs.YtjkhmjnigjfnmaaDoorW.PrintWords
set_option linter.unusedVariables false
set_option linter.unusedSimpArgs false
/-- Is a soil right? -/
def soilB (s0 s1 s2 s3 s4 : Int) : Bool := decide (0 ≤ s0 ∧ s0 ≤ 1000000000000 ∧ 0 ≤ s1 ∧ s1 ≤ 400 ∧ 0 ≤ s2 ∧ s2 ≤ 1500 ∧ 0 ≤ s3 ∧ s3 ≤ 1000000000000 ∧ 0 ≤ s4 ∧ s4 ≤ 1000000000000 ∧ s4 = s0 + s1 + s2 + s3)
theorem in_f (a b c : Int) : spec_l2In.f a b c = some (decide (b ≤ a ∧ a ≤ c)) := by
  unfold spec_l2In.f
  by_cases h : a ≥ b
  · rw [if_pos h]
    congr 1
    exact decide_eq_decide.2 (by omega)
  · rw [if_neg h, decide_eq_false (by omega)]
theorem w01 : wrap64 (0 + 1) = 1 := by unfold wrap64; omega
theorem w12 : wrap64 (1 + 1) = 2 := by unfold wrap64; omega
theorem w23 : wrap64 (2 + 1) = 3 := by unfold wrap64; omega
theorem w34 : wrap64 (3 + 1) = 4 := by unfold wrap64; omega
theorem w45 : wrap64 (4 + 1) = 5 := by unfold wrap64; omega
theorem wrap_id {x : Int} (h0 : -9223372036854775808 ≤ x) (h1 : x ≤ 9223372036854775807) : wrap64 x = x := by unfold wrap64; omega
theorem soilOk_f (s0 s1 s2 s3 s4 : Int) : spec_l17SoilOk.f 7 s0 s1 s2 s3 s4 = some (soilB s0 s1 s2 s3 s4) := by
  unfold spec_l17SoilOk.f
  simp only [Option.bind_some, spec_l17SoilOk.l0, in_f, w01, w12, w23, w34, w45, rd, List.length_cons, List.length_nil]
  unfold soilB
  simp
  by_cases h0 : 0 ≤ s0 ∧ s0 ≤ 1000000000000
  · by_cases h1 : 0 ≤ s1 ∧ s1 ≤ 1000000000000
    · by_cases h2 : 0 ≤ s2 ∧ s2 ≤ 1000000000000
      · by_cases h3 : 0 ≤ s3 ∧ s3 ≤ 1000000000000
        · by_cases h4 : 0 ≤ s4 ∧ s4 ≤ 1000000000000
          · by_cases h5 : s1 ≤ 400
            · by_cases h6 : s2 ≤ 1500
              · rw [wrap_id (x := s0 + s1) (by omega) (by omega), wrap_id (x := s0 + s1 + s2) (by omega) (by omega), wrap_id (x := s0 + s1 + s2 + s3) (by omega) (by omega)]
                simp [h0, h1, h2, h3, h4, h5, h6]
                rw [Bool.eq_iff_iff]
                simp
              · simp [h0, h1, h2, h3, h4, h5, h6]
            · simp [h0, h1, h2, h3, h4, h5]
          · rw [if_neg h4]; simp [h0, h1, h2, h3]; omega
        · rw [if_neg h3]; simp [h0, h1, h2]; omega
      · rw [if_neg h2]; simp [h0, h1]; omega
    · rw [if_neg h1]; simp [h0]; omega
  · rw [if_neg h0]; simp; omega
theorem soilOk_any (s0 s1 s2 s3 s4 : Int) (w : World) : Calls Tryd.prog 13 #[.agg #[.int .i64 s0, .int .i64 s1, .int .i64 s2, .int .i64 s3, .int .i64 s4]] w fun e w' => e = .returned (.bool (soilB s0 s1 s2 s3 s4)) ∧ Below w.heap.size w w' :=
  spec_l17SoilOk.calls 7 _ _ _ _ _ _ _ (soilOk_f s0 s1 s2 s3 s4)
def inBt (a b c : Int) : Bool := decide (b ≤ a ∧ a ≤ c)
theorem in_any (a b c : Int) (w : World) : Calls Tryd.prog 14 #[.int .i64 a, .int .i64 b, .int .i64 c] w fun e w' => e = .returned (.bool (inBt a b c)) ∧ Drawn0 w w' :=
  spec_l2In.calls _ _ _ _ _ (in_f a b c)
theorem mn_bd {a b : Int} (ha : 0 ≤ a) (hb : 0 ≤ b) : 0 ≤ (if b < a then b else a) ∧ (if b < a then b else a) ≤ a ∧ (if b < a then b else a) ≤ b := by
  by_cases h : b < a
  · rw [if_pos h]; omega
  · rw [if_neg h]; omega
theorem mx_bd {a b : Int} : a ≤ (if a < b then b else a) ∧ b ≤ (if a < b then b else a) := by
  by_cases h : a < b
  · rw [if_pos h]; omega
  · rw [if_neg h]; omega
/-- The world gets a letter again: what the two blocks hold is told. -/
theorem relet {P : Program} {c : Code} {Q : Exit → Act → World → Prop} {a : Act} {w W : World} {g h : Nat} {cs ds : Array Value} (hX : W.heap[g]? = some (.cells cs 25 (0, 0))) (hY : W.heap[h]? = some (.cells ds 25 (0, 0))) (hB : Below w.heap.size w W)
    (K : ∀ W', W'.heap[g]? = some (.cells cs 25 (0, 0)) → W'.heap[h]? = some (.cells ds 25 (0, 0)) → Below w.heap.size w W' → Code.wp P c Q a W') : Code.wp P c Q a W := K W hX hY hB
theorem far_set {W : World} {k g i : Nat} {o : Obj} (h : W.heap[k]? = some o) (hk : k ≠ g) (v : Value) : (W.setCell ⟨g, i, none⟩ v).heap[k]? = some o := (Below.heap_setCell W ⟨g, i, none⟩ v k hk).trans h
theorem bset0 {w W : World} {i : Nat} {v : Value} (h : Below w.heap.size w W) : Below w.heap.size w (W.setCell ⟨w.heap.size, i, none⟩ v) := h.setCell (Nat.le_refl _) v
theorem cells5 {w : World} {g : Nat} {v0 v1 v2 v3 v4 : Value} (h : w.heap[g]? = some (.cells #[v0, v1, v2, v3, v4] 25 (0, 0))) :
    w.cell? ⟨g, 0, none⟩ = some v0 ∧ w.cell? ⟨g, 1, none⟩ = some v1 ∧ w.cell? ⟨g, 2, none⟩ = some v2 ∧ w.cell? ⟨g, 3, none⟩ = some v3 ∧ w.cell? ⟨g, 4, none⟩ = some v4 ∧ ∀ i, w.frozen? ⟨g, i, none⟩ = false :=
  ⟨blk_cell h 0, blk_cell h 1, blk_cell h 2, blk_cell h 3, blk_cell h 4, fun i => blk_frozen h i⟩
def dnI (a1 a2 : Int) : Int := if 1500 - a2 < (if a1 - 100 < 0 then 0 else a1 - 100) / 4 then 1500 - a2 else (if a1 - 100 < 0 then 0 else a1 - 100) / 4
def ovI (x : Int) : Int := if x - 400 < 0 then 0 else x - 400
theorem dn_bd {a1 a2 : Int} (h1 : 0 ≤ a1) (h2 : a2 ≤ 1500) : 0 ≤ dnI a1 a2 ∧ dnI a1 a2 ≤ a1 ∧ dnI a1 a2 ≤ 1500 - a2 := by
  unfold dnI
  by_cases h : a1 - 100 < 0
  · rw [if_pos h]; split <;> omega
  · rw [if_neg h]; split <;> omega
theorem ov_bd {x : Int} (h : 0 ≤ x) : 0 ≤ ovI x ∧ ovI x ≤ x := by
  unfold ovI
  split <;> omega
theorem set5 {W : World} {g : Nat} {u0 u1 u2 u3 u4 : Value} (h : W.heap[g]? = some (.cells #[u0, u1, u2, u3, u4] 25 (0, 0))) (v0 v1 v2 v3 v4 : Value) :
    (((((W.setCell ⟨g, 0, none⟩ v0).setCell ⟨g, 1, none⟩ v1).setCell ⟨g, 2, none⟩ v2).setCell ⟨g, 3, none⟩ v3).setCell ⟨g, 4, none⟩ v4).heap[g]? = some (.cells #[v0, v1, v2, v3, v4] 25 (0, 0)) := by
  have h' := blk_set (blk_set (blk_set (blk_set (blk_set h 0 v0) 1 v1) 2 v2) 3 v3) 4 v4
  simp only [List.setIfInBounds_toArray, List.set_cons_zero, List.set_cons_succ] at h'
  exact h'
theorem bset1 {w W : World} {i : Nat} {v : Value} (h : Below w.heap.size w W) : Below w.heap.size w (W.setCell ⟨w.heap.size + 1, i, none⟩ v) := h.setCell (Nat.le_succ _) v
def TailPost (a0 a1 a2 a3 a4 d o : Int) (w : World) (e : Ending) (w' : World) : Prop := e = .returned (.tuple #[.agg #[.int .i64 a0, .int .i64 (a1 - d - o), .int .i64 (a2 + d - (a2 + d) / 50), .int .i64 (a3 + o + (a2 + d) / 50), .int .i64 a4], .bool true]) ∧ Below w.heap.size w w'
theorem tail_ret {a0 a1 a2 a3 a4 d o : Int} {w w' : World} {a : Act} (hb : Below w.heap.size w w') (h2 : a.tmps.getD 6 undef = .pointer (some ⟨w.heap.size + 1, 0, none⟩)) (h3 : a.tmps.getD 7 undef = .bool true) (hdf : a.defers = [])
    (hg : w'.heap[w.heap.size + 1]? = some (.cells #[.int .i64 a0, .int .i64 (a1 - d - o), .int .i64 (a2 + d - (a2 + d) / 50), .int .i64 (a3 + o + (a2 + d) / 50), .int .i64 a4] 25 (0, 0))) : bodyPost Tryd.prog Tryd.f6 (TailPost a0 a1 a2 a3 a4 d o w) Exit.ret a w' := by
  have hres := results_ct (P := Tryd.prog) (fn := Tryd.f6) (p := 6) (u := 7) (ty := 25) rfl a.tmps w' (w.heap.size + 1) 25 _ (0, 0) _ h2 hg Tryd.underlying25 rfl (by kernel_rfl)
  rw [h3] at hres
  exact bodyPost_ret hres hdf ⟨rfl, hb⟩
set_option maxRecDepth 100000 in
set_option maxHeartbeats 1600000 in
theorem step_pos (s0 s1 s2 s3 s4 t r m d dn ov : Int) (w : World) (hs : soilB s0 s1 s2 s3 s4 = true) (ht : 0 < t) (ht2 : t ≤ 800) (hr : 0 ≤ r) (hr2 : r ≤ 5000) (hf : s4 ≤ 1000000000000 - r) (HM : Hid ((if 3 * t / 10 < s0 then 3 * t / 10 else s0) = m)) (HD : Hid ((if t / 20 < s1 + r + m then t / 20 else s1 + r + m) = d)) (Hdn : Hid (dnI (s1 + r + m - d) s2 = dn)) (Hov : Hid (ovI (s1 + r + m - d - dn) = ov)) :
    Calls Tryd.prog 6 #[.agg #[.int .i64 s0, .int .i64 s1, .int .i64 s2, .int .i64 s3, .int .i64 s4], .int .i64 t, .int .i64 r] w (TailPost (s0 - m) (s1 + r + m - d) s2 (s3 + d) (s4 + r) dn ov w) := by
  have hT : ¬ t < 0 := by omega
  have hb := of_decide_eq_true hs
  obtain ⟨b0, c0, b1, c1, b2, c2, b3, c3, b4, c4, hsum⟩ := hb
  have HS := Lib.hid hs
  have i1 : inBt t (-800) 800 = true := decide_eq_true (by omega)
  have i2 : inBt r 0 5000 = true := decide_eq_true (by omega)
  clear hs hsum
  go_enter Tryd.func6, Tryd.ntmps6
  go_wp2_with fail
  refine (soilOk_any _ _ _ _ _ _).mono ?_
  rintro e w1 ⟨rfl, hb1⟩
  rw [HS.out]
  have hX := blk_below (blk_alloc (blk_new w (.cells #[.int .i64 s0, .int .i64 s1, .int .i64 s2, .int .i64 s3, .int .i64 s4] 25)) (.cells #[.int .i64 0, .int .i64 0, .int .i64 0, .int .i64 0, .int .i64 0] 25)) hb1
  have hY := blk_below (blk_new (w.alloc (.cells #[.int .i64 s0, .int .i64 s1, .int .i64 s2, .int .i64 s3, .int .i64 s4] 25)) (.cells #[.int .i64 0, .int .i64 0, .int .i64 0, .int .i64 0, .int .i64 0] 25)) hb1
  simp only [World.size_alloc] at hY
  obtain ⟨x0, x1, x2, x3, x4, xf⟩ := cells5 hX
  go_wp2_with fail
  refine (in_any _ _ _ _).mono ?_
  rintro e w2 ⟨rfl, n2, rfl⟩
  rw [i1]
  go_wp2_with fail
  refine (in_any _ _ _ _).mono ?_
  rintro e w2 ⟨rfl, n2, rfl⟩
  rw [i2]
  have hB := below_then (below_alloc (below_alloc (Below.refl _ w) (.cells #[.int .i64 s0, .int .i64 s1, .int .i64 s2, .int .i64 s3, .int .i64 s4] 25)) (.cells #[.int .i64 0, .int .i64 0, .int .i64 0, .int .i64 0, .int .i64 0] 25)) (by simp; omega) hb1
  have ne : w.heap.size + 1 ≠ w.heap.size := by omega
  clear hb1 i1 i2
  go_upto_region 9 with (fail)
  have hm := mn_bd (a := s0) (b := 3 * t / 10) b0 (by omega)
  rw [HM.out] at hm ⊢
  obtain ⟨m0, m1, m2⟩ := hm
  refine relet (w := w) (blk_set (blk_set (blk_drewN hX _) 4 _) 1 _) (far_set (far_set (blk_drewN hY _) ne _) ne _) (bset0 (bset0 (pw_below_drewN hB _))) ?_
  clear hX hY hB x0 x1 x2 x3 x4 xf
  intro w3 hX hY hB
  simp only [List.setIfInBounds_toArray, List.set_cons_zero, List.set_cons_succ] at hX
  obtain ⟨x0, x1, x2, x3, x4, xf⟩ := cells5 hX
  go_upto_region 12 with (fail)
  have hm := mn_bd (a := s1 + r + m) (b := t / 20) (by omega) (by omega)
  rw [HD.out] at hm ⊢
  obtain ⟨d0, d1, d2⟩ := hm
  refine relet (w := w) (blk_set (blk_set hX 0 _) 1 _) (far_set (far_set hY ne _) ne _) (bset0 (bset0 hB)) ?_
  clear hX hY hB x0 x1 x2 x3 x4 xf
  intro w4 hX hY hB
  simp only [List.setIfInBounds_toArray, List.set_cons_zero, List.set_cons_succ] at hX
  obtain ⟨x0, x1, x2, x3, x4, xf⟩ := cells5 hX
  go_upto_region 14 with (fail)
  refine relet (w := w) (blk_set (blk_set hX 1 _) 3 _) (far_set (far_set hY ne _) ne _) (bset0 (bset0 hB)) ?_
  clear hX hY hB x0 x1 x2 x3 x4 xf
  intro w5 hX hY hB
  simp only [List.setIfInBounds_toArray, List.set_cons_zero, List.set_cons_succ] at hX
  obtain ⟨x0, x1, x2, x3, x4, xf⟩ := cells5 hX
  have hd := dn_bd (a1 := s1 + r + m - d) (a2 := s2) (by omega) (by omega)
  have hDn : (if 1500 - s2 < (if s1 + r + m - d - 100 < 0 then 0 else s1 + r + m - d - 100) / 4 then 1500 - s2 else (if s1 + r + m - d - 100 < 0 then 0 else s1 + r + m - d - 100) / 4) = dnI (s1 + r + m - d) s2 := rfl
  rw [Hdn.out] at hd hDn
  obtain ⟨d0_, d1_, d2_⟩ := hd
  have HDn := Lib.hid hDn
  clear hDn
  go_upto_region 15 with (fail)
  rw [HDn.out]
  go_upto_region 17 with (fail)
  refine relet (w := w) (blk_set (blk_set hX 1 _) 2 _) (far_set (far_set hY ne _) ne _) (bset0 (bset0 hB)) ?_
  clear hX hY hB x0 x1 x2 x3 x4 xf
  intro w6 hX hY hB
  simp only [List.setIfInBounds_toArray, List.set_cons_zero, List.set_cons_succ] at hX
  obtain ⟨x0, x1, x2, x3, x4, xf⟩ := cells5 hX
  have hd := ov_bd (x := s1 + r + m - d - dn) (by omega)
  have hDo : (if s1 + r + m - d - dn - 400 < 0 then 0 else s1 + r + m - d - dn - 400) = ovI (s1 + r + m - d - dn) := rfl
  rw [Hov.out] at hd hDo
  obtain ⟨o0_, o1_⟩ := hd
  have HDo := Lib.hid hDo
  clear hDo
  go_upto_region 18 with (fail)
  rw [HDo.out]
  go_upto_region 20 with (fail)
  refine relet (w := w) (blk_set hX 1 _) (far_set hY ne _) (bset0 hB) ?_
  clear hX hY hB x0 x1 x2 x3 x4 xf
  intro w7 hX hY hB
  simp only [List.setIfInBounds_toArray, List.set_cons_zero, List.set_cons_succ] at hX
  obtain ⟨x0, x1, x2, x3, x4, xf⟩ := cells5 hX
  go_upto_region 21 with (fail)
  refine relet (w := w) (blk_set hX 2 _) (far_set hY ne _) (bset0 hB) ?_
  clear hX hY hB x0 x1 x2 x3 x4 xf
  intro w8 hX hY hB
  simp only [List.setIfInBounds_toArray, List.set_cons_zero, List.set_cons_succ] at hX
  obtain ⟨x0, x1, x2, x3, x4, xf⟩ := cells5 hX
  go_upto_region 22 with (fail)
  refine relet (w := w) (blk_set hX 3 _) (far_set hY ne _) (bset0 hB) ?_
  clear hX hY hB x0 x1 x2 x3 x4 xf
  intro w9 hX hY hB
  simp only [List.setIfInBounds_toArray, List.set_cons_zero, List.set_cons_succ] at hX
  obtain ⟨x0, x1, x2, x3, x4, xf⟩ := cells5 hX
  obtain ⟨y0, y1, y2, y3, y4, yf⟩ := cells5 hY
  go_wp2
  all_goals exact tail_ret (bset1 (bset1 (bset1 (bset1 (bset1 hB))))) rfl rfl rfl (set5 hY _ _ _ _ _)
set_option maxRecDepth 100000 in
set_option maxHeartbeats 1600000 in
theorem step_neg (s0 s1 s2 s3 s4 t r m d dn ov : Int) (w : World) (hs : soilB s0 s1 s2 s3 s4 = true) (ht : t < 0) (ht2 : -800 ≤ t) (hr : 0 ≤ r) (hr2 : r ≤ 5000) (hf : s4 ≤ 1000000000000 - r) (Hdn : Hid (dnI (s1) s2 = dn)) (Hov : Hid (ovI (s1 - dn) = ov)) :
    Calls Tryd.prog 6 #[.agg #[.int .i64 s0, .int .i64 s1, .int .i64 s2, .int .i64 s3, .int .i64 s4], .int .i64 t, .int .i64 r] w (TailPost (s0 + r) (s1) s2 (s3) (s4 + r) dn ov w) := by
  have hT : ¬ 0 < t := by omega
  have hb := of_decide_eq_true hs
  obtain ⟨b0, c0, b1, c1, b2, c2, b3, c3, b4, c4, hsum⟩ := hb
  have HS := Lib.hid hs
  have i1 : inBt t (-800) 800 = true := decide_eq_true (by omega)
  have i2 : inBt r 0 5000 = true := decide_eq_true (by omega)
  clear hs hsum
  go_enter Tryd.func6, Tryd.ntmps6
  go_wp2_with fail
  refine (soilOk_any _ _ _ _ _ _).mono ?_
  rintro e w1 ⟨rfl, hb1⟩
  rw [HS.out]
  have hX := blk_below (blk_alloc (blk_new w (.cells #[.int .i64 s0, .int .i64 s1, .int .i64 s2, .int .i64 s3, .int .i64 s4] 25)) (.cells #[.int .i64 0, .int .i64 0, .int .i64 0, .int .i64 0, .int .i64 0] 25)) hb1
  have hY := blk_below (blk_new (w.alloc (.cells #[.int .i64 s0, .int .i64 s1, .int .i64 s2, .int .i64 s3, .int .i64 s4] 25)) (.cells #[.int .i64 0, .int .i64 0, .int .i64 0, .int .i64 0, .int .i64 0] 25)) hb1
  simp only [World.size_alloc] at hY
  obtain ⟨x0, x1, x2, x3, x4, xf⟩ := cells5 hX
  go_wp2_with fail
  refine (in_any _ _ _ _).mono ?_
  rintro e w2 ⟨rfl, n2, rfl⟩
  rw [i1]
  go_wp2_with fail
  refine (in_any _ _ _ _).mono ?_
  rintro e w2 ⟨rfl, n2, rfl⟩
  rw [i2]
  have hB := below_then (below_alloc (below_alloc (Below.refl _ w) (.cells #[.int .i64 s0, .int .i64 s1, .int .i64 s2, .int .i64 s3, .int .i64 s4] 25)) (.cells #[.int .i64 0, .int .i64 0, .int .i64 0, .int .i64 0, .int .i64 0] 25)) (by simp; omega) hb1
  have ne : w.heap.size + 1 ≠ w.heap.size := by omega
  clear hb1 i1 i2
  go_upto_region 14 with (fail)
  refine relet (w := w) (blk_set (blk_set (blk_drewN hX _) 4 _) 0 _) (far_set (far_set (blk_drewN hY _) ne _) ne _) (bset0 (bset0 (pw_below_drewN hB _))) ?_
  clear hX hY hB x0 x1 x2 x3 x4 xf
  intro w10 hX hY hB
  simp only [List.setIfInBounds_toArray, List.set_cons_zero, List.set_cons_succ] at hX
  obtain ⟨x0, x1, x2, x3, x4, xf⟩ := cells5 hX
  have hd := dn_bd (a1 := s1) (a2 := s2) (by omega) (by omega)
  have hDn : (if 1500 - s2 < (if s1 - 100 < 0 then 0 else s1 - 100) / 4 then 1500 - s2 else (if s1 - 100 < 0 then 0 else s1 - 100) / 4) = dnI (s1) s2 := rfl
  rw [Hdn.out] at hd hDn
  obtain ⟨d0_, d1_, d2_⟩ := hd
  have HDn := Lib.hid hDn
  clear hDn
  go_upto_region 15 with (fail)
  rw [HDn.out]
  go_upto_region 17 with (fail)
  refine relet (w := w) (blk_set (blk_set hX 1 _) 2 _) (far_set (far_set hY ne _) ne _) (bset0 (bset0 hB)) ?_
  clear hX hY hB x0 x1 x2 x3 x4 xf
  intro w11 hX hY hB
  simp only [List.setIfInBounds_toArray, List.set_cons_zero, List.set_cons_succ] at hX
  obtain ⟨x0, x1, x2, x3, x4, xf⟩ := cells5 hX
  have hd := ov_bd (x := s1 - dn) (by omega)
  have hDo : (if s1 - dn - 400 < 0 then 0 else s1 - dn - 400) = ovI (s1 - dn) := rfl
  rw [Hov.out] at hd hDo
  obtain ⟨o0_, o1_⟩ := hd
  have HDo := Lib.hid hDo
  clear hDo
  go_upto_region 18 with (fail)
  rw [HDo.out]
  go_upto_region 20 with (fail)
  refine relet (w := w) (blk_set hX 1 _) (far_set hY ne _) (bset0 hB) ?_
  clear hX hY hB x0 x1 x2 x3 x4 xf
  intro w12 hX hY hB
  simp only [List.setIfInBounds_toArray, List.set_cons_zero, List.set_cons_succ] at hX
  obtain ⟨x0, x1, x2, x3, x4, xf⟩ := cells5 hX
  go_upto_region 21 with (fail)
  refine relet (w := w) (blk_set hX 2 _) (far_set hY ne _) (bset0 hB) ?_
  clear hX hY hB x0 x1 x2 x3 x4 xf
  intro w13 hX hY hB
  simp only [List.setIfInBounds_toArray, List.set_cons_zero, List.set_cons_succ] at hX
  obtain ⟨x0, x1, x2, x3, x4, xf⟩ := cells5 hX
  go_upto_region 22 with (fail)
  refine relet (w := w) (blk_set hX 3 _) (far_set hY ne _) (bset0 hB) ?_
  clear hX hY hB x0 x1 x2 x3 x4 xf
  intro w14 hX hY hB
  simp only [List.setIfInBounds_toArray, List.set_cons_zero, List.set_cons_succ] at hX
  obtain ⟨x0, x1, x2, x3, x4, xf⟩ := cells5 hX
  obtain ⟨y0, y1, y2, y3, y4, yf⟩ := cells5 hY
  go_wp2
  all_goals exact tail_ret (bset1 (bset1 (bset1 (bset1 (bset1 hB))))) rfl rfl rfl (set5 hY _ _ _ _ _)
set_option maxRecDepth 100000 in
set_option maxHeartbeats 1600000 in
theorem step_zero (s0 s1 s2 s3 s4 t r m d dn ov : Int) (w : World) (hs : soilB s0 s1 s2 s3 s4 = true) (ht : ¬ 0 < t) (ht2 : ¬ t < 0) (hr : 0 ≤ r) (hr2 : r ≤ 5000) (hf : s4 ≤ 1000000000000 - r) (Hdn : Hid (dnI (s1 + r) s2 = dn)) (Hov : Hid (ovI (s1 + r - dn) = ov)) :
    Calls Tryd.prog 6 #[.agg #[.int .i64 s0, .int .i64 s1, .int .i64 s2, .int .i64 s3, .int .i64 s4], .int .i64 t, .int .i64 r] w (TailPost (s0) (s1 + r) s2 (s3) (s4 + r) dn ov w) := by
  have hb := of_decide_eq_true hs
  obtain ⟨b0, c0, b1, c1, b2, c2, b3, c3, b4, c4, hsum⟩ := hb
  have HS := Lib.hid hs
  have i1 : inBt t (-800) 800 = true := decide_eq_true (by omega)
  have i2 : inBt r 0 5000 = true := decide_eq_true (by omega)
  clear hs hsum
  go_enter Tryd.func6, Tryd.ntmps6
  go_wp2_with fail
  refine (soilOk_any _ _ _ _ _ _).mono ?_
  rintro e w1 ⟨rfl, hb1⟩
  rw [HS.out]
  have hX := blk_below (blk_alloc (blk_new w (.cells #[.int .i64 s0, .int .i64 s1, .int .i64 s2, .int .i64 s3, .int .i64 s4] 25)) (.cells #[.int .i64 0, .int .i64 0, .int .i64 0, .int .i64 0, .int .i64 0] 25)) hb1
  have hY := blk_below (blk_new (w.alloc (.cells #[.int .i64 s0, .int .i64 s1, .int .i64 s2, .int .i64 s3, .int .i64 s4] 25)) (.cells #[.int .i64 0, .int .i64 0, .int .i64 0, .int .i64 0, .int .i64 0] 25)) hb1
  simp only [World.size_alloc] at hY
  obtain ⟨x0, x1, x2, x3, x4, xf⟩ := cells5 hX
  go_wp2_with fail
  refine (in_any _ _ _ _).mono ?_
  rintro e w2 ⟨rfl, n2, rfl⟩
  rw [i1]
  go_wp2_with fail
  refine (in_any _ _ _ _).mono ?_
  rintro e w2 ⟨rfl, n2, rfl⟩
  rw [i2]
  have hB := below_then (below_alloc (below_alloc (Below.refl _ w) (.cells #[.int .i64 s0, .int .i64 s1, .int .i64 s2, .int .i64 s3, .int .i64 s4] 25)) (.cells #[.int .i64 0, .int .i64 0, .int .i64 0, .int .i64 0, .int .i64 0] 25)) (by simp; omega) hb1
  have ne : w.heap.size + 1 ≠ w.heap.size := by omega
  clear hb1 i1 i2
  go_upto_region 14 with (fail)
  refine relet (w := w) (blk_set (blk_set (blk_drewN hX _) 4 _) 1 _) (far_set (far_set (blk_drewN hY _) ne _) ne _) (bset0 (bset0 (pw_below_drewN hB _))) ?_
  clear hX hY hB x0 x1 x2 x3 x4 xf
  intro w15 hX hY hB
  simp only [List.setIfInBounds_toArray, List.set_cons_zero, List.set_cons_succ] at hX
  obtain ⟨x0, x1, x2, x3, x4, xf⟩ := cells5 hX
  have hd := dn_bd (a1 := s1 + r) (a2 := s2) (by omega) (by omega)
  have hDn : (if 1500 - s2 < (if s1 + r - 100 < 0 then 0 else s1 + r - 100) / 4 then 1500 - s2 else (if s1 + r - 100 < 0 then 0 else s1 + r - 100) / 4) = dnI (s1 + r) s2 := rfl
  rw [Hdn.out] at hd hDn
  obtain ⟨d0_, d1_, d2_⟩ := hd
  have HDn := Lib.hid hDn
  clear hDn
  go_upto_region 15 with (fail)
  rw [HDn.out]
  go_upto_region 17 with (fail)
  refine relet (w := w) (blk_set (blk_set hX 1 _) 2 _) (far_set (far_set hY ne _) ne _) (bset0 (bset0 hB)) ?_
  clear hX hY hB x0 x1 x2 x3 x4 xf
  intro w16 hX hY hB
  simp only [List.setIfInBounds_toArray, List.set_cons_zero, List.set_cons_succ] at hX
  obtain ⟨x0, x1, x2, x3, x4, xf⟩ := cells5 hX
  have hd := ov_bd (x := s1 + r - dn) (by omega)
  have hDo : (if s1 + r - dn - 400 < 0 then 0 else s1 + r - dn - 400) = ovI (s1 + r - dn) := rfl
  rw [Hov.out] at hd hDo
  obtain ⟨o0_, o1_⟩ := hd
  have HDo := Lib.hid hDo
  clear hDo
  go_upto_region 18 with (fail)
  rw [HDo.out]
  go_upto_region 20 with (fail)
  refine relet (w := w) (blk_set hX 1 _) (far_set hY ne _) (bset0 hB) ?_
  clear hX hY hB x0 x1 x2 x3 x4 xf
  intro w17 hX hY hB
  simp only [List.setIfInBounds_toArray, List.set_cons_zero, List.set_cons_succ] at hX
  obtain ⟨x0, x1, x2, x3, x4, xf⟩ := cells5 hX
  go_upto_region 21 with (fail)
  refine relet (w := w) (blk_set hX 2 _) (far_set hY ne _) (bset0 hB) ?_
  clear hX hY hB x0 x1 x2 x3 x4 xf
  intro w18 hX hY hB
  simp only [List.setIfInBounds_toArray, List.set_cons_zero, List.set_cons_succ] at hX
  obtain ⟨x0, x1, x2, x3, x4, xf⟩ := cells5 hX
  go_upto_region 22 with (fail)
  refine relet (w := w) (blk_set hX 3 _) (far_set hY ne _) (bset0 hB) ?_
  clear hX hY hB x0 x1 x2 x3 x4 xf
  intro w19 hX hY hB
  simp only [List.setIfInBounds_toArray, List.set_cons_zero, List.set_cons_succ] at hX
  obtain ⟨x0, x1, x2, x3, x4, xf⟩ := cells5 hX
  obtain ⟨y0, y1, y2, y3, y4, yf⟩ := cells5 hY
  go_wp2
  all_goals exact tail_ret (bset1 (bset1 (bset1 (bset1 (bset1 hB))))) rfl rfl rfl (set5 hY _ _ _ _ _)
theorem no_ret {w w' : World} {a : Act} (hb : Below w.heap.size w w') (h2 : a.tmps.getD 6 undef = .pointer (some ⟨w.heap.size + 1, 0, none⟩)) (h3 : a.tmps.getD 7 undef = .bool false) (hdf : a.defers = [])
    (hg : w'.heap[w.heap.size + 1]? = some (.cells #[.int .i64 0, .int .i64 0, .int .i64 0, .int .i64 0, .int .i64 0] 25 (0, 0))) : bodyPost Tryd.prog Tryd.f6 (fun e w' => e = .returned (.tuple #[.agg #[.int .i64 0, .int .i64 0, .int .i64 0, .int .i64 0, .int .i64 0], .bool false]) ∧ Below w.heap.size w w') Exit.ret a w' := by
  have hres := results_ct (P := Tryd.prog) (fn := Tryd.f6) (p := 6) (u := 7) (ty := 25) rfl a.tmps w' (w.heap.size + 1) 25 _ (0, 0) _ h2 hg Tryd.underlying25 rfl (by kernel_rfl)
  rw [h3] at hres
  exact bodyPost_ret hres hdf ⟨rfl, hb⟩
set_option maxRecDepth 100000 in
set_option maxHeartbeats 1600000 in
theorem step_no (s0 s1 s2 s3 s4 t r : Int) (w : World) (h : soilB s0 s1 s2 s3 s4 = false ∨ soilB s0 s1 s2 s3 s4 = true ∧ (inBt t (-800) 800 = false ∨ inBt t (-800) 800 = true ∧ (inBt r 0 5000 = false ∨ inBt r 0 5000 = true ∧ 1000000000000 - r < s4))) :
    Calls Tryd.prog 6 #[.agg #[.int .i64 s0, .int .i64 s1, .int .i64 s2, .int .i64 s3, .int .i64 s4], .int .i64 t, .int .i64 r] w fun e w' => e = .returned (.tuple #[.agg #[.int .i64 0, .int .i64 0, .int .i64 0, .int .i64 0, .int .i64 0], .bool false]) ∧ Below w.heap.size w w' := by
  rcases h with h | ⟨h, h2 | ⟨h2, h3 | ⟨h3, hlt⟩⟩⟩
  all_goals
    have HS := Lib.hid h
    clear h
    try (have H2 := Lib.hid h2; clear h2)
    try (have rb := of_decide_eq_true h3; obtain ⟨r0, r1⟩ := rb)
    try (have H3 := Lib.hid h3; clear h3)
    go_enter Tryd.func6, Tryd.ntmps6
    go_wp2_with fail
    refine (soilOk_any _ _ _ _ _ _).mono ?_
    rintro e w1 ⟨rfl, hb1⟩
    have hX := blk_below (blk_alloc (blk_new w (.cells #[.int .i64 s0, .int .i64 s1, .int .i64 s2, .int .i64 s3, .int .i64 s4] 25)) (.cells #[.int .i64 0, .int .i64 0, .int .i64 0, .int .i64 0, .int .i64 0] 25)) hb1
    have hY := blk_below (blk_new (w.alloc (.cells #[.int .i64 s0, .int .i64 s1, .int .i64 s2, .int .i64 s3, .int .i64 s4] 25)) (.cells #[.int .i64 0, .int .i64 0, .int .i64 0, .int .i64 0, .int .i64 0] 25)) hb1
    simp only [World.size_alloc] at hY
    have hB := below_then (below_alloc (below_alloc (Below.refl _ w) (.cells #[.int .i64 s0, .int .i64 s1, .int .i64 s2, .int .i64 s3, .int .i64 s4] 25)) (.cells #[.int .i64 0, .int .i64 0, .int .i64 0, .int .i64 0, .int .i64 0] 25)) (by simp; omega) hb1
    obtain ⟨x0, x1, x2, x3, x4, xf⟩ := cells5 hX
    obtain ⟨y0, y1, y2, y3, y4, yf⟩ := cells5 hY
    clear hb1
    rw [HS.out]
  · go_wp2_with fail
    all_goals exact no_ret (bset1 (bset1 (bset1 (bset1 (bset1 hB))))) rfl rfl rfl (set5 hY _ _ _ _ _)
  · go_wp2_with fail
    refine (in_any _ _ _ _).mono ?_
    rintro e w2 ⟨rfl, n2, rfl⟩
    rw [H2.out]
    go_wp2_with fail
    all_goals exact no_ret (bset1 (bset1 (bset1 (bset1 (bset1 (pw_below_drewN hB _)))))) rfl rfl rfl (set5 (blk_drewN hY _) _ _ _ _ _)
  · go_wp2_with fail
    refine (in_any _ _ _ _).mono ?_
    rintro e w2 ⟨rfl, n2, rfl⟩
    rw [H2.out]
    go_wp2_with fail
    refine (in_any _ _ _ _).mono ?_
    rintro e w2 ⟨rfl, n2, rfl⟩
    rw [H3.out]
    go_wp2_with fail
    all_goals exact no_ret (bset1 (bset1 (bset1 (bset1 (bset1 (pw_below_drewN hB _)))))) rfl rfl rfl (set5 (blk_drewN hY _) _ _ _ _ _)
  · go_wp2_with fail
    refine (in_any _ _ _ _).mono ?_
    rintro e w2 ⟨rfl, n2, rfl⟩
    rw [H2.out]
    go_wp2_with fail
    refine (in_any _ _ _ _).mono ?_
    rintro e w2 ⟨rfl, n2, rfl⟩
    rw [H3.out]
    go_wp2_with fail
    all_goals exact no_ret (bset1 (bset1 (bset1 (bset1 (bset1 (pw_below_drewN hB _)))))) rfl rfl rfl (set5 (blk_drewN hY _) _ _ _ _ _)
/-- Does a step of the soil go? -/
def stepB (s0 s1 s2 s3 s4 t r : Int) : Bool := soilB s0 s1 s2 s3 s4 && (inBt t (-800) 800 && (inBt r 0 5000 && decide (s4 ≤ 1000000000000 - r)))
def stepT (a0 a1 a2 a3 a4 : Int) : Int × Int × Int × Int × Int × Bool := (a0, a1 - dnI a1 a2 - ovI (a1 - dnI a1 a2), a2 + dnI a1 a2 - (a2 + dnI a1 a2) / 50, a3 + ovI (a1 - dnI a1 a2) + (a2 + dnI a1 a2) / 50, a4, true)
def meltI (s t : Int) : Int := if 3 * t / 10 < s then 3 * t / 10 else s
def dryI (s t : Int) : Int := if t / 20 < s then t / 20 else s
def spec_SoilStep.f (s0 s1 s2 s3 s4 t r : Int) : Option (Int × Int × Int × Int × Int × Bool) :=
  if stepB s0 s1 s2 s3 s4 t r = true then some (if 0 < t then stepT (s0 - meltI s0 t) (s1 + r + meltI s0 t - dryI (s1 + r + meltI s0 t) t) s2 (s3 + dryI (s1 + r + meltI s0 t) t) (s4 + r)
    else if t < 0 then stepT (s0 + r) s1 s2 s3 (s4 + r) else stepT s0 (s1 + r) s2 s3 (s4 + r)) else some (0, 0, 0, 0, 0, false)
theorem spec_SoilStep.calls (a0_0 a0_1 a0_2 a0_3 a0_4 a1 a2 r1 r2 r3 r4 r5 : Int) (r6 : Bool) (w : World) (h : spec_SoilStep.f a0_0 a0_1 a0_2 a0_3 a0_4 a1 a2 = some (r1, r2, r3, r4, r5, r6)) :
    Calls Tryd.prog 6 #[.agg #[.int .i64 a0_0, .int .i64 a0_1, .int .i64 a0_2, .int .i64 a0_3, .int .i64 a0_4], .int .i64 a1, .int .i64 a2] w fun e w' => e = .returned (.tuple #[.agg #[.int .i64 r1, .int .i64 r2, .int .i64 r3, .int .i64 r4, .int .i64 r5], .bool r6]) ∧ Below w.heap.size w w' := by
  unfold spec_SoilStep.f at h
  by_cases hb : stepB a0_0 a0_1 a0_2 a0_3 a0_4 a1 a2 = true
  · rw [if_pos hb] at h
    unfold stepB at hb
    simp only [Bool.and_eq_true, decide_eq_true_eq] at hb
    obtain ⟨hs, h1, h2, hf⟩ := hb
    have t1 := of_decide_eq_true h1
    have t2 := of_decide_eq_true h2
    by_cases c : 0 < a1
    · rw [if_pos c] at h
      simp only [stepT, Option.some.injEq, Prod.mk.injEq] at h
      obtain ⟨rfl, rfl, rfl, rfl, rfl, rfl⟩ := h
      exact step_pos a0_0 a0_1 a0_2 a0_3 a0_4 a1 a2 (meltI a0_0 a1) (dryI (a0_1 + a2 + meltI a0_0 a1) a1) _ _ w hs c t1.2 t2.1 t2.2 hf (Lib.hid rfl) (Lib.hid rfl) (Lib.hid rfl) (Lib.hid rfl)
    · rw [if_neg c] at h
      by_cases c2 : a1 < 0
      · rw [if_pos c2] at h
        simp only [stepT, Option.some.injEq, Prod.mk.injEq] at h
        obtain ⟨rfl, rfl, rfl, rfl, rfl, rfl⟩ := h
        exact step_neg a0_0 a0_1 a0_2 a0_3 a0_4 a1 a2 0 0 _ _ w hs c2 t1.1 t2.1 t2.2 hf (Lib.hid rfl) (Lib.hid rfl)
      · rw [if_neg c2] at h
        simp only [stepT, Option.some.injEq, Prod.mk.injEq] at h
        obtain ⟨rfl, rfl, rfl, rfl, rfl, rfl⟩ := h
        exact step_zero a0_0 a0_1 a0_2 a0_3 a0_4 a1 a2 0 0 _ _ w hs c c2 t2.1 t2.2 hf (Lib.hid rfl) (Lib.hid rfl)
  · rw [if_neg hb] at h
    simp only [Option.some.injEq, Prod.mk.injEq] at h
    obtain ⟨rfl, rfl, rfl, rfl, rfl, rfl⟩ := h
    refine step_no a0_0 a0_1 a0_2 a0_3 a0_4 a1 a2 w ?_
    unfold stepB at hb
    cases h1 : soilB a0_0 a0_1 a0_2 a0_3 a0_4 with
    | false => exact .inl rfl
    | true =>
      refine .inr ⟨rfl, ?_⟩
      cases h2 : inBt a1 (-800) 800 with
      | false => exact .inl rfl
      | true =>
        refine .inr ⟨rfl, ?_⟩
        cases h3 : inBt a2 0 5000 with
        | false => exact .inl rfl
        | true =>
          refine .inr ⟨rfl, ?_⟩
          rw [h1, h2, h3] at hb
          simp at hb
          omega
end Go.Proofs.YtjkhmjnigjfnmaaDoor.F
