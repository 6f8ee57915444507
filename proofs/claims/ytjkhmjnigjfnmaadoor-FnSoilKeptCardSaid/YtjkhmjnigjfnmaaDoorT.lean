/-
  The program's SoilStep: what it keeps, and where it does not go.
-/
import Derived.Test.YtjkhmjnigjfnmaaDoorF2
import Derived.Test.YtjkhmjnigjfnmaaDoorS
namespace Go.Proofs.YtjkhmjnigjfnmaaDoor.T
open Go Go.RowKit Go.Proofs.YtjkhmjnigjfnmaaDoorW.PrintWords Go.Proofs.YtjkhmjnigjfnmaaDoor.F
set_option linter.unusedVariables false
set_option linter.unusedSimpArgs false
theorem iin_f (a b c : Int) : impl_in.f a b c = some (decide (b ≤ a ∧ a ≤ c)) := by
  unfold impl_in.f
  by_cases h : a ≥ b
  · rw [if_pos h]
    congr 1
    exact decide_eq_decide.2 (by omega)
  · rw [if_neg h, decide_eq_false (by omega)]
theorem isoilOk_f (s0 s1 s2 s3 s4 : Int) : impl_soilOk.f s0 s1 s2 s3 s4 = some (soilB s0 s1 s2 s3 s4) := by
  unfold impl_soilOk.f
  simp only [iin_f, Option.bind_some]
  unfold soilB
  simp
  by_cases h0 : 0 ≤ s0 ∧ s0 ≤ 1000000000000
  · by_cases h1 : 0 ≤ s1 ∧ s1 ≤ 400
    · by_cases h2 : 0 ≤ s2 ∧ s2 ≤ 1500
      · by_cases h3 : 0 ≤ s3 ∧ s3 ≤ 1000000000000
        · by_cases h4 : 0 ≤ s4 ∧ s4 ≤ 1000000000000
          · rw [wrap_id (x := s0 + s1) (by omega) (by omega), wrap_id (x := s0 + s1 + s2) (by omega) (by omega), wrap_id (x := s0 + s1 + s2 + s3) (by omega) (by omega)]
            simp [h0, h1, h2, h3, h4]
            rw [Bool.eq_iff_iff]
            simp
          · rw [if_neg h4]; simp [h0, h1, h2, h3]; omega
        · rw [if_neg h3]; simp [h0, h1, h2]; omega
      · rw [if_neg h2]; simp [h0, h1]; omega
    · rw [if_neg h1]; simp [h0]; omega
  · rw [if_neg h0]; simp; omega
theorem isoilOk_any (s0 s1 s2 s3 s4 : Int) (w : World) : Calls Tryd.prog 15 #[.agg #[.int .i64 s0, .int .i64 s1, .int .i64 s2, .int .i64 s3, .int .i64 s4]] w fun e w' => e = .returned (.bool (soilB s0 s1 s2 s3 s4)) ∧ Below w.heap.size w w' :=
  impl_soilOk.calls _ _ _ _ _ _ _ (isoilOk_f s0 s1 s2 s3 s4)
theorem iin_any (a b c : Int) (w : World) : Calls Tryd.prog 16 #[.int .i64 a, .int .i64 b, .int .i64 c] w fun e w' => e = .returned (.bool (inBt a b c)) ∧ Drawn0 w w' :=
  impl_in.calls _ _ _ _ _ (iin_f a b c)
/-- What a step keeps. -/
def Good (s3 s4 r x0 x1 x2 x3 x4 : Int) : Prop := x4 = s4 + r ∧ x0 + x1 + x2 + x3 = x4 ∧ 0 ≤ x0 ∧ 0 ≤ x1 ∧ x1 ≤ 400 ∧ 0 ≤ x2 ∧ x2 ≤ 1500 ∧ s3 ≤ x3 ∧ 0 ≤ s3 ∧ x4 ≤ 1000000000000
def StepPost (s3 s4 r : Int) (w : World) (e : Ending) (w' : World) : Prop := ∃ x0 x1 x2 x3 x4 : Int, e = .returned (.tuple #[.agg #[.int .i64 x0, .int .i64 x1, .int .i64 x2, .int .i64 x3, .int .i64 x4], .bool true]) ∧ Good s3 s4 r x0 x1 x2 x3 x4 ∧ Below w.heap.size w w'
theorem step_ret {s3 s4 r x0 x1 x2 x3 x4 : Int} {w w' : World} {a : Act} (hg5 : Good s3 s4 r x0 x1 x2 x3 x4) (hb : Below w.heap.size w w') (h2 : a.tmps.getD 6 undef = .pointer (some ⟨w.heap.size + 1, 0, none⟩)) (h3 : a.tmps.getD 7 undef = .bool true) (hdf : a.defers = [])
    (hg : w'.heap[w.heap.size + 1]? = some (.cells #[.int .i64 x0, .int .i64 x1, .int .i64 x2, .int .i64 x3, .int .i64 x4] 25 (0, 0))) : bodyPost Tryd.prog Tryd.f7 (StepPost s3 s4 r w) Exit.ret a w' := by
  have hres := results_ct (P := Tryd.prog) (fn := Tryd.f7) (p := 6) (u := 7) (ty := 25) rfl a.tmps w' (w.heap.size + 1) 25 _ (0, 0) _ h2 hg Tryd.underlying25 rfl (by kernel_rfl)
  rw [h3] at hres
  exact bodyPost_ret hres hdf ⟨x0, x1, x2, x3, x4, rfl, hg5, hb⟩
theorem ino_ret {w w' : World} {a : Act} (hb : Below w.heap.size w w') (h2 : a.tmps.getD 6 undef = .pointer (some ⟨w.heap.size + 1, 0, none⟩)) (h3 : a.tmps.getD 7 undef = .bool false) (hdf : a.defers = [])
    (hg : w'.heap[w.heap.size + 1]? = some (.cells #[.int .i64 0, .int .i64 0, .int .i64 0, .int .i64 0, .int .i64 0] 25 (0, 0))) : bodyPost Tryd.prog Tryd.f7 (fun e w' => e = .returned (.tuple #[.agg #[.int .i64 0, .int .i64 0, .int .i64 0, .int .i64 0, .int .i64 0], .bool false]) ∧ Below w.heap.size w w') Exit.ret a w' := by
  have hres := results_ct (P := Tryd.prog) (fn := Tryd.f7) (p := 6) (u := 7) (ty := 25) rfl a.tmps w' (w.heap.size + 1) 25 _ (0, 0) _ h2 hg Tryd.underlying25 rfl (by kernel_rfl)
  rw [h3] at hres
  exact bodyPost_ret hres hdf ⟨rfl, hb⟩
set_option maxRecDepth 100000 in
set_option maxHeartbeats 1600000 in
theorem step_pos0 (s0 s1 s2 s3 s4 t r m d dn : Int) (w : World) (hs : soilB s0 s1 s2 s3 s4 = true) (ht : 0 < t) (ht2 : t ≤ 800) (hr : 0 ≤ r) (hr2 : r ≤ 5000) (hf : s4 ≤ 1000000000000 - r) (HM : Hid ((if 3 * t / 10 < s0 then 3 * t / 10 else s0) = m)) (HD : Hid ((if t / 20 < s1 + r + m then t / 20 else s1 + r + m) = d)) (HDn : Hid ((if 1500 - s2 < (s1 + r + m - d - 100) / 4 then 1500 - s2 else (s1 + r + m - d - 100) / 4) = dn)) (hw : s1 + r + m - d ≤ 100) :
    Calls Tryd.prog 7 #[.agg #[.int .i64 s0, .int .i64 s1, .int .i64 s2, .int .i64 s3, .int .i64 s4], .int .i64 t, .int .i64 r] w (StepPost s3 s4 r w) := by
  have hT : ¬ t < 0 := by omega
  have hb := of_decide_eq_true hs
  obtain ⟨b0, c0, b1, c1, b2, c2, b3, c3, b4, c4, hsum⟩ := hb
  have HS := Lib.hid hs
  have HSum := Lib.hid hsum
  have i1 : inBt t (-800) 800 = true := decide_eq_true (by omega)
  have i2 : inBt r 0 5000 = true := decide_eq_true (by omega)
  clear hs hsum
  go_enter Tryd.func7, Tryd.ntmps7
  go_wp2_with fail
  refine (isoilOk_any _ _ _ _ _ _).mono ?_
  rintro e w1 ⟨rfl, hb1⟩
  rw [HS.out]
  have hX := blk_below (blk_alloc (blk_new w (.cells #[.int .i64 s0, .int .i64 s1, .int .i64 s2, .int .i64 s3, .int .i64 s4] 25)) (.cells #[.int .i64 0, .int .i64 0, .int .i64 0, .int .i64 0, .int .i64 0] 25)) hb1
  have hY := blk_below (blk_new (w.alloc (.cells #[.int .i64 s0, .int .i64 s1, .int .i64 s2, .int .i64 s3, .int .i64 s4] 25)) (.cells #[.int .i64 0, .int .i64 0, .int .i64 0, .int .i64 0, .int .i64 0] 25)) hb1
  simp only [World.size_alloc] at hY
  obtain ⟨x0, x1, x2, x3, x4, xf⟩ := cells5 hX
  go_wp2_with fail
  refine (iin_any _ _ _ _).mono ?_
  rintro e w2 ⟨rfl, n2, rfl⟩
  rw [i1]
  go_wp2_with fail
  refine (iin_any _ _ _ _).mono ?_
  rintro e w2 ⟨rfl, n2, rfl⟩
  rw [i2]
  have hB := below_then (below_alloc (below_alloc (Below.refl _ w) (.cells #[.int .i64 s0, .int .i64 s1, .int .i64 s2, .int .i64 s3, .int .i64 s4] 25)) (.cells #[.int .i64 0, .int .i64 0, .int .i64 0, .int .i64 0, .int .i64 0] 25)) (by simp; omega) hb1
  have ne : w.heap.size + 1 ≠ w.heap.size := by omega
  clear hb1 i1 i2
  go_upto_region 9 with (fail)
  have hm := mn_bd (a := s0) (b := 3 * t / 10) b0 (by omega)
  rw [HM.out] at hm ⊢
  obtain ⟨m0, m1, m2⟩ := hm
  refine relet (w := w) (blk_set (blk_set (blk_drewN hX _) 4 _) 1 _) (far_set (far_set (blk_drewN hY _) ne _) ne _) (bset0 (bset0 (pw_below_drewN hB _))) ?_
  clear hX hY hB x0 x1 x2 x3 x4 xf
  intro w3 hX hY hB
  simp only [List.setIfInBounds_toArray, List.set_cons_zero, List.set_cons_succ] at hX
  obtain ⟨x0, x1, x2, x3, x4, xf⟩ := cells5 hX
  go_upto_region 12 with (fail)
  have hm := mn_bd (a := s1 + r + m) (b := t / 20) (by omega) (by omega)
  rw [HD.out] at hm ⊢
  obtain ⟨d0, d1, d2⟩ := hm
  refine relet (w := w) (blk_set (blk_set hX 0 _) 1 _) (far_set (far_set hY ne _) ne _) (bset0 (bset0 hB)) ?_
  clear hX hY hB x0 x1 x2 x3 x4 xf
  intro w4 hX hY hB
  simp only [List.setIfInBounds_toArray, List.set_cons_zero, List.set_cons_succ] at hX
  obtain ⟨x0, x1, x2, x3, x4, xf⟩ := cells5 hX
  go_upto_region 14 with (fail)
  refine relet (w := w) (blk_set (blk_set hX 1 _) 3 _) (far_set (far_set hY ne _) ne _) (bset0 (bset0 hB)) ?_
  clear hX hY hB x0 x1 x2 x3 x4 xf
  intro w5 hX hY hB
  simp only [List.setIfInBounds_toArray, List.set_cons_zero, List.set_cons_succ] at hX
  obtain ⟨x0, x1, x2, x3, x4, xf⟩ := cells5 hX
  go_upto_region 23 with (fail)
  refine relet (w := w) (blk_set hX 2 _) (far_set hY ne _) (bset0 hB) ?_
  clear hX hY hB x0 x1 x2 x3 x4 xf
  intro w6 hX hY hB
  simp only [List.setIfInBounds_toArray, List.set_cons_zero, List.set_cons_succ] at hX
  obtain ⟨x0, x1, x2, x3, x4, xf⟩ := cells5 hX
  go_upto_region 24 with (fail)
  refine relet (w := w) (blk_set hX 3 _) (far_set hY ne _) (bset0 hB) ?_
  clear hX hY hB x0 x1 x2 x3 x4 xf
  intro w7 hX hY hB
  simp only [List.setIfInBounds_toArray, List.set_cons_zero, List.set_cons_succ] at hX
  obtain ⟨x0, x1, x2, x3, x4, xf⟩ := cells5 hX
  obtain ⟨y0, y1, y2, y3, y4, yf⟩ := cells5 hY
  go_wp2
  all_goals exact step_ret (by have := HSum.out; unfold Good; omega) (bset1 (bset1 (bset1 (bset1 (bset1 hB))))) rfl rfl rfl (set5 hY _ _ _ _ _)
set_option maxRecDepth 100000 in
set_option maxHeartbeats 1600000 in
theorem step_neg0 (s0 s1 s2 s3 s4 t r m d dn : Int) (w : World) (hs : soilB s0 s1 s2 s3 s4 = true) (ht : t < 0) (ht2 : -800 ≤ t) (hr : 0 ≤ r) (hr2 : r ≤ 5000) (hf : s4 ≤ 1000000000000 - r) (HDn : Hid ((if 1500 - s2 < (s1 - 100) / 4 then 1500 - s2 else (s1 - 100) / 4) = dn)) (hw : s1 ≤ 100) :
    Calls Tryd.prog 7 #[.agg #[.int .i64 s0, .int .i64 s1, .int .i64 s2, .int .i64 s3, .int .i64 s4], .int .i64 t, .int .i64 r] w (StepPost s3 s4 r w) := by
  have hT : ¬ 0 < t := by omega
  have hb := of_decide_eq_true hs
  obtain ⟨b0, c0, b1, c1, b2, c2, b3, c3, b4, c4, hsum⟩ := hb
  have HS := Lib.hid hs
  have HSum := Lib.hid hsum
  have i1 : inBt t (-800) 800 = true := decide_eq_true (by omega)
  have i2 : inBt r 0 5000 = true := decide_eq_true (by omega)
  clear hs hsum
  go_enter Tryd.func7, Tryd.ntmps7
  go_wp2_with fail
  refine (isoilOk_any _ _ _ _ _ _).mono ?_
  rintro e w1 ⟨rfl, hb1⟩
  rw [HS.out]
  have hX := blk_below (blk_alloc (blk_new w (.cells #[.int .i64 s0, .int .i64 s1, .int .i64 s2, .int .i64 s3, .int .i64 s4] 25)) (.cells #[.int .i64 0, .int .i64 0, .int .i64 0, .int .i64 0, .int .i64 0] 25)) hb1
  have hY := blk_below (blk_new (w.alloc (.cells #[.int .i64 s0, .int .i64 s1, .int .i64 s2, .int .i64 s3, .int .i64 s4] 25)) (.cells #[.int .i64 0, .int .i64 0, .int .i64 0, .int .i64 0, .int .i64 0] 25)) hb1
  simp only [World.size_alloc] at hY
  obtain ⟨x0, x1, x2, x3, x4, xf⟩ := cells5 hX
  go_wp2_with fail
  refine (iin_any _ _ _ _).mono ?_
  rintro e w2 ⟨rfl, n2, rfl⟩
  rw [i1]
  go_wp2_with fail
  refine (iin_any _ _ _ _).mono ?_
  rintro e w2 ⟨rfl, n2, rfl⟩
  rw [i2]
  have hB := below_then (below_alloc (below_alloc (Below.refl _ w) (.cells #[.int .i64 s0, .int .i64 s1, .int .i64 s2, .int .i64 s3, .int .i64 s4] 25)) (.cells #[.int .i64 0, .int .i64 0, .int .i64 0, .int .i64 0, .int .i64 0] 25)) (by simp; omega) hb1
  have ne : w.heap.size + 1 ≠ w.heap.size := by omega
  clear hb1 i1 i2
  go_upto_region 14 with (fail)
  refine relet (w := w) (blk_set (blk_set (blk_drewN hX _) 4 _) 0 _) (far_set (far_set (blk_drewN hY _) ne _) ne _) (bset0 (bset0 (pw_below_drewN hB _))) ?_
  clear hX hY hB x0 x1 x2 x3 x4 xf
  intro w8 hX hY hB
  simp only [List.setIfInBounds_toArray, List.set_cons_zero, List.set_cons_succ] at hX
  obtain ⟨x0, x1, x2, x3, x4, xf⟩ := cells5 hX
  go_upto_region 23 with (fail)
  refine relet (w := w) (blk_set hX 2 _) (far_set hY ne _) (bset0 hB) ?_
  clear hX hY hB x0 x1 x2 x3 x4 xf
  intro w9 hX hY hB
  simp only [List.setIfInBounds_toArray, List.set_cons_zero, List.set_cons_succ] at hX
  obtain ⟨x0, x1, x2, x3, x4, xf⟩ := cells5 hX
  go_upto_region 24 with (fail)
  refine relet (w := w) (blk_set hX 3 _) (far_set hY ne _) (bset0 hB) ?_
  clear hX hY hB x0 x1 x2 x3 x4 xf
  intro w10 hX hY hB
  simp only [List.setIfInBounds_toArray, List.set_cons_zero, List.set_cons_succ] at hX
  obtain ⟨x0, x1, x2, x3, x4, xf⟩ := cells5 hX
  obtain ⟨y0, y1, y2, y3, y4, yf⟩ := cells5 hY
  go_wp2
  all_goals exact step_ret (by have := HSum.out; unfold Good; omega) (bset1 (bset1 (bset1 (bset1 (bset1 hB))))) rfl rfl rfl (set5 hY _ _ _ _ _)
set_option maxRecDepth 100000 in
set_option maxHeartbeats 1600000 in
theorem step_zero0 (s0 s1 s2 s3 s4 t r m d dn : Int) (w : World) (hs : soilB s0 s1 s2 s3 s4 = true) (ht : ¬ 0 < t) (ht2 : ¬ t < 0) (hr : 0 ≤ r) (hr2 : r ≤ 5000) (hf : s4 ≤ 1000000000000 - r) (HDn : Hid ((if 1500 - s2 < (s1 + r - 100) / 4 then 1500 - s2 else (s1 + r - 100) / 4) = dn)) (hw : s1 + r ≤ 100) :
    Calls Tryd.prog 7 #[.agg #[.int .i64 s0, .int .i64 s1, .int .i64 s2, .int .i64 s3, .int .i64 s4], .int .i64 t, .int .i64 r] w (StepPost s3 s4 r w) := by
  have hb := of_decide_eq_true hs
  obtain ⟨b0, c0, b1, c1, b2, c2, b3, c3, b4, c4, hsum⟩ := hb
  have HS := Lib.hid hs
  have HSum := Lib.hid hsum
  have i1 : inBt t (-800) 800 = true := decide_eq_true (by omega)
  have i2 : inBt r 0 5000 = true := decide_eq_true (by omega)
  clear hs hsum
  go_enter Tryd.func7, Tryd.ntmps7
  go_wp2_with fail
  refine (isoilOk_any _ _ _ _ _ _).mono ?_
  rintro e w1 ⟨rfl, hb1⟩
  rw [HS.out]
  have hX := blk_below (blk_alloc (blk_new w (.cells #[.int .i64 s0, .int .i64 s1, .int .i64 s2, .int .i64 s3, .int .i64 s4] 25)) (.cells #[.int .i64 0, .int .i64 0, .int .i64 0, .int .i64 0, .int .i64 0] 25)) hb1
  have hY := blk_below (blk_new (w.alloc (.cells #[.int .i64 s0, .int .i64 s1, .int .i64 s2, .int .i64 s3, .int .i64 s4] 25)) (.cells #[.int .i64 0, .int .i64 0, .int .i64 0, .int .i64 0, .int .i64 0] 25)) hb1
  simp only [World.size_alloc] at hY
  obtain ⟨x0, x1, x2, x3, x4, xf⟩ := cells5 hX
  go_wp2_with fail
  refine (iin_any _ _ _ _).mono ?_
  rintro e w2 ⟨rfl, n2, rfl⟩
  rw [i1]
  go_wp2_with fail
  refine (iin_any _ _ _ _).mono ?_
  rintro e w2 ⟨rfl, n2, rfl⟩
  rw [i2]
  have hB := below_then (below_alloc (below_alloc (Below.refl _ w) (.cells #[.int .i64 s0, .int .i64 s1, .int .i64 s2, .int .i64 s3, .int .i64 s4] 25)) (.cells #[.int .i64 0, .int .i64 0, .int .i64 0, .int .i64 0, .int .i64 0] 25)) (by simp; omega) hb1
  have ne : w.heap.size + 1 ≠ w.heap.size := by omega
  clear hb1 i1 i2
  go_upto_region 14 with (fail)
  refine relet (w := w) (blk_set (blk_set (blk_drewN hX _) 4 _) 1 _) (far_set (far_set (blk_drewN hY _) ne _) ne _) (bset0 (bset0 (pw_below_drewN hB _))) ?_
  clear hX hY hB x0 x1 x2 x3 x4 xf
  intro w11 hX hY hB
  simp only [List.setIfInBounds_toArray, List.set_cons_zero, List.set_cons_succ] at hX
  obtain ⟨x0, x1, x2, x3, x4, xf⟩ := cells5 hX
  go_upto_region 23 with (fail)
  refine relet (w := w) (blk_set hX 2 _) (far_set hY ne _) (bset0 hB) ?_
  clear hX hY hB x0 x1 x2 x3 x4 xf
  intro w12 hX hY hB
  simp only [List.setIfInBounds_toArray, List.set_cons_zero, List.set_cons_succ] at hX
  obtain ⟨x0, x1, x2, x3, x4, xf⟩ := cells5 hX
  go_upto_region 24 with (fail)
  refine relet (w := w) (blk_set hX 3 _) (far_set hY ne _) (bset0 hB) ?_
  clear hX hY hB x0 x1 x2 x3 x4 xf
  intro w13 hX hY hB
  simp only [List.setIfInBounds_toArray, List.set_cons_zero, List.set_cons_succ] at hX
  obtain ⟨x0, x1, x2, x3, x4, xf⟩ := cells5 hX
  obtain ⟨y0, y1, y2, y3, y4, yf⟩ := cells5 hY
  go_wp2
  all_goals exact step_ret (by have := HSum.out; unfold Good; omega) (bset1 (bset1 (bset1 (bset1 (bset1 hB))))) rfl rfl rfl (set5 hY _ _ _ _ _)
set_option maxRecDepth 100000 in
set_option maxHeartbeats 1600000 in
theorem step_pos1 (s0 s1 s2 s3 s4 t r m d dn : Int) (w : World) (hs : soilB s0 s1 s2 s3 s4 = true) (ht : 0 < t) (ht2 : t ≤ 800) (hr : 0 ≤ r) (hr2 : r ≤ 5000) (hf : s4 ≤ 1000000000000 - r) (HM : Hid ((if 3 * t / 10 < s0 then 3 * t / 10 else s0) = m)) (HD : Hid ((if t / 20 < s1 + r + m then t / 20 else s1 + r + m) = d)) (HDn : Hid ((if 1500 - s2 < (s1 + r + m - d - 100) / 4 then 1500 - s2 else (s1 + r + m - d - 100) / 4) = dn)) (hw0 : 100 < s1 + r + m - d) (hw : s1 + r + m - d - dn ≤ 400) :
    Calls Tryd.prog 7 #[.agg #[.int .i64 s0, .int .i64 s1, .int .i64 s2, .int .i64 s3, .int .i64 s4], .int .i64 t, .int .i64 r] w (StepPost s3 s4 r w) := by
  have hT : ¬ t < 0 := by omega
  have hb := of_decide_eq_true hs
  obtain ⟨b0, c0, b1, c1, b2, c2, b3, c3, b4, c4, hsum⟩ := hb
  have HS := Lib.hid hs
  have HSum := Lib.hid hsum
  have i1 : inBt t (-800) 800 = true := decide_eq_true (by omega)
  have i2 : inBt r 0 5000 = true := decide_eq_true (by omega)
  clear hs hsum
  go_enter Tryd.func7, Tryd.ntmps7
  go_wp2_with fail
  refine (isoilOk_any _ _ _ _ _ _).mono ?_
  rintro e w1 ⟨rfl, hb1⟩
  rw [HS.out]
  have hX := blk_below (blk_alloc (blk_new w (.cells #[.int .i64 s0, .int .i64 s1, .int .i64 s2, .int .i64 s3, .int .i64 s4] 25)) (.cells #[.int .i64 0, .int .i64 0, .int .i64 0, .int .i64 0, .int .i64 0] 25)) hb1
  have hY := blk_below (blk_new (w.alloc (.cells #[.int .i64 s0, .int .i64 s1, .int .i64 s2, .int .i64 s3, .int .i64 s4] 25)) (.cells #[.int .i64 0, .int .i64 0, .int .i64 0, .int .i64 0, .int .i64 0] 25)) hb1
  simp only [World.size_alloc] at hY
  obtain ⟨x0, x1, x2, x3, x4, xf⟩ := cells5 hX
  go_wp2_with fail
  refine (iin_any _ _ _ _).mono ?_
  rintro e w2 ⟨rfl, n2, rfl⟩
  rw [i1]
  go_wp2_with fail
  refine (iin_any _ _ _ _).mono ?_
  rintro e w2 ⟨rfl, n2, rfl⟩
  rw [i2]
  have hB := below_then (below_alloc (below_alloc (Below.refl _ w) (.cells #[.int .i64 s0, .int .i64 s1, .int .i64 s2, .int .i64 s3, .int .i64 s4] 25)) (.cells #[.int .i64 0, .int .i64 0, .int .i64 0, .int .i64 0, .int .i64 0] 25)) (by simp; omega) hb1
  have ne : w.heap.size + 1 ≠ w.heap.size := by omega
  clear hb1 i1 i2
  go_upto_region 9 with (fail)
  have hm := mn_bd (a := s0) (b := 3 * t / 10) b0 (by omega)
  rw [HM.out] at hm ⊢
  obtain ⟨m0, m1, m2⟩ := hm
  refine relet (w := w) (blk_set (blk_set (blk_drewN hX _) 4 _) 1 _) (far_set (far_set (blk_drewN hY _) ne _) ne _) (bset0 (bset0 (pw_below_drewN hB _))) ?_
  clear hX hY hB x0 x1 x2 x3 x4 xf
  intro w14 hX hY hB
  simp only [List.setIfInBounds_toArray, List.set_cons_zero, List.set_cons_succ] at hX
  obtain ⟨x0, x1, x2, x3, x4, xf⟩ := cells5 hX
  go_upto_region 12 with (fail)
  have hm := mn_bd (a := s1 + r + m) (b := t / 20) (by omega) (by omega)
  rw [HD.out] at hm ⊢
  obtain ⟨d0, d1, d2⟩ := hm
  refine relet (w := w) (blk_set (blk_set hX 0 _) 1 _) (far_set (far_set hY ne _) ne _) (bset0 (bset0 hB)) ?_
  clear hX hY hB x0 x1 x2 x3 x4 xf
  intro w15 hX hY hB
  simp only [List.setIfInBounds_toArray, List.set_cons_zero, List.set_cons_succ] at hX
  obtain ⟨x0, x1, x2, x3, x4, xf⟩ := cells5 hX
  go_upto_region 14 with (fail)
  refine relet (w := w) (blk_set (blk_set hX 1 _) 3 _) (far_set (far_set hY ne _) ne _) (bset0 (bset0 hB)) ?_
  clear hX hY hB x0 x1 x2 x3 x4 xf
  intro w16 hX hY hB
  simp only [List.setIfInBounds_toArray, List.set_cons_zero, List.set_cons_succ] at hX
  obtain ⟨x0, x1, x2, x3, x4, xf⟩ := cells5 hX
  have hd := mn_bd (a := (s1 + r + m - d - 100) / 4) (b := 1500 - s2) (by omega) (by omega)
  rw [HDn.out] at hd
  obtain ⟨d0_, d1_, d2_⟩ := hd
  go_upto_region 16 with (fail)
  rw [HDn.out]
  go_upto_region 18 with (fail)
  refine relet (w := w) (blk_set (blk_set hX 1 _) 2 _) (far_set (far_set hY ne _) ne _) (bset0 (bset0 hB)) ?_
  clear hX hY hB x0 x1 x2 x3 x4 xf
  intro w17 hX hY hB
  simp only [List.setIfInBounds_toArray, List.set_cons_zero, List.set_cons_succ] at hX
  obtain ⟨x0, x1, x2, x3, x4, xf⟩ := cells5 hX
  go_upto_region 23 with (fail)
  refine relet (w := w) (blk_set hX 2 _) (far_set hY ne _) (bset0 hB) ?_
  clear hX hY hB x0 x1 x2 x3 x4 xf
  intro w18 hX hY hB
  simp only [List.setIfInBounds_toArray, List.set_cons_zero, List.set_cons_succ] at hX
  obtain ⟨x0, x1, x2, x3, x4, xf⟩ := cells5 hX
  go_upto_region 24 with (fail)
  refine relet (w := w) (blk_set hX 3 _) (far_set hY ne _) (bset0 hB) ?_
  clear hX hY hB x0 x1 x2 x3 x4 xf
  intro w19 hX hY hB
  simp only [List.setIfInBounds_toArray, List.set_cons_zero, List.set_cons_succ] at hX
  obtain ⟨x0, x1, x2, x3, x4, xf⟩ := cells5 hX
  obtain ⟨y0, y1, y2, y3, y4, yf⟩ := cells5 hY
  go_wp2
  all_goals exact step_ret (by have := HSum.out; unfold Good; omega) (bset1 (bset1 (bset1 (bset1 (bset1 hB))))) rfl rfl rfl (set5 hY _ _ _ _ _)
set_option maxRecDepth 100000 in
set_option maxHeartbeats 1600000 in
theorem step_neg1 (s0 s1 s2 s3 s4 t r m d dn : Int) (w : World) (hs : soilB s0 s1 s2 s3 s4 = true) (ht : t < 0) (ht2 : -800 ≤ t) (hr : 0 ≤ r) (hr2 : r ≤ 5000) (hf : s4 ≤ 1000000000000 - r) (HDn : Hid ((if 1500 - s2 < (s1 - 100) / 4 then 1500 - s2 else (s1 - 100) / 4) = dn)) (hw0 : 100 < s1) (hw : s1 - dn ≤ 400) :
    Calls Tryd.prog 7 #[.agg #[.int .i64 s0, .int .i64 s1, .int .i64 s2, .int .i64 s3, .int .i64 s4], .int .i64 t, .int .i64 r] w (StepPost s3 s4 r w) := by
  have hT : ¬ 0 < t := by omega
  have hb := of_decide_eq_true hs
  obtain ⟨b0, c0, b1, c1, b2, c2, b3, c3, b4, c4, hsum⟩ := hb
  have HS := Lib.hid hs
  have HSum := Lib.hid hsum
  have i1 : inBt t (-800) 800 = true := decide_eq_true (by omega)
  have i2 : inBt r 0 5000 = true := decide_eq_true (by omega)
  clear hs hsum
  go_enter Tryd.func7, Tryd.ntmps7
  go_wp2_with fail
  refine (isoilOk_any _ _ _ _ _ _).mono ?_
  rintro e w1 ⟨rfl, hb1⟩
  rw [HS.out]
  have hX := blk_below (blk_alloc (blk_new w (.cells #[.int .i64 s0, .int .i64 s1, .int .i64 s2, .int .i64 s3, .int .i64 s4] 25)) (.cells #[.int .i64 0, .int .i64 0, .int .i64 0, .int .i64 0, .int .i64 0] 25)) hb1
  have hY := blk_below (blk_new (w.alloc (.cells #[.int .i64 s0, .int .i64 s1, .int .i64 s2, .int .i64 s3, .int .i64 s4] 25)) (.cells #[.int .i64 0, .int .i64 0, .int .i64 0, .int .i64 0, .int .i64 0] 25)) hb1
  simp only [World.size_alloc] at hY
  obtain ⟨x0, x1, x2, x3, x4, xf⟩ := cells5 hX
  go_wp2_with fail
  refine (iin_any _ _ _ _).mono ?_
  rintro e w2 ⟨rfl, n2, rfl⟩
  rw [i1]
  go_wp2_with fail
  refine (iin_any _ _ _ _).mono ?_
  rintro e w2 ⟨rfl, n2, rfl⟩
  rw [i2]
  have hB := below_then (below_alloc (below_alloc (Below.refl _ w) (.cells #[.int .i64 s0, .int .i64 s1, .int .i64 s2, .int .i64 s3, .int .i64 s4] 25)) (.cells #[.int .i64 0, .int .i64 0, .int .i64 0, .int .i64 0, .int .i64 0] 25)) (by simp; omega) hb1
  have ne : w.heap.size + 1 ≠ w.heap.size := by omega
  clear hb1 i1 i2
  go_upto_region 14 with (fail)
  refine relet (w := w) (blk_set (blk_set (blk_drewN hX _) 4 _) 0 _) (far_set (far_set (blk_drewN hY _) ne _) ne _) (bset0 (bset0 (pw_below_drewN hB _))) ?_
  clear hX hY hB x0 x1 x2 x3 x4 xf
  intro w20 hX hY hB
  simp only [List.setIfInBounds_toArray, List.set_cons_zero, List.set_cons_succ] at hX
  obtain ⟨x0, x1, x2, x3, x4, xf⟩ := cells5 hX
  have hd := mn_bd (a := (s1 - 100) / 4) (b := 1500 - s2) (by omega) (by omega)
  rw [HDn.out] at hd
  obtain ⟨d0_, d1_, d2_⟩ := hd
  go_upto_region 16 with (fail)
  rw [HDn.out]
  go_upto_region 18 with (fail)
  refine relet (w := w) (blk_set (blk_set hX 1 _) 2 _) (far_set (far_set hY ne _) ne _) (bset0 (bset0 hB)) ?_
  clear hX hY hB x0 x1 x2 x3 x4 xf
  intro w21 hX hY hB
  simp only [List.setIfInBounds_toArray, List.set_cons_zero, List.set_cons_succ] at hX
  obtain ⟨x0, x1, x2, x3, x4, xf⟩ := cells5 hX
  go_upto_region 23 with (fail)
  refine relet (w := w) (blk_set hX 2 _) (far_set hY ne _) (bset0 hB) ?_
  clear hX hY hB x0 x1 x2 x3 x4 xf
  intro w22 hX hY hB
  simp only [List.setIfInBounds_toArray, List.set_cons_zero, List.set_cons_succ] at hX
  obtain ⟨x0, x1, x2, x3, x4, xf⟩ := cells5 hX
  go_upto_region 24 with (fail)
  refine relet (w := w) (blk_set hX 3 _) (far_set hY ne _) (bset0 hB) ?_
  clear hX hY hB x0 x1 x2 x3 x4 xf
  intro w23 hX hY hB
  simp only [List.setIfInBounds_toArray, List.set_cons_zero, List.set_cons_succ] at hX
  obtain ⟨x0, x1, x2, x3, x4, xf⟩ := cells5 hX
  obtain ⟨y0, y1, y2, y3, y4, yf⟩ := cells5 hY
  go_wp2
  all_goals exact step_ret (by have := HSum.out; unfold Good; omega) (bset1 (bset1 (bset1 (bset1 (bset1 hB))))) rfl rfl rfl (set5 hY _ _ _ _ _)
set_option maxRecDepth 100000 in
set_option maxHeartbeats 1600000 in
theorem step_zero1 (s0 s1 s2 s3 s4 t r m d dn : Int) (w : World) (hs : soilB s0 s1 s2 s3 s4 = true) (ht : ¬ 0 < t) (ht2 : ¬ t < 0) (hr : 0 ≤ r) (hr2 : r ≤ 5000) (hf : s4 ≤ 1000000000000 - r) (HDn : Hid ((if 1500 - s2 < (s1 + r - 100) / 4 then 1500 - s2 else (s1 + r - 100) / 4) = dn)) (hw0 : 100 < s1 + r) (hw : s1 + r - dn ≤ 400) :
    Calls Tryd.prog 7 #[.agg #[.int .i64 s0, .int .i64 s1, .int .i64 s2, .int .i64 s3, .int .i64 s4], .int .i64 t, .int .i64 r] w (StepPost s3 s4 r w) := by
  have hb := of_decide_eq_true hs
  obtain ⟨b0, c0, b1, c1, b2, c2, b3, c3, b4, c4, hsum⟩ := hb
  have HS := Lib.hid hs
  have HSum := Lib.hid hsum
  have i1 : inBt t (-800) 800 = true := decide_eq_true (by omega)
  have i2 : inBt r 0 5000 = true := decide_eq_true (by omega)
  clear hs hsum
  go_enter Tryd.func7, Tryd.ntmps7
  go_wp2_with fail
  refine (isoilOk_any _ _ _ _ _ _).mono ?_
  rintro e w1 ⟨rfl, hb1⟩
  rw [HS.out]
  have hX := blk_below (blk_alloc (blk_new w (.cells #[.int .i64 s0, .int .i64 s1, .int .i64 s2, .int .i64 s3, .int .i64 s4] 25)) (.cells #[.int .i64 0, .int .i64 0, .int .i64 0, .int .i64 0, .int .i64 0] 25)) hb1
  have hY := blk_below (blk_new (w.alloc (.cells #[.int .i64 s0, .int .i64 s1, .int .i64 s2, .int .i64 s3, .int .i64 s4] 25)) (.cells #[.int .i64 0, .int .i64 0, .int .i64 0, .int .i64 0, .int .i64 0] 25)) hb1
  simp only [World.size_alloc] at hY
  obtain ⟨x0, x1, x2, x3, x4, xf⟩ := cells5 hX
  go_wp2_with fail
  refine (iin_any _ _ _ _).mono ?_
  rintro e w2 ⟨rfl, n2, rfl⟩
  rw [i1]
  go_wp2_with fail
  refine (iin_any _ _ _ _).mono ?_
  rintro e w2 ⟨rfl, n2, rfl⟩
  rw [i2]
  have hB := below_then (below_alloc (below_alloc (Below.refl _ w) (.cells #[.int .i64 s0, .int .i64 s1, .int .i64 s2, .int .i64 s3, .int .i64 s4] 25)) (.cells #[.int .i64 0, .int .i64 0, .int .i64 0, .int .i64 0, .int .i64 0] 25)) (by simp; omega) hb1
  have ne : w.heap.size + 1 ≠ w.heap.size := by omega
  clear hb1 i1 i2
  go_upto_region 14 with (fail)
  refine relet (w := w) (blk_set (blk_set (blk_drewN hX _) 4 _) 1 _) (far_set (far_set (blk_drewN hY _) ne _) ne _) (bset0 (bset0 (pw_below_drewN hB _))) ?_
  clear hX hY hB x0 x1 x2 x3 x4 xf
  intro w24 hX hY hB
  simp only [List.setIfInBounds_toArray, List.set_cons_zero, List.set_cons_succ] at hX
  obtain ⟨x0, x1, x2, x3, x4, xf⟩ := cells5 hX
  have hd := mn_bd (a := (s1 + r - 100) / 4) (b := 1500 - s2) (by omega) (by omega)
  rw [HDn.out] at hd
  obtain ⟨d0_, d1_, d2_⟩ := hd
  go_upto_region 16 with (fail)
  rw [HDn.out]
  go_upto_region 18 with (fail)
  refine relet (w := w) (blk_set (blk_set hX 1 _) 2 _) (far_set (far_set hY ne _) ne _) (bset0 (bset0 hB)) ?_
  clear hX hY hB x0 x1 x2 x3 x4 xf
  intro w25 hX hY hB
  simp only [List.setIfInBounds_toArray, List.set_cons_zero, List.set_cons_succ] at hX
  obtain ⟨x0, x1, x2, x3, x4, xf⟩ := cells5 hX
  go_upto_region 23 with (fail)
  refine relet (w := w) (blk_set hX 2 _) (far_set hY ne _) (bset0 hB) ?_
  clear hX hY hB x0 x1 x2 x3 x4 xf
  intro w26 hX hY hB
  simp only [List.setIfInBounds_toArray, List.set_cons_zero, List.set_cons_succ] at hX
  obtain ⟨x0, x1, x2, x3, x4, xf⟩ := cells5 hX
  go_upto_region 24 with (fail)
  refine relet (w := w) (blk_set hX 3 _) (far_set hY ne _) (bset0 hB) ?_
  clear hX hY hB x0 x1 x2 x3 x4 xf
  intro w27 hX hY hB
  simp only [List.setIfInBounds_toArray, List.set_cons_zero, List.set_cons_succ] at hX
  obtain ⟨x0, x1, x2, x3, x4, xf⟩ := cells5 hX
  obtain ⟨y0, y1, y2, y3, y4, yf⟩ := cells5 hY
  go_wp2
  all_goals exact step_ret (by have := HSum.out; unfold Good; omega) (bset1 (bset1 (bset1 (bset1 (bset1 hB))))) rfl rfl rfl (set5 hY _ _ _ _ _)
set_option maxRecDepth 100000 in
set_option maxHeartbeats 1600000 in
theorem step_pos2 (s0 s1 s2 s3 s4 t r m d dn : Int) (w : World) (hs : soilB s0 s1 s2 s3 s4 = true) (ht : 0 < t) (ht2 : t ≤ 800) (hr : 0 ≤ r) (hr2 : r ≤ 5000) (hf : s4 ≤ 1000000000000 - r) (HM : Hid ((if 3 * t / 10 < s0 then 3 * t / 10 else s0) = m)) (HD : Hid ((if t / 20 < s1 + r + m then t / 20 else s1 + r + m) = d)) (HDn : Hid ((if 1500 - s2 < (s1 + r + m - d - 100) / 4 then 1500 - s2 else (s1 + r + m - d - 100) / 4) = dn)) (hw0 : 100 < s1 + r + m - d) (hw : 400 < s1 + r + m - d - dn) :
    Calls Tryd.prog 7 #[.agg #[.int .i64 s0, .int .i64 s1, .int .i64 s2, .int .i64 s3, .int .i64 s4], .int .i64 t, .int .i64 r] w (StepPost s3 s4 r w) := by
  have hT : ¬ t < 0 := by omega
  have hb := of_decide_eq_true hs
  obtain ⟨b0, c0, b1, c1, b2, c2, b3, c3, b4, c4, hsum⟩ := hb
  have HS := Lib.hid hs
  have HSum := Lib.hid hsum
  have i1 : inBt t (-800) 800 = true := decide_eq_true (by omega)
  have i2 : inBt r 0 5000 = true := decide_eq_true (by omega)
  clear hs hsum
  go_enter Tryd.func7, Tryd.ntmps7
  go_wp2_with fail
  refine (isoilOk_any _ _ _ _ _ _).mono ?_
  rintro e w1 ⟨rfl, hb1⟩
  rw [HS.out]
  have hX := blk_below (blk_alloc (blk_new w (.cells #[.int .i64 s0, .int .i64 s1, .int .i64 s2, .int .i64 s3, .int .i64 s4] 25)) (.cells #[.int .i64 0, .int .i64 0, .int .i64 0, .int .i64 0, .int .i64 0] 25)) hb1
  have hY := blk_below (blk_new (w.alloc (.cells #[.int .i64 s0, .int .i64 s1, .int .i64 s2, .int .i64 s3, .int .i64 s4] 25)) (.cells #[.int .i64 0, .int .i64 0, .int .i64 0, .int .i64 0, .int .i64 0] 25)) hb1
  simp only [World.size_alloc] at hY
  obtain ⟨x0, x1, x2, x3, x4, xf⟩ := cells5 hX
  go_wp2_with fail
  refine (iin_any _ _ _ _).mono ?_
  rintro e w2 ⟨rfl, n2, rfl⟩
  rw [i1]
  go_wp2_with fail
  refine (iin_any _ _ _ _).mono ?_
  rintro e w2 ⟨rfl, n2, rfl⟩
  rw [i2]
  have hB := below_then (below_alloc (below_alloc (Below.refl _ w) (.cells #[.int .i64 s0, .int .i64 s1, .int .i64 s2, .int .i64 s3, .int .i64 s4] 25)) (.cells #[.int .i64 0, .int .i64 0, .int .i64 0, .int .i64 0, .int .i64 0] 25)) (by simp; omega) hb1
  have ne : w.heap.size + 1 ≠ w.heap.size := by omega
  clear hb1 i1 i2
  go_upto_region 9 with (fail)
  have hm := mn_bd (a := s0) (b := 3 * t / 10) b0 (by omega)
  rw [HM.out] at hm ⊢
  obtain ⟨m0, m1, m2⟩ := hm
  refine relet (w := w) (blk_set (blk_set (blk_drewN hX _) 4 _) 1 _) (far_set (far_set (blk_drewN hY _) ne _) ne _) (bset0 (bset0 (pw_below_drewN hB _))) ?_
  clear hX hY hB x0 x1 x2 x3 x4 xf
  intro w28 hX hY hB
  simp only [List.setIfInBounds_toArray, List.set_cons_zero, List.set_cons_succ] at hX
  obtain ⟨x0, x1, x2, x3, x4, xf⟩ := cells5 hX
  go_upto_region 12 with (fail)
  have hm := mn_bd (a := s1 + r + m) (b := t / 20) (by omega) (by omega)
  rw [HD.out] at hm ⊢
  obtain ⟨d0, d1, d2⟩ := hm
  refine relet (w := w) (blk_set (blk_set hX 0 _) 1 _) (far_set (far_set hY ne _) ne _) (bset0 (bset0 hB)) ?_
  clear hX hY hB x0 x1 x2 x3 x4 xf
  intro w29 hX hY hB
  simp only [List.setIfInBounds_toArray, List.set_cons_zero, List.set_cons_succ] at hX
  obtain ⟨x0, x1, x2, x3, x4, xf⟩ := cells5 hX
  go_upto_region 14 with (fail)
  refine relet (w := w) (blk_set (blk_set hX 1 _) 3 _) (far_set (far_set hY ne _) ne _) (bset0 (bset0 hB)) ?_
  clear hX hY hB x0 x1 x2 x3 x4 xf
  intro w30 hX hY hB
  simp only [List.setIfInBounds_toArray, List.set_cons_zero, List.set_cons_succ] at hX
  obtain ⟨x0, x1, x2, x3, x4, xf⟩ := cells5 hX
  have hd := mn_bd (a := (s1 + r + m - d - 100) / 4) (b := 1500 - s2) (by omega) (by omega)
  rw [HDn.out] at hd
  obtain ⟨d0_, d1_, d2_⟩ := hd
  go_upto_region 16 with (fail)
  rw [HDn.out]
  go_upto_region 18 with (fail)
  refine relet (w := w) (blk_set (blk_set hX 1 _) 2 _) (far_set (far_set hY ne _) ne _) (bset0 (bset0 hB)) ?_
  clear hX hY hB x0 x1 x2 x3 x4 xf
  intro w31 hX hY hB
  simp only [List.setIfInBounds_toArray, List.set_cons_zero, List.set_cons_succ] at hX
  obtain ⟨x0, x1, x2, x3, x4, xf⟩ := cells5 hX
  go_upto_region 21 with (fail)
  refine relet (w := w) (blk_set (blk_set hX 3 _) 1 _) (far_set (far_set hY ne _) ne _) (bset0 (bset0 hB)) ?_
  clear hX hY hB x0 x1 x2 x3 x4 xf
  intro w32 hX hY hB
  simp only [List.setIfInBounds_toArray, List.set_cons_zero, List.set_cons_succ] at hX
  obtain ⟨x0, x1, x2, x3, x4, xf⟩ := cells5 hX
  go_upto_region 23 with (fail)
  refine relet (w := w) (blk_set hX 2 _) (far_set hY ne _) (bset0 hB) ?_
  clear hX hY hB x0 x1 x2 x3 x4 xf
  intro w33 hX hY hB
  simp only [List.setIfInBounds_toArray, List.set_cons_zero, List.set_cons_succ] at hX
  obtain ⟨x0, x1, x2, x3, x4, xf⟩ := cells5 hX
  go_upto_region 24 with (fail)
  refine relet (w := w) (blk_set hX 3 _) (far_set hY ne _) (bset0 hB) ?_
  clear hX hY hB x0 x1 x2 x3 x4 xf
  intro w34 hX hY hB
  simp only [List.setIfInBounds_toArray, List.set_cons_zero, List.set_cons_succ] at hX
  obtain ⟨x0, x1, x2, x3, x4, xf⟩ := cells5 hX
  obtain ⟨y0, y1, y2, y3, y4, yf⟩ := cells5 hY
  go_wp2
  all_goals exact step_ret (by have := HSum.out; unfold Good; omega) (bset1 (bset1 (bset1 (bset1 (bset1 hB))))) rfl rfl rfl (set5 hY _ _ _ _ _)
set_option maxRecDepth 100000 in
set_option maxHeartbeats 1600000 in
theorem step_zero2 (s0 s1 s2 s3 s4 t r m d dn : Int) (w : World) (hs : soilB s0 s1 s2 s3 s4 = true) (ht : ¬ 0 < t) (ht2 : ¬ t < 0) (hr : 0 ≤ r) (hr2 : r ≤ 5000) (hf : s4 ≤ 1000000000000 - r) (HDn : Hid ((if 1500 - s2 < (s1 + r - 100) / 4 then 1500 - s2 else (s1 + r - 100) / 4) = dn)) (hw0 : 100 < s1 + r) (hw : 400 < s1 + r - dn) :
    Calls Tryd.prog 7 #[.agg #[.int .i64 s0, .int .i64 s1, .int .i64 s2, .int .i64 s3, .int .i64 s4], .int .i64 t, .int .i64 r] w (StepPost s3 s4 r w) := by
  have hb := of_decide_eq_true hs
  obtain ⟨b0, c0, b1, c1, b2, c2, b3, c3, b4, c4, hsum⟩ := hb
  have HS := Lib.hid hs
  have HSum := Lib.hid hsum
  have i1 : inBt t (-800) 800 = true := decide_eq_true (by omega)
  have i2 : inBt r 0 5000 = true := decide_eq_true (by omega)
  clear hs hsum
  go_enter Tryd.func7, Tryd.ntmps7
  go_wp2_with fail
  refine (isoilOk_any _ _ _ _ _ _).mono ?_
  rintro e w1 ⟨rfl, hb1⟩
  rw [HS.out]
  have hX := blk_below (blk_alloc (blk_new w (.cells #[.int .i64 s0, .int .i64 s1, .int .i64 s2, .int .i64 s3, .int .i64 s4] 25)) (.cells #[.int .i64 0, .int .i64 0, .int .i64 0, .int .i64 0, .int .i64 0] 25)) hb1
  have hY := blk_below (blk_new (w.alloc (.cells #[.int .i64 s0, .int .i64 s1, .int .i64 s2, .int .i64 s3, .int .i64 s4] 25)) (.cells #[.int .i64 0, .int .i64 0, .int .i64 0, .int .i64 0, .int .i64 0] 25)) hb1
  simp only [World.size_alloc] at hY
  obtain ⟨x0, x1, x2, x3, x4, xf⟩ := cells5 hX
  go_wp2_with fail
  refine (iin_any _ _ _ _).mono ?_
  rintro e w2 ⟨rfl, n2, rfl⟩
  rw [i1]
  go_wp2_with fail
  refine (iin_any _ _ _ _).mono ?_
  rintro e w2 ⟨rfl, n2, rfl⟩
  rw [i2]
  have hB := below_then (below_alloc (below_alloc (Below.refl _ w) (.cells #[.int .i64 s0, .int .i64 s1, .int .i64 s2, .int .i64 s3, .int .i64 s4] 25)) (.cells #[.int .i64 0, .int .i64 0, .int .i64 0, .int .i64 0, .int .i64 0] 25)) (by simp; omega) hb1
  have ne : w.heap.size + 1 ≠ w.heap.size := by omega
  clear hb1 i1 i2
  go_upto_region 14 with (fail)
  refine relet (w := w) (blk_set (blk_set (blk_drewN hX _) 4 _) 1 _) (far_set (far_set (blk_drewN hY _) ne _) ne _) (bset0 (bset0 (pw_below_drewN hB _))) ?_
  clear hX hY hB x0 x1 x2 x3 x4 xf
  intro w35 hX hY hB
  simp only [List.setIfInBounds_toArray, List.set_cons_zero, List.set_cons_succ] at hX
  obtain ⟨x0, x1, x2, x3, x4, xf⟩ := cells5 hX
  have hd := mn_bd (a := (s1 + r - 100) / 4) (b := 1500 - s2) (by omega) (by omega)
  rw [HDn.out] at hd
  obtain ⟨d0_, d1_, d2_⟩ := hd
  go_upto_region 16 with (fail)
  rw [HDn.out]
  go_upto_region 18 with (fail)
  refine relet (w := w) (blk_set (blk_set hX 1 _) 2 _) (far_set (far_set hY ne _) ne _) (bset0 (bset0 hB)) ?_
  clear hX hY hB x0 x1 x2 x3 x4 xf
  intro w36 hX hY hB
  simp only [List.setIfInBounds_toArray, List.set_cons_zero, List.set_cons_succ] at hX
  obtain ⟨x0, x1, x2, x3, x4, xf⟩ := cells5 hX
  go_upto_region 21 with (fail)
  refine relet (w := w) (blk_set (blk_set hX 3 _) 1 _) (far_set (far_set hY ne _) ne _) (bset0 (bset0 hB)) ?_
  clear hX hY hB x0 x1 x2 x3 x4 xf
  intro w37 hX hY hB
  simp only [List.setIfInBounds_toArray, List.set_cons_zero, List.set_cons_succ] at hX
  obtain ⟨x0, x1, x2, x3, x4, xf⟩ := cells5 hX
  go_upto_region 23 with (fail)
  refine relet (w := w) (blk_set hX 2 _) (far_set hY ne _) (bset0 hB) ?_
  clear hX hY hB x0 x1 x2 x3 x4 xf
  intro w38 hX hY hB
  simp only [List.setIfInBounds_toArray, List.set_cons_zero, List.set_cons_succ] at hX
  obtain ⟨x0, x1, x2, x3, x4, xf⟩ := cells5 hX
  go_upto_region 24 with (fail)
  refine relet (w := w) (blk_set hX 3 _) (far_set hY ne _) (bset0 hB) ?_
  clear hX hY hB x0 x1 x2 x3 x4 xf
  intro w39 hX hY hB
  simp only [List.setIfInBounds_toArray, List.set_cons_zero, List.set_cons_succ] at hX
  obtain ⟨x0, x1, x2, x3, x4, xf⟩ := cells5 hX
  obtain ⟨y0, y1, y2, y3, y4, yf⟩ := cells5 hY
  go_wp2
  all_goals exact step_ret (by have := HSum.out; unfold Good; omega) (bset1 (bset1 (bset1 (bset1 (bset1 hB))))) rfl rfl rfl (set5 hY _ _ _ _ _)
set_option maxRecDepth 100000 in
set_option maxHeartbeats 1600000 in
theorem step_no (s0 s1 s2 s3 s4 t r : Int) (w : World) (h : soilB s0 s1 s2 s3 s4 = false ∨ soilB s0 s1 s2 s3 s4 = true ∧ (inBt t (-800) 800 = false ∨ inBt t (-800) 800 = true ∧ (inBt r 0 5000 = false ∨ inBt r 0 5000 = true ∧ 1000000000000 - r < s4))) :
    Calls Tryd.prog 7 #[.agg #[.int .i64 s0, .int .i64 s1, .int .i64 s2, .int .i64 s3, .int .i64 s4], .int .i64 t, .int .i64 r] w fun e w' => e = .returned (.tuple #[.agg #[.int .i64 0, .int .i64 0, .int .i64 0, .int .i64 0, .int .i64 0], .bool false]) ∧ Below w.heap.size w w' := by
  rcases h with h | ⟨h, h2 | ⟨h2, h3 | ⟨h3, hlt⟩⟩⟩
  all_goals
    have HS := Lib.hid h
    clear h
    try (have H2 := Lib.hid h2; clear h2)
    try (have rb := of_decide_eq_true h3; obtain ⟨r0, r1⟩ := rb)
    try (have H3 := Lib.hid h3; clear h3)
    go_enter Tryd.func7, Tryd.ntmps7
    go_wp2_with fail
    refine (isoilOk_any _ _ _ _ _ _).mono ?_
    rintro e w1 ⟨rfl, hb1⟩
    have hX := blk_below (blk_alloc (blk_new w (.cells #[.int .i64 s0, .int .i64 s1, .int .i64 s2, .int .i64 s3, .int .i64 s4] 25)) (.cells #[.int .i64 0, .int .i64 0, .int .i64 0, .int .i64 0, .int .i64 0] 25)) hb1
    have hY := blk_below (blk_new (w.alloc (.cells #[.int .i64 s0, .int .i64 s1, .int .i64 s2, .int .i64 s3, .int .i64 s4] 25)) (.cells #[.int .i64 0, .int .i64 0, .int .i64 0, .int .i64 0, .int .i64 0] 25)) hb1
    simp only [World.size_alloc] at hY
    have hB := below_then (below_alloc (below_alloc (Below.refl _ w) (.cells #[.int .i64 s0, .int .i64 s1, .int .i64 s2, .int .i64 s3, .int .i64 s4] 25)) (.cells #[.int .i64 0, .int .i64 0, .int .i64 0, .int .i64 0, .int .i64 0] 25)) (by simp; omega) hb1
    obtain ⟨x0, x1, x2, x3, x4, xf⟩ := cells5 hX
    obtain ⟨y0, y1, y2, y3, y4, yf⟩ := cells5 hY
    clear hb1
    rw [HS.out]
  · go_wp2_with fail
    all_goals exact ino_ret (bset1 (bset1 (bset1 (bset1 (bset1 hB))))) rfl rfl rfl (set5 hY _ _ _ _ _)
  · go_wp2_with fail
    refine (iin_any _ _ _ _).mono ?_
    rintro e w2 ⟨rfl, n2, rfl⟩
    rw [H2.out]
    go_wp2_with fail
    all_goals exact ino_ret (bset1 (bset1 (bset1 (bset1 (bset1 (pw_below_drewN hB _)))))) rfl rfl rfl (set5 (blk_drewN hY _) _ _ _ _ _)
  · go_wp2_with fail
    refine (iin_any _ _ _ _).mono ?_
    rintro e w2 ⟨rfl, n2, rfl⟩
    rw [H2.out]
    go_wp2_with fail
    refine (iin_any _ _ _ _).mono ?_
    rintro e w2 ⟨rfl, n2, rfl⟩
    rw [H3.out]
    go_wp2_with fail
    all_goals exact ino_ret (bset1 (bset1 (bset1 (bset1 (bset1 (pw_below_drewN hB _)))))) rfl rfl rfl (set5 (blk_drewN hY _) _ _ _ _ _)
  · go_wp2_with fail
    refine (iin_any _ _ _ _).mono ?_
    rintro e w2 ⟨rfl, n2, rfl⟩
    rw [H2.out]
    go_wp2_with fail
    refine (iin_any _ _ _ _).mono ?_
    rintro e w2 ⟨rfl, n2, rfl⟩
    rw [H3.out]
    go_wp2_with fail
    all_goals exact ino_ret (bset1 (bset1 (bset1 (bset1 (bset1 (pw_below_drewN hB _)))))) rfl rfl rfl (set5 (blk_drewN hY _) _ _ _ _ _)
set_option maxHeartbeats 400000 in
/-- Where a step goes: what it keeps. -/
theorem step_yes (s0 s1 s2 s3 s4 t r : Int) (w : World) (h : stepB s0 s1 s2 s3 s4 t r = true) :
    Calls Tryd.prog 7 #[.agg #[.int .i64 s0, .int .i64 s1, .int .i64 s2, .int .i64 s3, .int .i64 s4], .int .i64 t, .int .i64 r] w (StepPost s3 s4 r w) := by
  unfold stepB at h
  simp only [Bool.and_eq_true, decide_eq_true_eq] at h
  obtain ⟨hs, h1, h2, hf⟩ := h
  have t1 := of_decide_eq_true h1
  have t2 := of_decide_eq_true h2
  by_cases c : 0 < t
  · by_cases ca : s1 + r + meltI s0 t - dryI (s1 + r + meltI s0 t) t ≤ 100
    · exact step_pos0 s0 s1 s2 s3 s4 t r (meltI s0 t) (dryI (s1 + r + meltI s0 t) t) _ w hs c t1.2 t2.1 t2.2 hf (Lib.hid rfl) (Lib.hid rfl) (Lib.hid rfl) ca
    · obtain ⟨dn, hdn⟩ : ∃ dn, (if 1500 - s2 < (s1 + r + meltI s0 t - dryI (s1 + r + meltI s0 t) t - 100) / 4 then 1500 - s2 else (s1 + r + meltI s0 t - dryI (s1 + r + meltI s0 t) t - 100) / 4) = dn := ⟨_, rfl⟩
      by_cases cb : s1 + r + meltI s0 t - dryI (s1 + r + meltI s0 t) t - dn ≤ 400
      · exact step_pos1 s0 s1 s2 s3 s4 t r (meltI s0 t) (dryI (s1 + r + meltI s0 t) t) dn w hs c t1.2 t2.1 t2.2 hf (Lib.hid rfl) (Lib.hid rfl) (Lib.hid hdn) (by omega) cb
      · exact step_pos2 s0 s1 s2 s3 s4 t r (meltI s0 t) (dryI (s1 + r + meltI s0 t) t) dn w hs c t1.2 t2.1 t2.2 hf (Lib.hid rfl) (Lib.hid rfl) (Lib.hid hdn) (by omega) (by omega)
  · by_cases c2 : t < 0
    · by_cases ca : s1 ≤ 100
      · exact step_neg0 s0 s1 s2 s3 s4 t r 0 0 _ w hs c2 t1.1 t2.1 t2.2 hf (Lib.hid rfl) ca
      · obtain ⟨dn, hdn⟩ : ∃ dn, (if 1500 - s2 < (s1 - 100) / 4 then 1500 - s2 else (s1 - 100) / 4) = dn := ⟨_, rfl⟩
        by_cases cb : s1 - dn ≤ 400
        · exact step_neg1 s0 s1 s2 s3 s4 t r 0 0 dn w hs c2 t1.1 t2.1 t2.2 hf (Lib.hid hdn) (by omega) cb
        · have hb := of_decide_eq_true hs
          have hm := mn_bd (a := (s1 - 100) / 4) (b := 1500 - s2) (by omega) (by omega)
          rw [hdn] at hm
          omega
    · by_cases ca : s1 + r ≤ 100
      · exact step_zero0 s0 s1 s2 s3 s4 t r 0 0 _ w hs c c2 t2.1 t2.2 hf (Lib.hid rfl) ca
      · obtain ⟨dn, hdn⟩ : ∃ dn, (if 1500 - s2 < (s1 + r - 100) / 4 then 1500 - s2 else (s1 + r - 100) / 4) = dn := ⟨_, rfl⟩
        by_cases cb : s1 + r - dn ≤ 400
        · exact step_zero1 s0 s1 s2 s3 s4 t r 0 0 dn w hs c c2 t2.1 t2.2 hf (Lib.hid hdn) (by omega) cb
        · exact step_zero2 s0 s1 s2 s3 s4 t r 0 0 dn w hs c c2 t2.1 t2.2 hf (Lib.hid hdn) (by omega) (by omega)
theorem step_none (s0 s1 s2 s3 s4 t r : Int) (w : World) (hb : stepB s0 s1 s2 s3 s4 t r = false) :
    Calls Tryd.prog 7 #[.agg #[.int .i64 s0, .int .i64 s1, .int .i64 s2, .int .i64 s3, .int .i64 s4], .int .i64 t, .int .i64 r] w fun e w' => e = .returned (.tuple #[.agg #[.int .i64 0, .int .i64 0, .int .i64 0, .int .i64 0, .int .i64 0], .bool false]) ∧ Below w.heap.size w w' := by
  refine step_no s0 s1 s2 s3 s4 t r w ?_
  unfold stepB at hb
  cases h1 : soilB s0 s1 s2 s3 s4 with
  | false => exact .inl rfl
  | true =>
    refine .inr ⟨rfl, ?_⟩
    cases h2 : inBt t (-800) 800 with
    | false => exact .inl rfl
    | true =>
      refine .inr ⟨rfl, ?_⟩
      cases h3 : inBt r 0 5000 with
      | false => exact .inl rfl
      | true =>
        refine .inr ⟨rfl, ?_⟩
        rw [h1, h2, h3] at hb
        simp at hb
        omega
end Go.Proofs.YtjkhmjnigjfnmaaDoor.T
