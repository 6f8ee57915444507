/-
  The walk of the law FnSoilKept.
-/
import Derived.Test.YtjkhmjnigjfnmaaDoorB
import Derived.Test.YtjkhmjnigjfnmaaDoorC
import Derived.Test.YtjkhmjnigjfnmaaDoorT
namespace Go.Proofs.YtjkhmjnigjfnmaaDoor.E
open Go Go.RowKit Go.Proofs.YtjkhmjnigjfnmaaDoorW.PrintWords Go.Proofs.YtjkhmjnigjfnmaaDoor.F
open Go.Proofs.YtjkhmjnigjfnmaaDoor.A (Tab tab_below tab_alloc tab_drewN tab_drew acell)
set_option linter.unusedVariables false
set_option linter.unusedSimpArgs false
theorem big_any (A0 : Option Addr) (c0 : Nat) (l : List Int) (w : World) (hr0 : Kd.C (Kd.int .u8) w A0 l.length l) (hc0 : l.length ≤ c0) (b : Bool) (hb : decide ((l.length : Int) > 1048576) = b) :
    Calls Tryd.prog 4 #[.slice A0 l.length c0] w fun e w' => e = .returned (.bool b) ∧ Drawn0 w w' :=
  laws_big.calls A0 c0 l b w hr0 hc0 (by unfold laws_big.f; rw [hb])
set_option maxRecDepth 100000 in
set_option maxHeartbeats 1600000 in
theorem law_big (A0 : Option Addr) (c0 : Nat) (l : List Int) (w : World) (hr0 : Kd.C (Kd.int .u8) w A0 l.length l) (hc0 : l.length ≤ c0) (h : ¬ l.length ≤ 1048576) :
    Calls Tryd.prog 3 #[.slice A0 l.length c0] w fun e w' => e = .returned (.bool true) ∧ Below w.heap.size w w' := by
  have HB := Lib.hid (big_any A0 c0 l w hr0 hc0 true (decide_eq_true (by omega)))
  clear hr0 hc0 h
  go_enter Tryd.func3, Tryd.ntmps3
  go_wp2_with fail
  refine HB.out.mono ?_
  rintro e w1 ⟨rfl, n1, rfl⟩
  go_wp2_with fail
  go_ret
  exact ⟨rfl, pw_below_drewN (Below.refl _ _) _⟩
theorem below_al {w W W' : World} (h : Below w.heap.size w W) (o : Obj) (hb : Below (W.alloc o).heap.size (W.alloc o) W') : Below w.heap.size w W' :=
  below_then (below_alloc h o) (by have := h.size; rw [World.size_alloc]; omega) hb
def StepSaid (s0 s1 s2 s3 s4 t r : Int) : Prop := ∀ W : World, Calls Tryd.prog 6 #[.agg #[.int .i64 s0, .int .i64 s1, .int .i64 s2, .int .i64 s3, .int .i64 s4], .int .i64 t, .int .i64 r] W fun e w' => ∃ r1 r2 r3 r4 r5, e = .returned (.tuple #[.agg #[.int .i64 r1, .int .i64 r2, .int .i64 r3, .int .i64 r4, .int .i64 r5], .bool (stepB s0 s1 s2 s3 s4 t r)]) ∧ Below W.heap.size W w'
theorem step_said (s0 s1 s2 s3 s4 t r : Int) : StepSaid s0 s1 s2 s3 s4 t r := by
  intro W
  obtain ⟨⟨r1, r2, r3, r4, r5, b⟩, hx⟩ := C.step_some s0 s1 s2 s3 s4 t r
  have hb : b = stepB s0 s1 s2 s3 s4 t r := by
    unfold spec_SoilStep.f at hx
    by_cases h : stepB s0 s1 s2 s3 s4 t r = true
    · rw [if_pos h] at hx
      rw [h]
      have hx := Option.some.inj hx
      split at hx
      · exact (congrArg (fun p => p.2.2.2.2.2) hx).symm
      · split at hx <;> exact (congrArg (fun p => p.2.2.2.2.2) hx).symm
    · rw [if_neg h] at hx
      rw [Bool.eq_false_iff.2 h]
      exact (congrArg (fun p => p.2.2.2.2.2) (Option.some.inj hx)).symm
  subst hb
  exact (spec_SoilStep.calls _ _ _ _ _ _ _ _ _ _ _ _ _ W hx).mono fun e w' ⟨he, hw⟩ => ⟨r1, r2, r3, r4, r5, he, hw⟩
set_option maxRecDepth 100000 in
set_option maxHeartbeats 1600000 in
theorem law_no (A0 : Option Addr) (c0 : Nat) (l : List Int) (w : World) (hr0 : Kd.C (Kd.int .u8) w A0 l.length l) (hc0 : l.length ≤ c0) (hl : l.length ≤ 1048576)
    (s0 s1 s2 s3 s4 t r : Int) (hd : ∀ W : World, Kd.C (Kd.int .u8) W A0 l.length l → Calls Tryd.prog 5 #[.slice A0 l.length c0] W fun e w' => e = .returned (.tuple #[.agg #[.int .i64 s0, .int .i64 s1, .int .i64 s2, .int .i64 s3, .int .i64 s4], .int .i64 t, .int .i64 r]) ∧ Below W.heap.size W w')
    (hb : stepB s0 s1 s2 s3 s4 t r = false) :
    Calls Tryd.prog 3 #[.slice A0 l.length c0] w fun e w' => e = .returned (.bool true) ∧ Below w.heap.size w w' := by
  have HB := Lib.hid (big_any A0 c0 l w hr0 hc0 false (decide_eq_false (by omega)))
  have HD := Lib.hid (fun n : Nat => hd (w.drewN n) (Kd.C_drewN hr0 n))
  have h6 := step_said s0 s1 s2 s3 s4 t r
  unfold StepSaid at h6
  rw [hb] at h6
  have H6 := Lib.hid h6
  have H7 := Lib.hid (fun W : World => T.step_none s0 s1 s2 s3 s4 t r W hb)
  clear hr0 hc0 hl hd hb h6
  go_enter Tryd.func3, Tryd.ntmps3
  go_wp2_with fail
  refine HB.out.mono ?_
  rintro e w1 ⟨rfl, n1, rfl⟩
  go_wp2_with fail
  refine (HD.out _).mono ?_
  rintro e w2 ⟨rfl, hb2⟩
  have hB : Below w.heap.size w w2 := below_then (pw_below_drewN (Below.refl _ w) n1) (Nat.le_refl _) hb2
  have hX := blk_new w2 (.cells #[.int .i64 s0, .int .i64 s1, .int .i64 s2, .int .i64 s3, .int .i64 s4] 25)
  obtain ⟨x0, x1, x2, x3, x4, xf⟩ := cells5 hX
  have HB := Lib.hid hB
  have HX := Lib.hid hX
  clear hB hX hb2
  go_wp2_with fail
  refine (H6.out _).mono ?_
  rintro e w3 ⟨r1, r2, r3, r4, r5, rfl, hb3⟩
  clear x0 x1 x2 x3 x4 xf
  have hX := blk_below HX.out hb3
  obtain ⟨x0, x1, x2, x3, x4, xf⟩ := cells5 hX
  have hB := below_al HB.out _ hb3
  have HX3 := Lib.hid hX
  have y0 := fun o => acell x0 o
  have y1 := fun o => acell x1 o
  have y2 := fun o => acell x2 o
  have y3 := fun o => acell x3 o
  have y4 := fun o => acell x4 o
  have HB3 := Lib.hid hB
  clear hX hB hb3
  go_wp2_with fail
  refine (H7.out _).mono ?_
  rintro e w4 ⟨rfl, hb4⟩
  have hB := below_al HB3.out _ hb4
  clear x0 x1 x2 x3 x4 xf y0 y1 y2 y3 y4
  have hY := blk_new w4 (.cells #[.int .i64 0, .int .i64 0, .int .i64 0, .int .i64 0, .int .i64 0] 25)
  obtain ⟨z0, z1, z2, z3, z4, zf⟩ := cells5 hY
  have HB4 := Lib.hid hB
  clear hB hb4 hY
  go_wp2_with fail
  go_ret
  exact ⟨rfl, below_alloc HB4.out _⟩
set_option maxRecDepth 100000 in
set_option maxHeartbeats 3200000 in
theorem law_yes (A0 : Option Addr) (c0 : Nat) (l : List Int) (w : World) (m : Int) (hm : w.cell? ⟨0, 0, none⟩ = some (.int .i64 m)) (ht : Tab w) (hr0 : Kd.C (Kd.int .u8) w A0 l.length l) (hc0 : l.length ≤ c0) (hl : l.length ≤ 1048576)
    (s0 s1 s2 s3 s4 t r : Int) (hd : ∀ W : World, Kd.C (Kd.int .u8) W A0 l.length l → Calls Tryd.prog 5 #[.slice A0 l.length c0] W fun e w' => e = .returned (.tuple #[.agg #[.int .i64 s0, .int .i64 s1, .int .i64 s2, .int .i64 s3, .int .i64 s4], .int .i64 t, .int .i64 r]) ∧ Below W.heap.size W w')
    (hb : stepB s0 s1 s2 s3 s4 t r = true) :
    Calls Tryd.prog 3 #[.slice A0 l.length c0] w fun e w' => e = .returned (.bool true) ∧ Below w.heap.size w w' := by
  have HB := Lib.hid (big_any A0 c0 l w hr0 hc0 false (decide_eq_false (by omega)))
  have HD := Lib.hid (fun n : Nat => hd (w.drewN n) (Kd.C_drewN hr0 n))
  have h6 := step_said s0 s1 s2 s3 s4 t r
  unfold StepSaid at h6
  rw [hb] at h6
  have H6 := Lib.hid h6
  have H7 := Lib.hid (fun W : World => T.step_yes s0 s1 s2 s3 s4 t r W hb)
  have HM := Lib.hid hm
  have HT := Lib.hid ht
  have hq := hb
  unfold stepB at hq
  simp only [Bool.and_eq_true, decide_eq_true_eq] at hq
  obtain ⟨hs, h1, h2, hf⟩ := hq
  have hs := of_decide_eq_true hs
  have h2 := of_decide_eq_true h2
  obtain ⟨r0_, r1_⟩ := h2
  have g4 : 0 ≤ s4 := hs.2.2.2.2.2.2.2.2.1
  clear hr0 hc0 hl hd hb h6 hm ht hs h1
  go_enter Tryd.func3, Tryd.ntmps3
  go_wp2_with fail
  refine HB.out.mono ?_
  rintro e w1 ⟨rfl, n1, rfl⟩
  go_wp2_with fail
  refine (HD.out _).mono ?_
  rintro e w2 ⟨rfl, hb2⟩
  have hB : Below w.heap.size w w2 := below_then (pw_below_drewN (Below.refl _ w) n1) (Nat.le_refl _) hb2
  have hX := blk_new w2 (.cells #[.int .i64 s0, .int .i64 s1, .int .i64 s2, .int .i64 s3, .int .i64 s4] 25)
  obtain ⟨x0, x1, x2, x3, x4, xf⟩ := cells5 hX
  have HB := Lib.hid hB
  have HX := Lib.hid hX
  clear hB hX hb2
  go_wp2_with fail
  refine (H6.out _).mono ?_
  rintro e w3 ⟨r1, r2, r3, r4, r5, rfl, hb3⟩
  clear x0 x1 x2 x3 x4 xf
  have hX := blk_below HX.out hb3
  obtain ⟨x0, x1, x2, x3, x4, xf⟩ := cells5 hX
  have hB := below_al HB.out _ hb3
  have HX3 := Lib.hid hX
  have y0 := fun o => acell x0 o
  have y1 := fun o => acell x1 o
  have y2 := fun o => acell x2 o
  have y3 := fun o => acell x3 o
  have y4 := fun o => acell x4 o
  have HB3 := Lib.hid hB
  clear hX hB hb3
  go_wp2_with fail
  refine (H7.out _).mono ?_
  rintro e w4 ⟨q0, q1, q2, q3, q4, rfl, hgood, hb4⟩
  have hB := below_al HB3.out _ hb4
  clear x0 x1 x2 x3 x4 xf y0 y1 y2 y3 y4
  have hS := blk_alloc (blk_below (blk_alloc HX3.out (.cells #[.int .i64 r1, .int .i64 r2, .int .i64 r3, .int .i64 r4, .int .i64 r5] 25)) hb4) (.cells #[.int .i64 q0, .int .i64 q1, .int .i64 q2, .int .i64 q3, .int .i64 q4] 25)
  have hY := blk_new w4 (.cells #[.int .i64 q0, .int .i64 q1, .int .i64 q2, .int .i64 q3, .int .i64 q4] 25)
  obtain ⟨z0, z1, z2, z3, z4, zf⟩ := cells5 hY
  have v3 := blk_cell hS 3
  have v4 := blk_cell hS 4
  obtain ⟨e4, esum, b0, b1, c1, b2, c2, b3, g3, c4⟩ := hgood
  have T1 : (q4 != s4 + r) = false := by rw [e4]; simp
  have T2 : (q0 + q1 + q2 + q3 != q4) = false := by rw [esum]; simp
  have k0 : q0 ≤ 1000000000000 := by omega
  have k3 : q3 ≤ 1000000000000 := by omega
  have HE := Lib.hid e4
  have HSum := Lib.hid esum
  have HB4 := Lib.hid hB
  have HY4 := Lib.hid hY
  clear hB hb4 hY hS e4 esum hs h2
  go_wp2_with fail
  have b4 : 0 ≤ q4 := by have := HE.out; omega
  have b3' : 0 ≤ q3 := by omega
  obtain ⟨n0, rfl⟩ := Int.eq_ofNat_of_zero_le b0
  obtain ⟨n1', rfl⟩ := Int.eq_ofNat_of_zero_le b1
  obtain ⟨n2, rfl⟩ := Int.eq_ofNat_of_zero_le b2
  obtain ⟨n3, rfl⟩ := Int.eq_ofNat_of_zero_le b3'
  obtain ⟨n4, rfl⟩ := Int.eq_ofNat_of_zero_le b4
  have hsoil : soilB n0 n1' n2 n3 n4 = true := decide_eq_true ⟨b0, k0, b1, c1, b2, c2, b3', k3, b4, c4, HSum.out.symm⟩
  have hS : ∀ W : World, Calls Tryd.prog 15 #[.agg #[.int .i64 n0, .int .i64 n1', .int .i64 n2, .int .i64 n3, .int .i64 n4]] W fun e w' => e = .returned (.bool true) ∧ Below W.heap.size W w' := fun W => by
    have := T.isoilOk_any n0 n1' n2 n3 n4 W
    rw [hsoil] at this
    exact this
  have u0 : n0 < 10 ^ 18 := by omega
  have u1 : n1' < 10 ^ 18 := by omega
  have u2 : n2 < 10 ^ 18 := by omega
  have u3 : n3 < 10 ^ 18 := by omega
  have u4 : n4 < 10 ^ 18 := by omega
  refine (A.text_any n0 n1' n2 n3 n4 _ (tab_alloc (tab_below HT.out HB4.out) _) u0 u1 u2 u3 u4 hS).mono ?_
  rintro e w5 ⟨rfl, hb5⟩
  have hB5 := below_al HB4.out _ hb5
  have HM5 := Lib.hid (pw_cell_below hB5 HM.out)
  have HR := Lib.hid (B.read_any n0 n1' n2 n3 n4 w5 m HM5.out u0 u1 u2 u3 u4 hS)
  have hX5 := blk_below HY4.out hb5
  have HX5 := Lib.hid hX5
  have HB5 := Lib.hid hB5
  clear u0 u1 u2 u3 u4 hS hb5 hB5 hX5 z0 z1 z2 z3 z4 zf v3 v4 T1 T2 hsoil
  go_wp2_with fail
  refine HR.out.mono ?_
  rintro e w6 ⟨rfl, hb6⟩
  have hX6 := blk_alloc (blk_below HX5.out hb6) (.cells #[.int .i64 n0, .int .i64 n1', .int .i64 n2, .int .i64 n3, .int .i64 n4] 25)
  have hY6 := blk_new w6 (.cells #[.int .i64 n0, .int .i64 n1', .int .i64 n2, .int .i64 n3, .int .i64 n4] 25)
  obtain ⟨x0, x1, x2, x3, x4, xf⟩ := cells5 hX6
  obtain ⟨z0, z1, z2, z3, z4, zf⟩ := cells5 hY6
  have HB6 := Lib.hid (below_then HB5.out HB5.out.size hb6)
  clear hX6 hY6 hb6
  go_wp2_with fail
  go_ret
  exact ⟨rfl, below_alloc HB6.out _⟩
end Go.Proofs.YtjkhmjnigjfnmaaDoor.E
