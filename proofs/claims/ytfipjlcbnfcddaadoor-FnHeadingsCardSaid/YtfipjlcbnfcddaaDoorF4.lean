-- Written by a program of this session (wip/tools/pr.py, over the kit's print programs): functions and their contracts. Lean checks it.
import Derived.Test.YtfipjlcbnfcddaaDoorF0
import Derived.Test.YtfipjlcbnfcddaaDoorF3
namespace Go.Proofs.YtfipjlcbnfcddaaDoor.F
open Go.RowKit Go.Proofs.YtfipjlcbnfcddaaDoorW.PrintWords Go.Proofs.YtfipjlcbnfcddaaDoorW.PrintLast Go.Proofs.YtfipjlcbnfcddaaDoorW.PrintMore
attribute [local go_sem] max2_int min2_int max_two min_two max_three min_three max_four min_four   -- for this text's walks alone
set_option linter.unusedVariables false
set_option linter.unusedSimpArgs false

/-! ### impl_MarkOf: function 24 -/
def impl_MarkOf.l0 : Nat → ByteArray → List ByteArray → Int → Int → Option (Int × Int)
  | 0, _, _, _, _ => none
  | k + 1, x0, x25, x26, x27 => if x27 < x26 then (if 0 ≤ x27 then (if x27 < (x25.length : Int) then (if 0 ≤ 2 then (if 2 ≤ (x0.size : Int) then (if (x0.extract 0 2).toList = (rdOf ByteArray.empty x25 x27).toList then (if 2 < (x0.size : Int) then (if (bt x0 2) ≤ 88 then (some (wrap64 (x27 + 1), (((bt x0 2) - 65) % 256) + 1)) else (impl_MarkOf.l0 k x0 x25 x26 (wrap64 (x27 + 1)))) else (none)) else (impl_MarkOf.l0 k x0 x25 x26 (wrap64 (x27 + 1)))) else (none)) else (none)) else (none)) else (none)) else (some ((-1), 0))
def impl_MarkOf.f (k : Nat) (a0 : ByteArray) : Option (Int × Int) := if a0.toList = ([] : List UInt8) then (some (0, 0)) else ((impl_capitals.f k a0 3).bind fun t129 => (if t129 = true then (if 0 < (a0.size : Int) then (if (bt a0 0) = 80 then (if 1 < (a0.size : Int) then (if 2 < (a0.size : Int) then (some (4, (((((bt a0 1) - 65) % 256) * 26) + (((bt a0 2) - 65) % 256)) + 1)) else (none)) else (none)) else ((some (([(⟨#[82, 82]⟩ : ByteArray), (⟨#[67, 67]⟩ : ByteArray), (⟨#[65, 65]⟩ : ByteArray)] : List ByteArray) : List ByteArray)).bind fun y130 => (impl_MarkOf.l0 k a0 y130 (y130.length : Int) 0))) else (none)) else (some ((-1), 0))))
theorem impl_MarkOf.mono_l : ∀ k, (∀ y0 y1 y2 y3, LeO (impl_MarkOf.l0 k y0 y1 y2 y3) (impl_MarkOf.l0 (k + 1) y0 y1 y2 y3))
  | 0 => fun _ _ _ _ r h => by simp [impl_MarkOf.l0] at h
  | k + 1 => by
    have ih0 := impl_MarkOf.mono_l k
    · intro y0 y1 y2 y3
      unfold impl_MarkOf.l0
      repeat' first
      | (with_reducible exact ih0 _ _ _ _)
      | (with_reducible exact impl_capitals.mono _ _ _)
      | (with_reducible exact LeO.refl _)
      | (with_reducible exact LeO.none _)
      | (with_reducible refine LeO.ite ?_ ?_)
      | (with_reducible refine LeO.bind ?_ (fun _ => ?_))
      | exact ih0 _ _ _ _
      | exact impl_capitals.mono _ _ _
      | exact LeO.none _
      | refine LeO.ite ?_ ?_
      | refine LeO.bind ?_ (fun _ => ?_)
theorem impl_MarkOf.mono : ∀ a0 k, LeO (impl_MarkOf.f k a0) (impl_MarkOf.f (k + 1) a0) := by
  intro a0 k
  have ih0 := impl_MarkOf.mono_l k
  unfold impl_MarkOf.f
  repeat' first
      | (with_reducible exact ih0 _ _ _ _)
      | (with_reducible exact impl_capitals.mono _ _ _)
      | (with_reducible exact LeO.refl _)
      | (with_reducible exact LeO.none _)
      | (with_reducible refine LeO.ite ?_ ?_)
      | (with_reducible refine LeO.bind ?_ (fun _ => ?_))
      | exact ih0 _ _ _ _
      | exact impl_capitals.mono _ _ _
      | exact LeO.none _
      | refine LeO.ite ?_ ?_
      | refine LeO.bind ?_ (fun _ => ?_)
set_option maxHeartbeats 8000000 in
set_option maxRecDepth 100000 in
theorem impl_MarkOf.calls (k : Nat) (a0 : ByteArray) (r1 : Int) (r2 : Int) (w : World) (h : impl_MarkOf.f k a0 = some (r1, r2)) :
    Calls Tryd.prog 24 #[.string a0] w fun e w' => e = .returned (.tuple #[.int .i64 r1, .int .i64 r2]) ∧ Below w.heap.size w w' := by
  have HB := Aside0.mk (Below.refl w.heap.size w)
  have H : (if a0.toList = ([] : List UInt8) then (some (0, 0)) else ((impl_capitals.f k a0 3).bind fun t129 => (if t129 = true then (if 0 < (a0.size : Int) then (if (bt a0 0) = 80 then (if 1 < (a0.size : Int) then (if 2 < (a0.size : Int) then (some (4, (((((bt a0 1) - 65) % 256) * 26) + (((bt a0 2) - 65) % 256)) + 1)) else (none)) else (none)) else ((some (([(⟨#[82, 82]⟩ : ByteArray), (⟨#[67, 67]⟩ : ByteArray), (⟨#[65, 65]⟩ : ByteArray)] : List ByteArray) : List ByteArray)).bind fun y130 => (impl_MarkOf.l0 k a0 y130 (y130.length : Int) 0))) else (none)) else (some ((-1), 0))))) = some (r1, r2) := h
  clear h
  by_cases c2 : a0.toList = ([] : List UInt8)
  · rw [if_pos c2] at H
    have c2b0 : (a0.toList == ([] : List UInt8)) = true := beq_iff_eq.mpr c2
    have c2b1 : (a0.toList != ([] : List UInt8)) = false := bne_eq_false_iff_eq.mpr c2
    clear c2
    simp only [Option.some.injEq, Prod.mk.injEq] at H
    obtain ⟨rfl, rfl⟩ := H
    go_enter Tryd.func24, Tryd.ntmps24
    go_wp2
    repeat (go_quiet (fail); try go_wp2)
    go_ret2
    exact ⟨by first | rfl | (simp [errW_none, errW_some] <;> rfl) | (simp [*, errW_none, errW_some] <;> rfl), by repeat (first | (with_reducible first | exact HB.out | apply below_alloc | apply pw_below_drewN | apply below_drew1) | exact HB.out)⟩
  · rw [if_neg c2] at H
    have c2b0 : (a0.toList == ([] : List UInt8)) = false := beq_eq_false_iff_ne.mpr c2
    have c2b1 : (a0.toList != ([] : List UInt8)) = true := bne_iff_ne.mpr c2
    replace H := Option.bind_eq_some_iff.mp H
    obtain ⟨t129, A30, H⟩ := H
    replace H : (if t129 = true then (if 0 < (a0.size : Int) then (if (bt a0 0) = 80 then (if 1 < (a0.size : Int) then (if 2 < (a0.size : Int) then (some (4, (((((bt a0 1) - 65) % 256) * 26) + (((bt a0 2) - 65) % 256)) + 1)) else (none)) else (none)) else ((some (([(⟨#[82, 82]⟩ : ByteArray), (⟨#[67, 67]⟩ : ByteArray), (⟨#[65, 65]⟩ : ByteArray)] : List ByteArray) : List ByteArray)).bind fun y130 => (impl_MarkOf.l0 k a0 y130 (y130.length : Int) 0))) else (none)) else (some ((-1), 0))) = some (r1, r2) := H
    have A3 := Aside0.mk A30
    clear A30
    by_cases c4 : t129 = true
    · subst c4
      have H1 : (if 0 < (a0.size : Int) then (if (bt a0 0) = 80 then (if 1 < (a0.size : Int) then (if 2 < (a0.size : Int) then (some (4, (((((bt a0 1) - 65) % 256) * 26) + (((bt a0 2) - 65) % 256)) + 1)) else (none)) else (none)) else ((some (([(⟨#[82, 82]⟩ : ByteArray), (⟨#[67, 67]⟩ : ByteArray), (⟨#[65, 65]⟩ : ByteArray)] : List ByteArray) : List ByteArray)).bind fun y130 => (impl_MarkOf.l0 k a0 y130 (y130.length : Int) 0))) else (none)) = some (r1, r2) := by rw [if_pos rfl] at H; exact H
      clear H
      have H := H1
      clear H1
      by_cases c5 : 0 < (a0.size : Int)
      · rw [if_pos c5] at H
        have c5b0 : decide (0 < (a0.size : Int)) = true := decide_eq_true c5
        have c5b1 : decide (0 < a0.size) = true := decide_eq_true (by omega)
        clear c5
        by_cases c7 : (bt a0 0) = 80
        · rw [if_pos c7] at H
          have c7b0 : ((bt a0 0) == 80) = true := beq_iff_eq.mpr c7
          have c7b1 : ((bt a0 0) != 80) = false := bne_eq_false_iff_eq.mpr c7
          clear c7
          by_cases c8 : 1 < (a0.size : Int)
          · rw [if_pos c8] at H
            have c8b0 : decide (1 < (a0.size : Int)) = true := decide_eq_true c8
            have c8b1 : decide (1 < a0.size) = true := decide_eq_true (by omega)
            clear c8
            by_cases c10 : 2 < (a0.size : Int)
            · rw [if_pos c10] at H
              have c10b0 : decide (2 < (a0.size : Int)) = true := decide_eq_true c10
              have c10b1 : decide (2 < a0.size) = true := decide_eq_true (by omega)
              clear c10
              simp only [Option.some.injEq, Prod.mk.injEq] at H
              obtain ⟨rfl, rfl⟩ := H
              go_enter Tryd.func24, Tryd.ntmps24
              go_wp2_with (first | (go_at_call 19; (with_reducible refine (impl_capitals.calls k a0 3 true _ A3.out).mono ?_); rintro e w' ⟨rfl, ⟨nd, rfl⟩⟩; (try first | exact ⟨rfl, _, World.drewN_drewN _ _ _⟩ | exact ⟨rfl, _, Eq.trans (World.drewN_drewN _ _ _) (congrArg (World.drewN _) (Nat.add_assoc _ _ _))⟩); have p6 : 0 ≤ (0 : Int) := (by omega); have q6 : 0 < a0.size := (by have : (0 : Int) < (a0.size : Int) := of_decide_eq_true (by first | (with_reducible assumption) | assumption); omega); have hx6 : ∀ h : 0 < a0.size, ((a0[0]'h).toNat : Int) = bt a0 0 := bt_at a0 0; clear p6; have qi6 : (0 < (a0.size : Int)) = True := eq_true (of_decide_eq_true (by first | (with_reducible assumption) | assumption)); replace q6 := eq_true q6; have p9 : 0 ≤ (1 : Int) := (by omega); have q9 : 1 < a0.size := (by have : (1 : Int) < (a0.size : Int) := of_decide_eq_true (by first | (with_reducible assumption) | assumption); omega); have hx9 : ∀ h : 1 < a0.size, ((a0[1]'h).toNat : Int) = bt a0 1 := bt_at a0 1; clear p9; have qi9 : (1 < (a0.size : Int)) = True := eq_true (of_decide_eq_true (by first | (with_reducible assumption) | assumption)); replace q9 := eq_true q9; have p11 : 0 ≤ (2 : Int) := (by omega); have q11 : 2 < a0.size := (by have : (2 : Int) < (a0.size : Int) := of_decide_eq_true (by first | (with_reducible assumption) | assumption); omega); have hx11 : ∀ h : 2 < a0.size, ((a0[2]'h).toNat : Int) = bt a0 2 := bt_at a0 2; clear p11; have qi11 : (2 < (a0.size : Int)) = True := eq_true (of_decide_eq_true (by first | (with_reducible assumption) | assumption)); replace q11 := eq_true q11))
              repeat (go_quiet (first | (go_at_call 19; (with_reducible refine (impl_capitals.calls k a0 3 true _ A3.out).mono ?_); rintro e w' ⟨rfl, ⟨nd, rfl⟩⟩; (try first | exact ⟨rfl, _, World.drewN_drewN _ _ _⟩ | exact ⟨rfl, _, Eq.trans (World.drewN_drewN _ _ _) (congrArg (World.drewN _) (Nat.add_assoc _ _ _))⟩); have p6 : 0 ≤ (0 : Int) := (by omega); have q6 : 0 < a0.size := (by have : (0 : Int) < (a0.size : Int) := of_decide_eq_true (by first | (with_reducible assumption) | assumption); omega); have hx6 : ∀ h : 0 < a0.size, ((a0[0]'h).toNat : Int) = bt a0 0 := bt_at a0 0; clear p6; have qi6 : (0 < (a0.size : Int)) = True := eq_true (of_decide_eq_true (by first | (with_reducible assumption) | assumption)); replace q6 := eq_true q6; have p9 : 0 ≤ (1 : Int) := (by omega); have q9 : 1 < a0.size := (by have : (1 : Int) < (a0.size : Int) := of_decide_eq_true (by first | (with_reducible assumption) | assumption); omega); have hx9 : ∀ h : 1 < a0.size, ((a0[1]'h).toNat : Int) = bt a0 1 := bt_at a0 1; clear p9; have qi9 : (1 < (a0.size : Int)) = True := eq_true (of_decide_eq_true (by first | (with_reducible assumption) | assumption)); replace q9 := eq_true q9; have p11 : 0 ≤ (2 : Int) := (by omega); have q11 : 2 < a0.size := (by have : (2 : Int) < (a0.size : Int) := of_decide_eq_true (by first | (with_reducible assumption) | assumption); omega); have hx11 : ∀ h : 2 < a0.size, ((a0[2]'h).toNat : Int) = bt a0 2 := bt_at a0 2; clear p11; have qi11 : (2 < (a0.size : Int)) = True := eq_true (of_decide_eq_true (by first | (with_reducible assumption) | assumption)); replace q11 := eq_true q11)); try go_wp2_with (first | (go_at_call 19; (with_reducible refine (impl_capitals.calls k a0 3 true _ A3.out).mono ?_); rintro e w' ⟨rfl, ⟨nd, rfl⟩⟩; (try first | exact ⟨rfl, _, World.drewN_drewN _ _ _⟩ | exact ⟨rfl, _, Eq.trans (World.drewN_drewN _ _ _) (congrArg (World.drewN _) (Nat.add_assoc _ _ _))⟩); have p6 : 0 ≤ (0 : Int) := (by omega); have q6 : 0 < a0.size := (by have : (0 : Int) < (a0.size : Int) := of_decide_eq_true (by first | (with_reducible assumption) | assumption); omega); have hx6 : ∀ h : 0 < a0.size, ((a0[0]'h).toNat : Int) = bt a0 0 := bt_at a0 0; clear p6; have qi6 : (0 < (a0.size : Int)) = True := eq_true (of_decide_eq_true (by first | (with_reducible assumption) | assumption)); replace q6 := eq_true q6; have p9 : 0 ≤ (1 : Int) := (by omega); have q9 : 1 < a0.size := (by have : (1 : Int) < (a0.size : Int) := of_decide_eq_true (by first | (with_reducible assumption) | assumption); omega); have hx9 : ∀ h : 1 < a0.size, ((a0[1]'h).toNat : Int) = bt a0 1 := bt_at a0 1; clear p9; have qi9 : (1 < (a0.size : Int)) = True := eq_true (of_decide_eq_true (by first | (with_reducible assumption) | assumption)); replace q9 := eq_true q9; have p11 : 0 ≤ (2 : Int) := (by omega); have q11 : 2 < a0.size := (by have : (2 : Int) < (a0.size : Int) := of_decide_eq_true (by first | (with_reducible assumption) | assumption); omega); have hx11 : ∀ h : 2 < a0.size, ((a0[2]'h).toNat : Int) = bt a0 2 := bt_at a0 2; clear p11; have qi11 : (2 < (a0.size : Int)) = True := eq_true (of_decide_eq_true (by first | (with_reducible assumption) | assumption)); replace q11 := eq_true q11)))
              go_ret2
              exact ⟨by first | rfl | (simp [errW_none, errW_some] <;> rfl) | (simp [*, errW_none, errW_some] <;> rfl), by repeat (first | (with_reducible first | exact HB.out | apply below_alloc | apply pw_below_drewN | apply below_drew1) | exact HB.out)⟩
            · rw [if_neg c10] at H
              exact absurd H (by simp)
          · rw [if_neg c8] at H
            exact absurd H (by simp)
        · rw [if_neg c7] at H
          have c7b0 : ((bt a0 0) == 80) = false := beq_eq_false_iff_ne.mpr c7
          have c7b1 : ((bt a0 0) != 80) = true := bne_iff_ne.mpr c7
          obtain ⟨y130, hy130⟩ : ∃ y_ : List ByteArray, y_ = (([(⟨#[82, 82]⟩ : ByteArray), (⟨#[67, 67]⟩ : ByteArray), (⟨#[65, 65]⟩ : ByteArray)] : List ByteArray)) := ⟨_, rfl⟩
          replace H : (impl_MarkOf.l0 k a0 y130 (y130.length : Int) 0) = some (r1, r2) := by first | (rw [hy130]; with_reducible exact H) | (have H2_ := (Option.bind_some _ _).symm.trans H; rw [hy130]; with_reducible exact H2_) | (have H2_ := (Option.bind_some _ _).symm.trans H; with_reducible exact H2_) | with_reducible exact H | (rw [hy130]; exact H) | exact H
          have Ny130 := Aside0.mk hy130
          clear hy130
          have H' := Aside0.mk H
          clear H
          go_enter Tryd.func24, Tryd.ntmps24
          go_wp2_with (first | (go_at_call 19; (with_reducible refine (impl_capitals.calls k a0 3 true _ A3.out).mono ?_); rintro e w' ⟨rfl, ⟨nd, rfl⟩⟩; (try first | exact ⟨rfl, _, World.drewN_drewN _ _ _⟩ | exact ⟨rfl, _, Eq.trans (World.drewN_drewN _ _ _) (congrArg (World.drewN _) (Nat.add_assoc _ _ _))⟩); have p6 : 0 ≤ (0 : Int) := (by omega); have q6 : 0 < a0.size := (by have : (0 : Int) < (a0.size : Int) := of_decide_eq_true (by first | (with_reducible assumption) | assumption); omega); have hx6 : ∀ h : 0 < a0.size, ((a0[0]'h).toNat : Int) = bt a0 0 := bt_at a0 0; clear p6; have qi6 : (0 < (a0.size : Int)) = True := eq_true (of_decide_eq_true (by first | (with_reducible assumption) | assumption)); replace q6 := eq_true q6) | ((with_reducible refine gate_dst (N := 25) rfl ?_); refine Kd.R_lit Kd.string _ 9 ?hg (N := 25) ?hd (xs := ([(⟨#[82, 82]⟩ : ByteArray), (⟨#[67, 67]⟩ : ByteArray), (⟨#[65, 65]⟩ : ByteArray)] : List ByteArray)) (inner := [.string (⟨#[82, 82]⟩ : ByteArray), .string (⟨#[67, 67]⟩ : ByteArray), .string (⟨#[65, 65]⟩ : ByteArray)]) (ok := fun _ => True) (okp := fun _ => True) ?hr ?hp (fun _ hk => hk) trivial (Below.refl _ _) (Nat.le_refl _) (by simp) ?_; (case hd => rfl); (case hg => rfl); (case hr => first | (go_simp; done) | (go_simp; rfl)); (case hp => exact (Reps.one (show Kd.M Kd.string _ _ _ (⟨#[82, 82]⟩ : ByteArray) [.string (⟨#[82, 82]⟩ : ByteArray)] from rfl) (Reps.one (show Kd.M Kd.string _ _ _ (⟨#[67, 67]⟩ : ByteArray) [.string (⟨#[67, 67]⟩ : ByteArray)] from rfl) (Reps.one (show Kd.M Kd.string _ _ _ (⟨#[65, 65]⟩ : ByteArray) [.string (⟨#[65, 65]⟩ : ByteArray)] from rfl) (Reps.none _ _))))); intro v131 w12 ho13 hb hg_ hnew_; clear hg_ hnew_; (first | rw [← Ny130.out] at ho13 | (simp only [Int.reduceToNat] at ho13; rw [← Ny130.out] at ho13)); have n0_ := Aside0.mk (Kd.R_lower ho13 (below_size (by repeat (first | (with_reducible first | exact HB.out | apply below_alloc | apply pw_below_drewN | apply below_drew1) | exact HB.out)))); have n1_ := Aside0.mk (below_step (by repeat (first | (with_reducible first | exact HB.out | apply below_alloc | apply pw_below_drewN | apply below_drew1) | exact HB.out)) hb); clear HB; have HO132 := n0_; have HB := n1_; clear n0_ n1_; clear hb ho13; obtain ⟨Ao14, co14, eo14⟩ := Kd.R_slice HO132.out; subst eo14))
          repeat (go_quiet (first | (go_at_call 19; (with_reducible refine (impl_capitals.calls k a0 3 true _ A3.out).mono ?_); rintro e w' ⟨rfl, ⟨nd, rfl⟩⟩; (try first | exact ⟨rfl, _, World.drewN_drewN _ _ _⟩ | exact ⟨rfl, _, Eq.trans (World.drewN_drewN _ _ _) (congrArg (World.drewN _) (Nat.add_assoc _ _ _))⟩); have p6 : 0 ≤ (0 : Int) := (by omega); have q6 : 0 < a0.size := (by have : (0 : Int) < (a0.size : Int) := of_decide_eq_true (by first | (with_reducible assumption) | assumption); omega); have hx6 : ∀ h : 0 < a0.size, ((a0[0]'h).toNat : Int) = bt a0 0 := bt_at a0 0; clear p6; have qi6 : (0 < (a0.size : Int)) = True := eq_true (of_decide_eq_true (by first | (with_reducible assumption) | assumption)); replace q6 := eq_true q6) | ((with_reducible refine gate_dst (N := 25) rfl ?_); refine Kd.R_lit Kd.string _ 9 ?hg (N := 25) ?hd (xs := ([(⟨#[82, 82]⟩ : ByteArray), (⟨#[67, 67]⟩ : ByteArray), (⟨#[65, 65]⟩ : ByteArray)] : List ByteArray)) (inner := [.string (⟨#[82, 82]⟩ : ByteArray), .string (⟨#[67, 67]⟩ : ByteArray), .string (⟨#[65, 65]⟩ : ByteArray)]) (ok := fun _ => True) (okp := fun _ => True) ?hr ?hp (fun _ hk => hk) trivial (Below.refl _ _) (Nat.le_refl _) (by simp) ?_; (case hd => rfl); (case hg => rfl); (case hr => first | (go_simp; done) | (go_simp; rfl)); (case hp => exact (Reps.one (show Kd.M Kd.string _ _ _ (⟨#[82, 82]⟩ : ByteArray) [.string (⟨#[82, 82]⟩ : ByteArray)] from rfl) (Reps.one (show Kd.M Kd.string _ _ _ (⟨#[67, 67]⟩ : ByteArray) [.string (⟨#[67, 67]⟩ : ByteArray)] from rfl) (Reps.one (show Kd.M Kd.string _ _ _ (⟨#[65, 65]⟩ : ByteArray) [.string (⟨#[65, 65]⟩ : ByteArray)] from rfl) (Reps.none _ _))))); intro v131 w12 ho13 hb hg_ hnew_; clear hg_ hnew_; (first | rw [← Ny130.out] at ho13 | (simp only [Int.reduceToNat] at ho13; rw [← Ny130.out] at ho13)); have n0_ := Aside0.mk (Kd.R_lower ho13 (below_size (by repeat (first | (with_reducible first | exact HB.out | apply below_alloc | apply pw_below_drewN | apply below_drew1) | exact HB.out)))); have n1_ := Aside0.mk (below_step (by repeat (first | (with_reducible first | exact HB.out | apply below_alloc | apply pw_below_drewN | apply below_drew1) | exact HB.out)) hb); clear HB; have HO132 := n0_; have HB := n1_; clear n0_ n1_; clear hb ho13; obtain ⟨Ao14, co14, eo14⟩ := Kd.R_slice HO132.out; subst eo14)); try go_wp2_with (first | (go_at_call 19; (with_reducible refine (impl_capitals.calls k a0 3 true _ A3.out).mono ?_); rintro e w' ⟨rfl, ⟨nd, rfl⟩⟩; (try first | exact ⟨rfl, _, World.drewN_drewN _ _ _⟩ | exact ⟨rfl, _, Eq.trans (World.drewN_drewN _ _ _) (congrArg (World.drewN _) (Nat.add_assoc _ _ _))⟩); have p6 : 0 ≤ (0 : Int) := (by omega); have q6 : 0 < a0.size := (by have : (0 : Int) < (a0.size : Int) := of_decide_eq_true (by first | (with_reducible assumption) | assumption); omega); have hx6 : ∀ h : 0 < a0.size, ((a0[0]'h).toNat : Int) = bt a0 0 := bt_at a0 0; clear p6; have qi6 : (0 < (a0.size : Int)) = True := eq_true (of_decide_eq_true (by first | (with_reducible assumption) | assumption)); replace q6 := eq_true q6) | ((with_reducible refine gate_dst (N := 25) rfl ?_); refine Kd.R_lit Kd.string _ 9 ?hg (N := 25) ?hd (xs := ([(⟨#[82, 82]⟩ : ByteArray), (⟨#[67, 67]⟩ : ByteArray), (⟨#[65, 65]⟩ : ByteArray)] : List ByteArray)) (inner := [.string (⟨#[82, 82]⟩ : ByteArray), .string (⟨#[67, 67]⟩ : ByteArray), .string (⟨#[65, 65]⟩ : ByteArray)]) (ok := fun _ => True) (okp := fun _ => True) ?hr ?hp (fun _ hk => hk) trivial (Below.refl _ _) (Nat.le_refl _) (by simp) ?_; (case hd => rfl); (case hg => rfl); (case hr => first | (go_simp; done) | (go_simp; rfl)); (case hp => exact (Reps.one (show Kd.M Kd.string _ _ _ (⟨#[82, 82]⟩ : ByteArray) [.string (⟨#[82, 82]⟩ : ByteArray)] from rfl) (Reps.one (show Kd.M Kd.string _ _ _ (⟨#[67, 67]⟩ : ByteArray) [.string (⟨#[67, 67]⟩ : ByteArray)] from rfl) (Reps.one (show Kd.M Kd.string _ _ _ (⟨#[65, 65]⟩ : ByteArray) [.string (⟨#[65, 65]⟩ : ByteArray)] from rfl) (Reps.none _ _))))); intro v131 w12 ho13 hb hg_ hnew_; clear hg_ hnew_; (first | rw [← Ny130.out] at ho13 | (simp only [Int.reduceToNat] at ho13; rw [← Ny130.out] at ho13)); have n0_ := Aside0.mk (Kd.R_lower ho13 (below_size (by repeat (first | (with_reducible first | exact HB.out | apply below_alloc | apply pw_below_drewN | apply below_drew1) | exact HB.out)))); have n1_ := Aside0.mk (below_step (by repeat (first | (with_reducible first | exact HB.out | apply below_alloc | apply pw_below_drewN | apply below_drew1) | exact HB.out)) hb); clear HB; have HO132 := n0_; have HB := n1_; clear n0_ n1_; clear hb ho13; obtain ⟨Ao14, co14, eo14⟩ := Kd.R_slice HO132.out; subst eo14)))
          go_loopg [27] k (fun kq v27 w' => ∃ (x27_1 : Int), v27 = .int .i64 x27_1 ∧ Aside0 (impl_MarkOf.l0 kq a0 y130 (y130.length : Int) x27_1 = some (r1, r2)) ∧ Aside0 (kq ≤ k) ∧ Aside0 (Kd.R Kd.string 9 w' w.heap.size (fun _ => True) (.slice Ao14 y130.length co14) y130) ∧ Aside0 (Below w.heap.size w w'))
          case atStart => exact ⟨(0), (by first | rfl | (simp; done) | (simp [*]; done)), H', ⟨Nat.le_refl _⟩, ⟨by (with_reducible repeat (first | apply Kd.R_alloc | apply Kd.R_drewN | apply Kd.R_drew)); exact HO132.out⟩, ⟨by repeat (first | (with_reducible first | exact HB.out | apply below_alloc | apply pw_below_drewN | apply below_drew1) | exact HB.out)⟩⟩
          case round =>
            clear H'
            try clear c1
            try clear p1
            try clear q1
            try clear hx1
            try clear qi1
            try clear c2
            try clear c2b0
            try clear c2b1
            try clear p2
            try clear c4
            try clear c5
            try clear c5b0
            try clear c5b1
            try clear p6
            try clear q6
            try clear hx6
            try clear qi6
            try clear c7
            try clear c7b0
            try clear c7b1
            try clear c8
            try clear c8b0
            try clear c8b1
            try clear p9
            try clear q9
            try clear hx9
            try clear qi9
            try clear c10
            try clear c10b0
            try clear c10b1
            try clear p11
            try clear q11
            try clear hx11
            try clear qi11
            try clear p11
            try clear p6
            try clear p9
            try clear q11
            try clear q6
            try clear q9
            obtain ⟨x27_1, rfl, HA, HK1, HO_25, HB⟩ := hrel
            cases gk with
            | zero => exact absurd HA.out (by simp [impl_MarkOf.l0])
            | succ k1 =>
              have H := HA.out
              clear HA
              simp only [impl_MarkOf.l0] at H
              by_cases c15 : x27_1 < (y130.length : Int)
              · rw [if_pos c15] at H
                have c15b0 : decide (x27_1 < (y130.length : Int)) = true := decide_eq_true c15
                clear c15
                by_cases c16 : 0 ≤ x27_1
                · rw [if_pos c16] at H
                  have c16b0 : decide (0 ≤ x27_1) = true := decide_eq_true c16
                  clear c16
                  by_cases c17 : x27_1 < (y130.length : Int)
                  · rw [if_pos c17] at H
                    have c17b0 : decide (x27_1 < (y130.length : Int)) = true := decide_eq_true c17
                    clear c17
                    by_cases c18 : 0 ≤ 2
                    · rw [if_pos c18] at H
                      have c18b0 := eq_true c18
                      have c18b1 : decide (0 ≤ 2) = true := decide_eq_true c18
                      clear c18
                      by_cases c19 : 2 ≤ (a0.size : Int)
                      · rw [if_pos c19] at H
                        have c19b0 := eq_true c19
                        have c19b1 : decide (2 ≤ (a0.size : Int)) = true := decide_eq_true c19
                        clear c19
                        by_cases c20 : (a0.extract 0 2).toList = (rdOf ByteArray.empty y130 x27_1).toList
                        · rw [if_pos c20] at H
                          have c20b0 : ((a0.extract 0 2).toList == (rdOf ByteArray.empty y130 x27_1).toList) = true := beq_iff_eq.mpr c20
                          have c20b1 : ((a0.extract 0 2).toList != (rdOf ByteArray.empty y130 x27_1).toList) = false := bne_eq_false_iff_eq.mpr c20
                          clear c20
                          by_cases c21 : 2 < (a0.size : Int)
                          · rw [if_pos c21] at H
                            have c21b0 : decide (2 < (a0.size : Int)) = true := decide_eq_true c21
                            have c21b1 : decide (2 < a0.size) = true := decide_eq_true (by omega)
                            clear c21
                            by_cases c23 : (bt a0 2) ≤ 88
                            · rw [if_pos c23] at H
                              have c23b0 : decide ((bt a0 2) ≤ 88) = true := decide_eq_true c23
                              clear c23
                              simp only [Option.some.injEq, Prod.mk.injEq] at H
                              obtain ⟨rfl, rfl⟩ := H
                              have p133 : 0 ≤ (x27_1 : Int) := of_decide_eq_true (by first | (with_reducible assumption) | assumption)
                              have q133 : x27_1 < (y130.length : Int) := of_decide_eq_true (by first | (with_reducible assumption) | assumption)
                              obtain ⟨ad133, e133, hx133_0⟩ := Kd.at_string (Kd.R_reads' HO_25.out).2.2 x27_1 p133 q133
                              cases e133
                              replace p133 := eq_true p133
                              replace q133 := eq_true q133
                              have p22 : 0 ≤ (2 : Int) := (by omega)
                              have q22 : 2 < a0.size := (by have : (2 : Int) < (a0.size : Int) := of_decide_eq_true (by first | (with_reducible assumption) | assumption); omega)
                              have hx22 : ∀ h : 2 < a0.size, ((a0[2]'h).toNat : Int) = bt a0 2 := bt_at a0 2
                              clear p22
                              have qi22 : (2 < (a0.size : Int)) = True := eq_true (of_decide_eq_true (by first | (with_reducible assumption) | assumption))
                              replace q22 := eq_true q22
                              have p24 : 0 ≤ (2 : Int) := (by omega)
                              have q24 : 2 < a0.size := (by have : (2 : Int) < (a0.size : Int) := of_decide_eq_true (by first | (with_reducible assumption) | assumption); omega)
                              have hx24 : ∀ h : 2 < a0.size, ((a0[2]'h).toNat : Int) = bt a0 2 := bt_at a0 2
                              clear p24
                              have qi24 : (2 < (a0.size : Int)) = True := eq_true (of_decide_eq_true (by first | (with_reducible assumption) | assumption))
                              replace q24 := eq_true q24
                              go_wp2
                              repeat (go_quiet (fail); try go_wp2)
                              go_ret2
                              exact ⟨by first | rfl | (simp [errW_none, errW_some] <;> rfl) | (simp [*, errW_none, errW_some] <;> rfl), by repeat (first | (with_reducible first | exact HB.out | apply below_alloc | apply pw_below_drewN | apply below_drew1) | exact HB.out)⟩
                            · rw [if_neg c23] at H
                              have c23b0 : decide ((bt a0 2) ≤ 88) = false := decide_eq_false c23
                              clear c23
                              have H' := Aside0.mk H
                              clear H
                              have p133 : 0 ≤ (x27_1 : Int) := of_decide_eq_true (by first | (with_reducible assumption) | assumption)
                              have q133 : x27_1 < (y130.length : Int) := of_decide_eq_true (by first | (with_reducible assumption) | assumption)
                              obtain ⟨ad133, e133, hx133_0⟩ := Kd.at_string (Kd.R_reads' HO_25.out).2.2 x27_1 p133 q133
                              cases e133
                              replace p133 := eq_true p133
                              replace q133 := eq_true q133
                              have p22 : 0 ≤ (2 : Int) := (by omega)
                              have q22 : 2 < a0.size := (by have : (2 : Int) < (a0.size : Int) := of_decide_eq_true (by first | (with_reducible assumption) | assumption); omega)
                              have hx22 : ∀ h : 2 < a0.size, ((a0[2]'h).toNat : Int) = bt a0 2 := bt_at a0 2
                              clear p22
                              have qi22 : (2 < (a0.size : Int)) = True := eq_true (of_decide_eq_true (by first | (with_reducible assumption) | assumption))
                              replace q22 := eq_true q22
                              go_wp2
                              repeat (go_quiet (fail); try go_wp2)
                              go_roundg k1
                              case measure => have := HK1.out; omega
                              case rel => exact ⟨(wrap64 (x27_1 + 1)), (by first | rfl | (simp; done) | (simp [*]; done)), H', ⟨by have := HK1.out; omega⟩, ⟨by (with_reducible repeat (first | apply Kd.R_alloc | apply Kd.R_drewN | apply Kd.R_drew)); exact HO_25.out⟩, ⟨by repeat (first | (with_reducible first | exact HB.out | apply below_alloc | apply pw_below_drewN | apply below_drew1) | exact HB.out)⟩⟩
                          · rw [if_neg c21] at H
                            exact absurd H (by simp)
                        · rw [if_neg c20] at H
                          have c20b0 : ((a0.extract 0 2).toList == (rdOf ByteArray.empty y130 x27_1).toList) = false := beq_eq_false_iff_ne.mpr c20
                          have c20b1 : ((a0.extract 0 2).toList != (rdOf ByteArray.empty y130 x27_1).toList) = true := bne_iff_ne.mpr c20
                          have H' := Aside0.mk H
                          clear H
                          have p133 : 0 ≤ (x27_1 : Int) := of_decide_eq_true (by first | (with_reducible assumption) | assumption)
                          have q133 : x27_1 < (y130.length : Int) := of_decide_eq_true (by first | (with_reducible assumption) | assumption)
                          obtain ⟨ad133, e133, hx133_0⟩ := Kd.at_string (Kd.R_reads' HO_25.out).2.2 x27_1 p133 q133
                          cases e133
                          replace p133 := eq_true p133
                          replace q133 := eq_true q133
                          go_wp2
                          repeat (go_quiet (fail); try go_wp2)
                          go_roundg k1
                          case measure => have := HK1.out; omega
                          case rel => exact ⟨(wrap64 (x27_1 + 1)), (by first | rfl | (simp; done) | (simp [*]; done)), H', ⟨by have := HK1.out; omega⟩, ⟨by (with_reducible repeat (first | apply Kd.R_alloc | apply Kd.R_drewN | apply Kd.R_drew)); exact HO_25.out⟩, ⟨by repeat (first | (with_reducible first | exact HB.out | apply below_alloc | apply pw_below_drewN | apply below_drew1) | exact HB.out)⟩⟩
                      · rw [if_neg c19] at H
                        exact absurd H (by simp)
                    · rw [if_neg c18] at H
                      exact absurd H (by simp)
                  · rw [if_neg c17] at H
                    exact absurd H (by simp)
                · rw [if_neg c16] at H
                  exact absurd H (by simp)
              · rw [if_neg c15] at H
                have c15b0 : decide (x27_1 < (y130.length : Int)) = false := decide_eq_false c15
                clear c15
                simp only [Option.some.injEq, Prod.mk.injEq] at H
                obtain ⟨rfl, rfl⟩ := H
                go_wp2
                repeat (go_quiet (fail); try go_wp2)
                go_ret2
                exact ⟨by first | rfl | (simp [errW_none, errW_some] <;> rfl) | (simp [*, errW_none, errW_some] <;> rfl), by repeat (first | (with_reducible first | exact HB.out | apply below_alloc | apply pw_below_drewN | apply below_drew1) | exact HB.out)⟩
      · rw [if_neg c5] at H
        exact absurd H (by simp)
    · replace c4 := Bool.eq_false_iff.mpr c4
      subst c4
      have H1 : (some ((-1), 0)) = some (r1, r2) := by rw [if_neg (show ¬ (false = true) by decide)] at H; exact H
      clear H
      have H := H1
      clear H1
      simp only [Option.some.injEq, Prod.mk.injEq] at H
      obtain ⟨rfl, rfl⟩ := H
      go_enter Tryd.func24, Tryd.ntmps24
      go_wp2_with (first | (go_at_call 19; (with_reducible refine (impl_capitals.calls k a0 3 false _ A3.out).mono ?_); rintro e w' ⟨rfl, ⟨nd, rfl⟩⟩; (try first | exact ⟨rfl, _, World.drewN_drewN _ _ _⟩ | exact ⟨rfl, _, Eq.trans (World.drewN_drewN _ _ _) (congrArg (World.drewN _) (Nat.add_assoc _ _ _))⟩)))
      repeat (go_quiet (first | (go_at_call 19; (with_reducible refine (impl_capitals.calls k a0 3 false _ A3.out).mono ?_); rintro e w' ⟨rfl, ⟨nd, rfl⟩⟩; (try first | exact ⟨rfl, _, World.drewN_drewN _ _ _⟩ | exact ⟨rfl, _, Eq.trans (World.drewN_drewN _ _ _) (congrArg (World.drewN _) (Nat.add_assoc _ _ _))⟩))); try go_wp2_with (first | (go_at_call 19; (with_reducible refine (impl_capitals.calls k a0 3 false _ A3.out).mono ?_); rintro e w' ⟨rfl, ⟨nd, rfl⟩⟩; (try first | exact ⟨rfl, _, World.drewN_drewN _ _ _⟩ | exact ⟨rfl, _, Eq.trans (World.drewN_drewN _ _ _) (congrArg (World.drewN _) (Nat.add_assoc _ _ _))⟩))))
      go_ret2
      exact ⟨by first | rfl | (simp [errW_none, errW_some] <;> rfl) | (simp [*, errW_none, errW_some] <;> rfl), by repeat (first | (with_reducible first | exact HB.out | apply below_alloc | apply pw_below_drewN | apply below_drew1) | exact HB.out)⟩

/-- A state of type 59 at block g of W; what its slices lead to came in by w0. -/
def IsS59 (w0 W : World) (g : Nat) (f0 : List Int) (f1 : Int) : Prop := ∃ A0 c0, W.heap[g]? = some (.cells #[.slice A0 f0.length c0, .int .i64 f1] 59 (0, 0)) ∧ w0.heap.size ≤ g ∧ Kd.C (Kd.int .u8) w0 A0 f0.length f0
theorem IsS59.grown {w0 W : World} {g : Nat} {f0 : List Int} {f1 : Int} {W1 : World} {row : Option Nat} (h : IsS59 w0 W g f0 f1) (hw : W.grownBy W1 row) (hne : some g ≠ row) : IsS59 w0 W1 g f0 f1 := by
  obtain ⟨A0, c0, hb, hg, hr0⟩ := h
  exact ⟨A0, c0, blk_grown hb hw hne, hg, hr0⟩
theorem IsS59.own_neN {w0 W : World} {g : Nat} {f0 : List Int} {f1 : Int} {α : Type} {d : Kd α} {e : Nat} {base : Nat} {ok : Nat → Prop} {v : Value} {xs : List α} (h : IsS59 w0 W g f0 f1) (ho : Kd.N d e W base ok v xs) (ht : e ≠ 59) : some g ≠ v.ownBlock := by
  obtain ⟨A0, c0, hb, hg, hr0⟩ := h
  exact Kd.N_ne ho hb ht
theorem IsS59.fresh {w0 W : World} {g : Nat} {f0 : List Int} {f1 : Int} (h : IsS59 w0 W g f0 f1) : ∀ k, W.heap.size ≤ k → k ≠ g := by
  obtain ⟨A0, c0, hb, hg, hr0⟩ := h
  exact Kd.freshB hb
theorem IsS59.kept {w0 W : World} {g : Nat} {f0 : List Int} {f1 : Int} {W1 : World} {S : Nat → Prop} (h : IsS59 w0 W g f0 f1) (hk : Kept W W1 S) (hne : ¬ S g) : IsS59 w0 W1 g f0 f1 := by
  obtain ⟨A0, c0, hb, hg, hr0⟩ := h
  exact ⟨A0, c0, blk_kept hb hk hne, hg, hr0⟩
theorem IsS59.below {w0 W : World} {g : Nat} {f0 : List Int} {f1 : Int} {W1 : World} (h : IsS59 w0 W g f0 f1) (hw : Below W.heap.size W W1) : IsS59 w0 W1 g f0 f1 := h.grown (grown_of_below hw none) (by simp)
theorem IsS59.alloc {w0 W : World} {g : Nat} {f0 : List Int} {f1 : Int} (h : IsS59 w0 W g f0 f1) (o : Obj) : IsS59 w0 (W.alloc o) g f0 f1 := h.below (below_alloc (Below.refl _ _) o)
theorem IsS59.drewN {w0 W : World} {g : Nat} {f0 : List Int} {f1 : Int} (h : IsS59 w0 W g f0 f1) (m : Nat) : IsS59 w0 (W.drewN m) g f0 f1 := h
theorem IsS59.drew {w0 W : World} {g : Nat} {f0 : List Int} {f1 : Int} (h : IsS59 w0 W g f0 f1) : IsS59 w0 W.drew g f0 f1 := h
theorem IsS59.at_ {w0 W : World} {g : Nat} {f0 : List Int} {f1 : Int} {w' : World} {m : Nat} (hq : W.drewN m = w') (h : IsS59 w0 W g f0 f1) : IsS59 w0 w' g f0 f1 := by subst hq; exact IsS59.drewN h m
theorem IsS59.apart {w0 W : World} {g : Nat} {f0 : List Int} {f1 : Int} {α : Type} {d : Kd α} {e : Nat} {base : Nat} {ok : Nat → Prop} {v : Value} {xs : List α} (h : IsS59 w0 W g f0 f1) (ho : d.R e W base ok v xs) (ht : ∀ q, q ∈ e :: d.E → q ≠ 59) : d.R e W base (fun k => ok k ∧ k ≠ g) v xs := by
  obtain ⟨A0, c0, hb, hg, hr0⟩ := h
  exact Kd.R_types ho hb ht
theorem IsS59.own_ne {w0 W : World} {g : Nat} {f0 : List Int} {f1 : Int} {α : Type} {d : Kd α} {e : Nat} {base : Nat} {ok : Nat → Prop} {v : Value} {xs : List α} (h : IsS59 w0 W g f0 f1) (ho : d.R e W base ok v xs) (ht : e ≠ 59) : some g ≠ v.ownBlock := by
  obtain ⟨A0, c0, hb, hg, hr0⟩ := h
  exact Kd.R_ne ho hb ht
theorem IsS59.apartQ {w0 W : World} {g : Nat} {f0 : List Int} {f1 : Int} {α : Type} {d : Kd α} {e : Nat} {base : Nat} {ok : Nat → Prop} {v : Value} {xs : List α} (h : IsS59 w0 W g f0 f1) (ho : d.Q e W base ok v xs) (ht : ∀ q, q ∈ e :: d.E → q ≠ 59) : d.Q e W base (fun k => ok k ∧ k ≠ g) v xs := by
  obtain ⟨A0, c0, hb, hg, hr0⟩ := h
  exact Kd.Q_types ho hb ht
theorem IsS59.own_neQ {w0 W : World} {g : Nat} {f0 : List Int} {f1 : Int} {α : Type} {d : Kd α} {e : Nat} {base : Nat} {ok : Nat → Prop} {v : Value} {xs : List α} (h : IsS59 w0 W g f0 f1) (ho : d.Q e W base ok v xs) (ht : e ≠ 59) : some g ≠ v.ownBlock := by
  obtain ⟨A0, c0, hb, hg, hr0⟩ := h
  exact Kd.Q_ne ho hb ht
theorem IsS59.apartS {w0 W : World} {g : Nat} {f0 : List Int} {f1 : Int} {α : Type} {d : Kd α} {e : Nat} {base : Nat} {ok : Nat → Prop} {v : Value} {xs : List α} (h : IsS59 w0 W g f0 f1) (ho : d.S e W base ok v xs) (ht : ∀ q, q ∈ e :: d.E → q ≠ 59) : d.S e W base (fun k => ok k ∧ k ≠ g) v xs := by
  obtain ⟨A0, c0, hb, hg, hr0⟩ := h
  exact Kd.S_types ho hb ht
theorem IsS59.own_neS {w0 W : World} {g : Nat} {f0 : List Int} {f1 : Int} {α : Type} {d : Kd α} {e : Nat} {base : Nat} {ok : Nat → Prop} {v : Value} {xs : List α} (h : IsS59 w0 W g f0 f1) (ho : d.S e W base ok v xs) (ht : e ≠ 59) : some g ≠ v.ownBlock := by
  obtain ⟨A0, c0, hb, hg, hr0⟩ := h
  exact Kd.S_ne ho hb ht
theorem IsS59.lt {w0 W : World} {g : Nat} {f0 : List Int} {f1 : Int} (h : IsS59 w0 W g f0 f1) : g < W.heap.size := by
  obtain ⟨A0, c0, hb, hg, hr0⟩ := h
  exact blk_lt hb
theorem IsS59.ge {w0 W : World} {g : Nat} {f0 : List Int} {f1 : Int} (h : IsS59 w0 W g f0 f1) : w0.heap.size ≤ g := by
  obtain ⟨A0, c0, hb, hg, hr0⟩ := h
  exact hg
theorem IsS59.ne_blk {w0 W : World} {g : Nat} {f0 : List Int} {f1 : Int} {a : Nat} {cs : Array Value} {t : TypeId} {fr : Nat × Nat} (h : IsS59 w0 W g f0 f1) (hb2 : W.heap[a]? = some (.cells cs t fr)) (ht : t ≠ 59) : g ≠ a := by
  obtain ⟨A0, c0, hb, hg, hr0⟩ := h
  rintro rfl
  rw [hb] at hb2
  injection hb2 with hb2
  injection hb2 with _ ht2
  exact ht ht2.symm
theorem IsS59.far {w0 W : World} {g : Nat} {f0 : List Int} {f1 : Int} {p : Addr} (h : IsS59 w0 W g f0 f1) (hne : g ≠ p.block) (u : Value) : IsS59 w0 (W.setCell p u) g f0 f1 := by
  obtain ⟨A0, c0, hb, hg, hr0⟩ := h
  exact ⟨A0, c0, blk_far hb hne u, hg, hr0⟩
theorem cellS59_0 {W : World} {g : Nat} {A0 : Option Addr} {c0 : Nat} {f0 : List Int} {f1 : Int} (h : W.heap[g]? = some (.cells #[.slice A0 f0.length c0, .int .i64 f1] 59 (0, 0))) : W.cell? ⟨g, 0, none⟩ = some (.slice A0 f0.length c0) := (blk_cell h 0).trans rfl
theorem cellS59_1 {W : World} {g : Nat} {A0 : Option Addr} {c0 : Nat} {f0 : List Int} {f1 : Int} (h : W.heap[g]? = some (.cells #[.slice A0 f0.length c0, .int .i64 f1] 59 (0, 0))) : W.cell? ⟨g, 1, none⟩ = some (.int .i64 f1) := (blk_cell h 1).trans rfl
theorem IsS59.set_1 {w0 W : World} {g : Nat} {f0 : List Int} {f1 : Int} (h : IsS59 w0 W g f0 f1) (x : Int) : IsS59 w0 (W.setCell ⟨g, 1, none⟩ (.int .i64 x)) g f0 x := by
  obtain ⟨A0, c0, hb, hg, hr0⟩ := h
  exact ⟨A0, c0, by simpa using blk_set hb 1 (.int .i64 x), hg, hr0⟩
theorem IsS59.new (w0 W : World) (A0 : Option Addr) (c0 : Nat) (f0 : List Int) (f1 : Int) (hB : Below w0.heap.size w0 W) (hr0 : Kd.C (Kd.int .u8) w0 A0 f0.length f0) : IsS59 w0 (W.alloc (.cells #[.slice A0 f0.length c0, .int .i64 f1] 59)) W.heap.size f0 f1 := ⟨A0, c0, by simpa using heap_alloc_new W _, hB.size, hr0⟩

/-! ### spec_l1Open: function 25 -/
def spec_l1Open.f (l0 : List Int) : Option (List Int × Int) := some (l0, 0)
set_option maxHeartbeats 8000000 in
set_option maxRecDepth 100000 in
theorem spec_l1Open.calls (A0 : Option Addr) (c0 : Nat) (l0 : List Int) (r1 : List Int) (r2 : Int) (w0 w : World) (hB : Below w0.heap.size w0 w) (hr0 : Kd.C (Kd.int .u8) w0 A0 l0.length l0) (hc0 : l0.length ≤ c0) (h : spec_l1Open.f l0 = some (r1, r2)) :
    Calls Tryd.prog 25 #[.slice A0 l0.length c0] w fun e w' => ∃ g_ : Nat, e = .returned (.pointer (some ⟨g_, 0, none⟩)) ∧ IsS59 w0 w' g_ r1 r2 ∧ Below w0.heap.size w0 w' ∧ Below w.heap.size w w' := by
  have hu59 := Tryd.underlying59
  have HR0 := Aside0.mk hr0
  have HC0 := Aside0.mk hc0
  clear hr0 hc0
  have HBW := Aside0.mk (Below.refl w.heap.size w)
  have HW0 := Aside0.mk hB.size
  have HB := Aside0.mk hB
  clear hB
  have H : (some (l0, 0)) = some (r1, r2) := h
  clear h
  simp only [Option.some.injEq, Prod.mk.injEq] at H
  obtain ⟨rfl, rfl⟩ := H
  go_enter Tryd.func25, Tryd.ntmps25
  go_wp2_with (first | ((with_reducible refine gate_dst (N := 5) rfl ?_); refine box_event ?hg (N := 5) ?hd (cs := #[.slice A0 l0.length c0, .int .i64 0]) (t := 59) ?hr ?_; (case hd => rfl); (case hg => rfl); (case hr => first | (go_simp; done) | (go_simp; rfl)); intro gb134 hg w2 hbox hb; have n0_ := Aside0.mk (below_step HBW.out hb); have n1_ := Aside0.mk (below_step (by repeat (first | (with_reducible first | exact HB.out | apply below_alloc | apply pw_below_drewN | apply below_drew1) | exact HB.out)) hb); have n2_ := Aside0.mk (hbox); have n3_ := Aside0.mk ((by rw [hg]; exact (below_size (by repeat (first | (with_reducible first | exact HBW.out | apply below_alloc | apply pw_below_drewN | apply below_drew1) | exact HBW.out))) : w.heap.size ≤ gb134)); have n4_ := Aside0.mk ((Nat.le_trans HW0.out (by rw [hg]; exact (below_size (by repeat (first | (with_reducible first | exact HBW.out | apply below_alloc | apply pw_below_drewN | apply below_drew1) | exact HBW.out))) : w.heap.size ≤ gb134) : w0.heap.size ≤ gb134)); clear HBW; clear HB; have HBW := n0_; have HB := n1_; have BK134 := n2_; have GW134 := n3_; have GE134 := n4_; clear n0_ n1_ n2_ n3_ n4_; clear hb hbox hg))
  go_ret
  exact ⟨_, rfl, (show IsS59 w0 _ gb134 l0 0 from ⟨_, _, by (with_reducible repeat (first | refine blk_drewN ?_ _ | refine blk_drew ?_ | refine blk_alloc ?_ _)); exact BK134.out, GE134.out, HR0.out⟩), by repeat (first | (with_reducible first | exact HB.out | apply below_alloc | apply pw_below_drewN | apply below_drew1 | refine below_set ?_ GE134.out) | exact HB.out), by repeat (first | (with_reducible first | exact HBW.out | apply below_alloc | apply pw_below_drewN | apply below_drew1 | refine below_set ?_ GW134.out) | exact HBW.out)⟩

/-! ### spec_l1Rd_next: function 38 -/
def spec_l1Rd_next.f (s0_0 : List Int) (s0_1 : Int) : Option (Int × Int) := if s0_1 ≥ (s0_0.length : Int) then (some (0, s0_1)) else (if 0 ≤ (wrap64 ((wrap64 (s0_1 + 1)) - 1)) then (if (wrap64 ((wrap64 (s0_1 + 1)) - 1)) < (s0_0.length : Int) then (some (wrap64 (rd s0_0 (wrap64 ((wrap64 (s0_1 + 1)) - 1))), wrap64 (s0_1 + 1))) else (none)) else (none))
set_option maxHeartbeats 8000000 in
set_option maxRecDepth 100000 in
theorem spec_l1Rd_next.calls (g : Nat) (s0_0 : List Int) (s0_1 : Int) (r1 : Int) (r2 : Int) (w0 w : World) (hI : IsS59 w0 w g s0_0 s0_1) (hB : Below w0.heap.size w0 w) (h : spec_l1Rd_next.f s0_0 s0_1 = some (r1, r2)) :
    Calls Tryd.prog 38 #[.pointer (some ⟨g, 0, none⟩)] w fun e w' => e = .returned (.int .i64 r1) ∧ IsS59 w0 w' g s0_0 r2 ∧ Below w0.heap.size w0 w' ∧ KeepBut w w' g none := by
  have HI0 := Aside0.mk hI
  have HK := Aside0.mk (KeepBut.refl w g none)
  have HL := Aside0.mk hB.size
  clear hI
  have HW0 := Aside0.mk hB.size
  have HB := Aside0.mk hB
  clear hB
  have H : (if s0_1 ≥ (s0_0.length : Int) then (some (0, s0_1)) else (if 0 ≤ (wrap64 ((wrap64 (s0_1 + 1)) - 1)) then (if (wrap64 ((wrap64 (s0_1 + 1)) - 1)) < (s0_0.length : Int) then (some (wrap64 (rd s0_0 (wrap64 ((wrap64 (s0_1 + 1)) - 1))), wrap64 (s0_1 + 1))) else (none)) else (none))) = some (r1, r2) := h
  clear h
  by_cases c2 : s0_1 ≥ (s0_0.length : Int)
  · rw [if_pos c2] at H
    have c2b0 : decide ((s0_0.length : Int) ≤ s0_1) = true := decide_eq_true c2
    clear c2
    simp only [Option.some.injEq, Prod.mk.injEq] at H
    obtain ⟨rfl, rfl⟩ := H
    obtain ⟨ASz3_0, cSz3_0, HGz3, hgz3, HSz3_0⟩ := HI0.out
    have hcz3_0 := cellS59_0 HGz3
    have hcz3_1 := cellS59_1 HGz3
    have hfz3_1 := blk_frozen HGz3 1
    clear HGz3 hgz3
    go_enter Tryd.func38, Tryd.ntmps38
    go_wp2
    repeat (go_quiet (fail); try go_wp2)
    go_ret
    exact ⟨by first | rfl | (simp [errW_none, errW_some] <;> rfl) | (simp [*, errW_none, errW_some] <;> rfl), by repeat (first | (with_reducible first | exact HI0.out | apply IsS59.alloc | apply IsS59.drewN | apply IsS59.drew | apply IsS59.set_1) | exact HI0.out), by repeat (first | (with_reducible first | exact HB.out | apply below_alloc | apply pw_below_drewN | apply below_drew1 | refine below_set ?_ (IsS59.ge HI0.out)) | exact HB.out), by repeat (first | (with_reducible first | exact HK.out | apply KeepBut.set_ | apply keep_drewN | apply keep_drew | apply keep_alloc) | exact HK.out)⟩
  · rw [if_neg c2] at H
    have c2b0 : decide ((s0_0.length : Int) ≤ s0_1) = false := decide_eq_false c2
    clear c2
    obtain ⟨ji4, hji4⟩ : ∃ j_ : Int, (wrap64 ((wrap64 (s0_1 + 1)) - 1)) = j_ := ⟨_, rfl⟩
    replace H : (if 0 ≤ (ji4) then (if (ji4) < (s0_0.length : Int) then (some (wrap64 (rd s0_0 (ji4)), wrap64 (s0_1 + 1))) else (none)) else (none)) = some (r1, r2) := by first | (rw [hji4] at H; exact H) | (simp only [hji4] at H ⊢; exact H)
    have hji4w : (IntKind.i64.wrap ((wrap64 (s0_1 + 1)) - 1)) = ji4 := (i64_w _).trans hji4
    by_cases c5 : 0 ≤ (ji4)
    · rw [if_pos c5] at H
      have c5b0 : decide (0 ≤ (ji4)) = true := decide_eq_true c5
      clear c5
      by_cases c6 : (ji4) < (s0_0.length : Int)
      · rw [if_pos c6] at H
        have c6b0 : decide ((ji4) < (s0_0.length : Int)) = true := decide_eq_true c6
        clear c6
        simp only [Option.some.injEq, Prod.mk.injEq] at H
        obtain ⟨rfl, rfl⟩ := H
        obtain ⟨ASz7_0, cSz7_0, HGz7, hgz7, HSz7_0⟩ := HI0.out
        have hcz7_0 := cellS59_0 HGz7
        have hcz7_1 := cellS59_1 HGz7
        have hfz7_1 := blk_frozen HGz7 1
        clear HGz7 hgz7
        have p135 : 0 ≤ ((ji4) : Int) := of_decide_eq_true (by first | (with_reducible assumption) | assumption)
        have q135 : (ji4) < (s0_0.length : Int) := of_decide_eq_true (by first | (with_reducible assumption) | assumption)
        obtain ⟨ad135, e135, hx135_0⟩ := Kd.at_int HSz7_0 (ji4) p135 q135
        cases e135
        have hn135_0 : ad135.block ≠ g := Nat.ne_of_lt (Nat.lt_of_lt_of_le (by have := World.block_lt_of_cell? _ _ hx135_0; first | rwa [add_block] at this | exact this) (IsS59.ge HI0.out))
        replace hx135_0 := pw_cell_below HB.out hx135_0
        replace hx135_0 := (cell_far (p := ⟨g, 1, none⟩) (by first | (rw [add_block]; exact hn135_0) | (show (Addr.add _ _).block ≠ _; rw [add_block]; exact hn135_0) | exact hn135_0) (.int .i64 (wrap64 (s0_1 + 1)))).trans hx135_0
        (try have hy135_0 := fun (n_ : Nat) => (show (((w.drewN n_).setCell ⟨g, 1, none⟩ (.int .i64 (wrap64 (s0_1 + 1))))).cell? _ = some _ from hx135_0))
        clear hn135_0
        replace p135 := eq_true p135
        replace q135 := eq_true q135
        go_enter Tryd.func38, Tryd.ntmps38
        go_wp2
        repeat (go_quiet (fail); try go_wp2)
        go_ret
        exact ⟨by first | rfl | (simp [errW_none, errW_some] <;> rfl) | (simp only [← hji4]; first | rfl | (simp [errW_none, errW_some] <;> rfl)) | (simp [*, errW_none, errW_some] <;> rfl), by repeat (first | (with_reducible first | exact HI0.out | apply IsS59.alloc | apply IsS59.drewN | apply IsS59.drew | apply IsS59.set_1) | exact HI0.out), by repeat (first | (with_reducible first | exact HB.out | apply below_alloc | apply pw_below_drewN | apply below_drew1 | refine below_set ?_ (IsS59.ge HI0.out)) | exact HB.out), by repeat (first | (with_reducible first | exact HK.out | apply KeepBut.set_ | apply keep_drewN | apply keep_drew | apply keep_alloc) | exact HK.out)⟩
      · rw [if_neg c6] at H
        exact absurd H (by simp)
    · rw [if_neg c5] at H
      exact absurd H (by simp)

/-! ### spec_l1Rd_below: function 27 -/
def spec_l1Rd_below.f (s0_0 : List Int) (s0_1 : Int) (a1 : Int) : Option (Int × Int) := if a1 ≤ 1 then (some (0, s0_1)) else (if a1 ≤ 256 then ((spec_l1Rd_next.f s0_0 s0_1).bind fun bt136 => (if a1 = 0 then (none) else (some (Int.tmod bt136.1 a1, bt136.2)))) else ((spec_l1Rd_next.f s0_0 s0_1).bind fun bt138 => ((spec_l1Rd_next.f s0_0 bt138.2).bind fun bt140 => (if a1 = 0 then (none) else (some (Int.tmod (wrap64 ((wrap64 (bt138.1 * 256)) + bt140.1)) a1, bt140.2))))))
set_option maxHeartbeats 8000000 in
set_option maxRecDepth 100000 in
theorem spec_l1Rd_below.calls (g : Nat) (s0_0 : List Int) (s0_1 : Int) (a1 : Int) (r1 : Int) (r2 : Int) (w0 w : World) (hI : IsS59 w0 w g s0_0 s0_1) (hB : Below w0.heap.size w0 w) (h : spec_l1Rd_below.f s0_0 s0_1 a1 = some (r1, r2)) :
    Calls Tryd.prog 27 #[.pointer (some ⟨g, 0, none⟩), .int .i64 a1] w fun e w' => e = .returned (.int .i64 r1) ∧ IsS59 w0 w' g s0_0 r2 ∧ Below w0.heap.size w0 w' ∧ KeepBut w w' g none := by
  have HI0 := Aside0.mk hI
  have HK := Aside0.mk (KeepBut.refl w g none)
  have HL := Aside0.mk hB.size
  clear hI
  have HW0 := Aside0.mk hB.size
  have HB := Aside0.mk hB
  clear hB
  have H : (if a1 ≤ 1 then (some (0, s0_1)) else (if a1 ≤ 256 then ((spec_l1Rd_next.f s0_0 s0_1).bind fun bt136 => (if a1 = 0 then (none) else (some (Int.tmod bt136.1 a1, bt136.2)))) else ((spec_l1Rd_next.f s0_0 s0_1).bind fun bt138 => ((spec_l1Rd_next.f s0_0 bt138.2).bind fun bt140 => (if a1 = 0 then (none) else (some (Int.tmod (wrap64 ((wrap64 (bt138.1 * 256)) + bt140.1)) a1, bt140.2))))))) = some (r1, r2) := h
  clear h
  by_cases c3 : a1 ≤ 1
  · rw [if_pos c3] at H
    have c3b0 : decide (a1 ≤ 1) = true := decide_eq_true c3
    clear c3
    simp only [Option.some.injEq, Prod.mk.injEq] at H
    obtain ⟨rfl, rfl⟩ := H
    go_enter Tryd.func27, Tryd.ntmps27
    go_wp2
    go_ret
    exact ⟨by first | rfl | (simp [errW_none, errW_some] <;> rfl) | (simp [*, errW_none, errW_some] <;> rfl), by repeat (first | (with_reducible first | exact HI0.out | apply IsS59.alloc | apply IsS59.drewN | apply IsS59.drew | apply IsS59.set_1) | exact HI0.out), by repeat (first | (with_reducible first | exact HB.out | apply below_alloc | apply pw_below_drewN | apply below_drew1 | refine below_set ?_ (IsS59.ge HI0.out)) | exact HB.out), by repeat (first | (with_reducible first | exact HK.out | apply KeepBut.set_ | apply keep_drewN | apply keep_drew | apply keep_alloc) | exact HK.out)⟩
  · rw [if_neg c3] at H
    have c3b0 : decide (a1 ≤ 1) = false := decide_eq_false c3
    clear c3
    by_cases c4 : a1 ≤ 256
    · rw [if_pos c4] at H
      have c4b0 : decide (a1 ≤ 256) = true := decide_eq_true c4
      clear c4
      replace H := Option.bind_eq_some_iff.mp H
      obtain ⟨⟨t136, t137⟩, A50, H⟩ := H
      replace H : (if a1 = 0 then (none) else (some (Int.tmod t136 a1, t137))) = some (r1, r2) := H
      have A5 := Aside0.mk A50
      clear A50
      by_cases c6 : a1 = 0
      · rw [if_pos c6] at H
        exact absurd H (by simp)
      · rw [if_neg c6] at H
        have c6b0 : (a1 == 0) = false := beq_eq_false_iff_ne.mpr c6
        have c6b1 : (a1 != 0) = true := bne_iff_ne.mpr c6
        simp only [Option.some.injEq, Prod.mk.injEq] at H
        obtain ⟨rfl, rfl⟩ := H
        go_enter Tryd.func27, Tryd.ntmps27
        go_wp2_with (first | ((with_reducible refine gate_callee (f := 38) rfl ?_); refine goesL_ (some 11) rfl rfl Tryd.func38 (by kernel_rfl) rfl #[.pointer (some ⟨g, 0, none⟩)] rfl (by (try simp only [List.map_toArray, List.map_cons, List.map_nil]); first | done | rfl | (simp only [List.length_drop, List.length_take]; rfl)) ?_; (with_reducible refine (spec_l1Rd_next.calls g s0_0 s0_1 t136 t137 w0 _ ?side1 ?side2 A5.out).mono ?_); (case side1 => repeat (first | (with_reducible first | exact HI0.out | apply IsS59.alloc | apply IsS59.drewN | apply IsS59.drew | apply IsS59.set_1) | exact HI0.out)); (case side2 => repeat (first | (with_reducible first | exact HB.out | apply below_alloc | apply pw_below_drewN | apply below_drew1 | refine below_set ?_ (IsS59.ge HI0.out)) | exact HB.out)); rintro e w7 ⟨rfl, hi, hb, hk⟩; refine ⟨_, rfl, ?_⟩; have n0_ := Aside0.mk (KeepBut.trans (by repeat (first | (with_reducible first | exact HK.out | apply KeepBut.set_ | apply keep_drewN | apply keep_drew | apply keep_alloc) | exact HK.out)) hk (.inl rfl)); have n1_ := Aside0.mk (hb); have n2_ := Aside0.mk (hi); clear HK; clear HB; clear HI0; have HK := n0_; have HB := n1_; have HI0 := n2_; clear n0_ n1_ n2_; (try clear hb); (try clear hb2); (try clear hk); (try clear hi)))
        go_ret
        exact ⟨by first | rfl | (simp [errW_none, errW_some] <;> rfl) | (simp [*, errW_none, errW_some] <;> rfl), by repeat (first | (with_reducible first | exact HI0.out | apply IsS59.alloc | apply IsS59.drewN | apply IsS59.drew | apply IsS59.set_1) | exact HI0.out), by repeat (first | (with_reducible first | exact HB.out | apply below_alloc | apply pw_below_drewN | apply below_drew1 | refine below_set ?_ (IsS59.ge HI0.out)) | exact HB.out), by repeat (first | (with_reducible first | exact HK.out | apply KeepBut.set_ | apply keep_drewN | apply keep_drew | apply keep_alloc) | exact HK.out)⟩
    · rw [if_neg c4] at H
      have c4b0 : decide (a1 ≤ 256) = false := decide_eq_false c4
      clear c4
      replace H := Option.bind_eq_some_iff.mp H
      obtain ⟨⟨t138, t139⟩, A80, H⟩ := H
      replace H : ((spec_l1Rd_next.f s0_0 t139).bind fun bt140 => (if a1 = 0 then (none) else (some (Int.tmod (wrap64 ((wrap64 (t138 * 256)) + bt140.1)) a1, bt140.2)))) = some (r1, r2) := H
      have A8 := Aside0.mk A80
      clear A80
      replace H := Option.bind_eq_some_iff.mp H
      obtain ⟨⟨t140, t141⟩, A90, H⟩ := H
      replace H : (if a1 = 0 then (none) else (some (Int.tmod (wrap64 ((wrap64 (t138 * 256)) + t140)) a1, t141))) = some (r1, r2) := H
      have A9 := Aside0.mk A90
      clear A90
      by_cases c10 : a1 = 0
      · rw [if_pos c10] at H
        exact absurd H (by simp)
      · rw [if_neg c10] at H
        have c10b0 : (a1 == 0) = false := beq_eq_false_iff_ne.mpr c10
        have c10b1 : (a1 != 0) = true := bne_iff_ne.mpr c10
        simp only [Option.some.injEq, Prod.mk.injEq] at H
        obtain ⟨rfl, rfl⟩ := H
        go_enter Tryd.func27, Tryd.ntmps27
        go_wp2_with (first | ((with_reducible refine gate_callee (f := 38) rfl ?_); refine goesL_ (some 15) rfl rfl Tryd.func38 (by kernel_rfl) rfl #[.pointer (some ⟨g, 0, none⟩)] rfl (by (try simp only [List.map_toArray, List.map_cons, List.map_nil]); first | done | rfl | (simp only [List.length_drop, List.length_take]; rfl)) ?_; (with_reducible refine (spec_l1Rd_next.calls g s0_0 s0_1 t138 t139 w0 _ ?side1 ?side2 A8.out).mono ?_); (case side1 => repeat (first | (with_reducible first | exact HI0.out | apply IsS59.alloc | apply IsS59.drewN | apply IsS59.drew | apply IsS59.set_1) | exact HI0.out)); (case side2 => repeat (first | (with_reducible first | exact HB.out | apply below_alloc | apply pw_below_drewN | apply below_drew1 | refine below_set ?_ (IsS59.ge HI0.out)) | exact HB.out)); rintro e w11 ⟨rfl, hi, hb, hk⟩; refine ⟨_, rfl, ?_⟩; have n0_ := Aside0.mk (KeepBut.trans (by repeat (first | (with_reducible first | exact HK.out | apply KeepBut.set_ | apply keep_drewN | apply keep_drew | apply keep_alloc) | exact HK.out)) hk (.inl rfl)); have n1_ := Aside0.mk (hb); have n2_ := Aside0.mk (hi); clear HK; clear HB; clear HI0; have HK := n0_; have HB := n1_; have HI0 := n2_; clear n0_ n1_ n2_; (try clear hb); (try clear hb2); (try clear hk); (try clear hi)) | ((with_reducible refine gate_callee (f := 38) rfl ?_); refine goesL_ (some 19) rfl rfl Tryd.func38 (by kernel_rfl) rfl #[.pointer (some ⟨g, 0, none⟩)] rfl (by (try simp only [List.map_toArray, List.map_cons, List.map_nil]); first | done | rfl | (simp only [List.length_drop, List.length_take]; rfl)) ?_; (with_reducible refine (spec_l1Rd_next.calls g s0_0 t139 t140 t141 w0 _ ?side1 ?side2 A9.out).mono ?_); (case side1 => repeat (first | (with_reducible first | exact HI0.out | apply IsS59.alloc | apply IsS59.drewN | apply IsS59.drew | apply IsS59.set_1) | exact HI0.out)); (case side2 => repeat (first | (with_reducible first | exact HB.out | apply below_alloc | apply pw_below_drewN | apply below_drew1 | refine below_set ?_ (IsS59.ge HI0.out)) | exact HB.out)); rintro e w12 ⟨rfl, hi, hb, hk⟩; refine ⟨_, rfl, ?_⟩; have n0_ := Aside0.mk (KeepBut.trans (by repeat (first | (with_reducible first | exact HK.out | apply KeepBut.set_ | apply keep_drewN | apply keep_drew | apply keep_alloc) | exact HK.out)) hk (.inl rfl)); have n1_ := Aside0.mk (hb); have n2_ := Aside0.mk (hi); clear HK; clear HB; clear HI0; have HK := n0_; have HB := n1_; have HI0 := n2_; clear n0_ n1_ n2_; (try clear hb); (try clear hb2); (try clear hk); (try clear hi)))
        go_ret
        exact ⟨by first | rfl | (simp [errW_none, errW_some] <;> rfl) | (simp [*, errW_none, errW_some] <;> rfl), by repeat (first | (with_reducible first | exact HI0.out | apply IsS59.alloc | apply IsS59.drewN | apply IsS59.drew | apply IsS59.set_1) | exact HI0.out), by repeat (first | (with_reducible first | exact HB.out | apply below_alloc | apply pw_below_drewN | apply below_drew1 | refine below_set ?_ (IsS59.ge HI0.out)) | exact HB.out), by repeat (first | (with_reducible first | exact HK.out | apply KeepBut.set_ | apply keep_drewN | apply keep_drew | apply keep_alloc) | exact HK.out)⟩

/-! ### spec_l1Rd_once: function 31 -/
def spec_l1Rd_once.f (s0_0 : List Int) (s0_1 : Int) (a1 : Int) : Option (Bool × Int) := (spec_l1Rd_below.f s0_0 s0_1 a1).bind fun bt142 => (some ((bt142.1 == (wrap64 (a1 - 1))), bt142.2))
set_option maxHeartbeats 8000000 in
set_option maxRecDepth 100000 in
theorem spec_l1Rd_once.calls (g : Nat) (s0_0 : List Int) (s0_1 : Int) (a1 : Int) (r1 : Bool) (r2 : Int) (w0 w : World) (hI : IsS59 w0 w g s0_0 s0_1) (hB : Below w0.heap.size w0 w) (h : spec_l1Rd_once.f s0_0 s0_1 a1 = some (r1, r2)) :
    Calls Tryd.prog 31 #[.pointer (some ⟨g, 0, none⟩), .int .i64 a1] w fun e w' => e = .returned (.bool r1) ∧ IsS59 w0 w' g s0_0 r2 ∧ Below w0.heap.size w0 w' ∧ KeepBut w w' g none := by
  have HI0 := Aside0.mk hI
  have HK := Aside0.mk (KeepBut.refl w g none)
  have HL := Aside0.mk hB.size
  clear hI
  have HW0 := Aside0.mk hB.size
  have HB := Aside0.mk hB
  clear hB
  have H : ((spec_l1Rd_below.f s0_0 s0_1 a1).bind fun bt142 => (some ((bt142.1 == (wrap64 (a1 - 1))), bt142.2))) = some (r1, r2) := h
  clear h
  replace H := Option.bind_eq_some_iff.mp H
  obtain ⟨⟨t142, t143⟩, A30, H⟩ := H
  replace H : (some ((t142 == (wrap64 (a1 - 1))), t143)) = some (r1, r2) := H
  have A3 := Aside0.mk A30
  clear A30
  simp only [Option.some.injEq, Prod.mk.injEq] at H
  obtain ⟨rfl, rfl⟩ := H
  go_enter Tryd.func31, Tryd.ntmps31
  go_wp2_with (first | ((with_reducible refine gate_callee (f := 27) rfl ?_); refine goesL_ (some 7) rfl rfl Tryd.func27 (by kernel_rfl) rfl #[.pointer (some ⟨g, 0, none⟩), .int .i64 a1] rfl (by (try simp only [List.map_toArray, List.map_cons, List.map_nil]); first | done | rfl | (simp only [List.length_drop, List.length_take]; rfl)) ?_; (with_reducible refine (spec_l1Rd_below.calls g s0_0 s0_1 a1 t142 t143 w0 _ ?side1 ?side2 A3.out).mono ?_); (case side1 => repeat (first | (with_reducible first | exact HI0.out | apply IsS59.alloc | apply IsS59.drewN | apply IsS59.drew | apply IsS59.set_1) | exact HI0.out)); (case side2 => repeat (first | (with_reducible first | exact HB.out | apply below_alloc | apply pw_below_drewN | apply below_drew1 | refine below_set ?_ (IsS59.ge HI0.out)) | exact HB.out)); rintro e w4 ⟨rfl, hi, hb, hk⟩; refine ⟨_, rfl, ?_⟩; have n0_ := Aside0.mk (KeepBut.trans (by repeat (first | (with_reducible first | exact HK.out | apply KeepBut.set_ | apply keep_drewN | apply keep_drew | apply keep_alloc) | exact HK.out)) hk (.inl rfl)); have n1_ := Aside0.mk (hb); have n2_ := Aside0.mk (hi); clear HK; clear HB; clear HI0; have HK := n0_; have HB := n1_; have HI0 := n2_; clear n0_ n1_ n2_; (try clear hb); (try clear hb2); (try clear hk); (try clear hi)))
  go_ret
  exact ⟨by first | rfl | (simp [errW_none, errW_some] <;> rfl) | (simp [*, errW_none, errW_some] <;> rfl), by repeat (first | (with_reducible first | exact HI0.out | apply IsS59.alloc | apply IsS59.drewN | apply IsS59.drew | apply IsS59.set_1) | exact HI0.out), by repeat (first | (with_reducible first | exact HB.out | apply below_alloc | apply pw_below_drewN | apply below_drew1 | refine below_set ?_ (IsS59.ge HI0.out)) | exact HB.out), by repeat (first | (with_reducible first | exact HK.out | apply KeepBut.set_ | apply keep_drewN | apply keep_drew | apply keep_alloc) | exact HK.out)⟩

/-! ### spec_l1Rd_mark: function 37 -/
def spec_l1Rd_mark.j0 : Nat → ByteArray → Int → Bool → List Int → Int → Option (ByteArray × Int)
  | 0, _, _, _, _, _ => none
  | k + 1, x3, x11, x12, x1000, x1001 => if x12 = true then (some ((⟨#[]⟩ : ByteArray), x1001)) else (if x11 = 3 then (if 2 + x3.size ≤ 9223372036854775807 then (some ((⟨#[82, 82]⟩ : ByteArray) ++ x3, x1001)) else (none)) else (if x11 = 4 then (if 2 + x3.size ≤ 9223372036854775807 then (some ((⟨#[67, 67]⟩ : ByteArray) ++ x3, x1001)) else (none)) else (if x11 = 5 then (if 2 + x3.size ≤ 9223372036854775807 then (some ((⟨#[65, 65]⟩ : ByteArray) ++ x3, x1001)) else (none)) else (if x11 = 6 then ((spec_l1Rd_below.f x1000 x1001 26).bind fun bt151 => ((some (([(wrap64 (65 + bt151.1)) % 256] : List Int) : List Int)).bind fun y153 => (if 1 + (strOfNums y153).size ≤ 9223372036854775807 then (if ((⟨#[80]⟩ : ByteArray) ++ (strOfNums y153)).size + x3.size ≤ 9223372036854775807 then (some (((⟨#[80]⟩ : ByteArray) ++ (strOfNums y153)) ++ x3, bt151.2)) else (none)) else (none)))) else ((some (([(⟨#[82, 82, 88]⟩ : ByteArray), (⟨#[67, 67, 88]⟩ : ByteArray), (⟨#[80, 90, 90]⟩ : ByteArray), (⟨#[80, 65, 65]⟩ : ByteArray), (⟨#[65, 65, 88]⟩ : ByteArray)] : List ByteArray) : List ByteArray)).bind fun y156 => ((spec_l1Rd_below.f x1000 x1001 5).bind fun bt159 => (if 0 ≤ bt159.1 then (if bt159.1 < (y156.length : Int) then (some (rdOf ByteArray.empty y156 bt159.1, bt159.2)) else (none)) else (none))))))))
def spec_l1Rd_mark.f (k : Nat) (s0_0 : List Int) (s0_1 : Int) : Option (ByteArray × Int) := (spec_l1Rd_below.f s0_0 s0_1 26).bind fun bt144 => ((some (([(wrap64 (65 + bt144.1)) % 256] : List Int) : List Int)).bind fun y146 => ((spec_l1Rd_below.f s0_0 bt144.2 8).bind fun bt149 => (if bt149.1 = 0 then (spec_l1Rd_mark.j0 k (strOfNums y146) bt149.1 (bt149.1 == 0) s0_0 bt149.2) else (if bt149.1 = 1 then (spec_l1Rd_mark.j0 k (strOfNums y146) bt149.1 (bt149.1 == 1) s0_0 bt149.2) else (spec_l1Rd_mark.j0 k (strOfNums y146) bt149.1 (bt149.1 == 2) s0_0 bt149.2)))))
theorem spec_l1Rd_mark.mono_l : ∀ k, (∀ y0 y1 y2 y3 y4, LeO (spec_l1Rd_mark.j0 k y0 y1 y2 y3 y4) (spec_l1Rd_mark.j0 (k + 1) y0 y1 y2 y3 y4))
  | 0 => fun _ _ _ _ _ r h => by simp [spec_l1Rd_mark.j0] at h
  | k + 1 => by
    have ih0 := spec_l1Rd_mark.mono_l k
    · intro y0 y1 y2 y3 y4
      unfold spec_l1Rd_mark.j0
      repeat' first
      | (with_reducible exact ih0 _ _ _ _ _)
      | (with_reducible exact LeO.refl _)
      | (with_reducible exact LeO.none _)
      | (with_reducible refine LeO.ite ?_ ?_)
      | (with_reducible refine LeO.bind ?_ (fun _ => ?_))
      | exact ih0 _ _ _ _ _
      | exact LeO.none _
      | refine LeO.ite ?_ ?_
      | refine LeO.bind ?_ (fun _ => ?_)
theorem spec_l1Rd_mark.mono : ∀ a0 a1 k, LeO (spec_l1Rd_mark.f k a0 a1) (spec_l1Rd_mark.f (k + 1) a0 a1) := by
  intro a0 a1 k
  have ih0 := spec_l1Rd_mark.mono_l k
  unfold spec_l1Rd_mark.f
  repeat' first
      | (with_reducible exact ih0 _ _ _ _ _)
      | (with_reducible exact LeO.refl _)
      | (with_reducible exact LeO.none _)
      | (with_reducible refine LeO.ite ?_ ?_)
      | (with_reducible refine LeO.bind ?_ (fun _ => ?_))
      | exact ih0 _ _ _ _ _
      | exact LeO.none _
      | refine LeO.ite ?_ ?_
      | refine LeO.bind ?_ (fun _ => ?_)
set_option maxHeartbeats 8000000 in
set_option maxRecDepth 100000 in
theorem spec_l1Rd_mark.calls (k : Nat) (g : Nat) (s0_0 : List Int) (s0_1 : Int) (r1 : ByteArray) (r2 : Int) (w0 w : World) (hI : IsS59 w0 w g s0_0 s0_1) (hB : Below w0.heap.size w0 w) (h : spec_l1Rd_mark.f k s0_0 s0_1 = some (r1, r2)) :
    Calls Tryd.prog 37 #[.pointer (some ⟨g, 0, none⟩)] w fun e w' => e = .returned (.string r1) ∧ IsS59 w0 w' g s0_0 r2 ∧ Below w0.heap.size w0 w' ∧ KeepBut w w' g none := by
  have HI0 := Aside0.mk hI
  have HK := Aside0.mk (KeepBut.refl w g none)
  have HL := Aside0.mk hB.size
  clear hI
  have HW0 := Aside0.mk hB.size
  have HB := Aside0.mk hB
  clear hB
  have H : ((spec_l1Rd_below.f s0_0 s0_1 26).bind fun bt144 => ((some (([(wrap64 (65 + bt144.1)) % 256] : List Int) : List Int)).bind fun y146 => ((spec_l1Rd_below.f s0_0 bt144.2 8).bind fun bt149 => (if bt149.1 = 0 then (spec_l1Rd_mark.j0 k (strOfNums y146) bt149.1 (bt149.1 == 0) s0_0 bt149.2) else (if bt149.1 = 1 then (spec_l1Rd_mark.j0 k (strOfNums y146) bt149.1 (bt149.1 == 1) s0_0 bt149.2) else (spec_l1Rd_mark.j0 k (strOfNums y146) bt149.1 (bt149.1 == 2) s0_0 bt149.2)))))) = some (r1, r2) := h
  clear h
  replace H := Option.bind_eq_some_iff.mp H
  obtain ⟨⟨t144, t145⟩, A20, H⟩ := H
  replace H : ((some (([(wrap64 (65 + t144)) % 256] : List Int) : List Int)).bind fun y146 => ((spec_l1Rd_below.f s0_0 t145 8).bind fun bt149 => (if bt149.1 = 0 then (spec_l1Rd_mark.j0 k (strOfNums y146) bt149.1 (bt149.1 == 0) s0_0 bt149.2) else (if bt149.1 = 1 then (spec_l1Rd_mark.j0 k (strOfNums y146) bt149.1 (bt149.1 == 1) s0_0 bt149.2) else (spec_l1Rd_mark.j0 k (strOfNums y146) bt149.1 (bt149.1 == 2) s0_0 bt149.2))))) = some (r1, r2) := H
  have A2 := Aside0.mk A20
  clear A20
  obtain ⟨y146, hy146⟩ : ∃ y_ : List Int, y_ = (([(wrap64 (65 + t144)) % 256] : List Int)) := ⟨_, rfl⟩
  replace H : ((spec_l1Rd_below.f s0_0 t145 8).bind fun bt149 => (if bt149.1 = 0 then (spec_l1Rd_mark.j0 k (strOfNums y146) bt149.1 (bt149.1 == 0) s0_0 bt149.2) else (if bt149.1 = 1 then (spec_l1Rd_mark.j0 k (strOfNums y146) bt149.1 (bt149.1 == 1) s0_0 bt149.2) else (spec_l1Rd_mark.j0 k (strOfNums y146) bt149.1 (bt149.1 == 2) s0_0 bt149.2)))) = some (r1, r2) := by first | (rw [hy146]; with_reducible exact H) | (have H2_ := (Option.bind_some _ _).symm.trans H; rw [hy146]; with_reducible exact H2_) | (have H2_ := (Option.bind_some _ _).symm.trans H; with_reducible exact H2_) | with_reducible exact H | (rw [hy146]; exact H) | exact H
  have Ny146 := Aside0.mk hy146
  clear hy146
  replace H := Option.bind_eq_some_iff.mp H
  obtain ⟨⟨t149, t150⟩, A30, H⟩ := H
  replace H : (if t149 = 0 then (spec_l1Rd_mark.j0 k (strOfNums y146) t149 (t149 == 0) s0_0 t150) else (if t149 = 1 then (spec_l1Rd_mark.j0 k (strOfNums y146) t149 (t149 == 1) s0_0 t150) else (spec_l1Rd_mark.j0 k (strOfNums y146) t149 (t149 == 2) s0_0 t150))) = some (r1, r2) := H
  have A3 := Aside0.mk A30
  clear A30
  have HC4 := Aside0.mk H
  clear H
  go_enter Tryd.func37, Tryd.ntmps37
  go_upto_if 12 with (first | ((with_reducible refine gate_callee (f := 27) rfl ?_); refine goesL_ (some 5) rfl rfl Tryd.func27 (by kernel_rfl) rfl #[.pointer (some ⟨g, 0, none⟩), .int .i64 26] rfl (by (try simp only [List.map_toArray, List.map_cons, List.map_nil]); first | done | rfl | (simp only [List.length_drop, List.length_take]; rfl)) ?_; (with_reducible refine (spec_l1Rd_below.calls g s0_0 s0_1 26 t144 t145 w0 _ ?side1 ?side2 A2.out).mono ?_); (case side1 => repeat (first | (with_reducible first | exact HI0.out | apply IsS59.alloc | apply IsS59.drewN | apply IsS59.drew | apply IsS59.set_1) | exact HI0.out)); (case side2 => repeat (first | (with_reducible first | exact HB.out | apply below_alloc | apply pw_below_drewN | apply below_drew1 | refine below_set ?_ (IsS59.ge HI0.out)) | exact HB.out)); rintro e w5 ⟨rfl, hi, hb, hk⟩; refine ⟨_, rfl, ?_⟩; have n0_ := Aside0.mk (KeepBut.trans (by repeat (first | (with_reducible first | exact HK.out | apply KeepBut.set_ | apply keep_drewN | apply keep_drew | apply keep_alloc) | exact HK.out)) hk (.inl rfl)); have n1_ := Aside0.mk (hb); have n2_ := Aside0.mk (hi); clear HK; clear HB; clear HI0; have HK := n0_; have HB := n1_; have HI0 := n2_; clear n0_ n1_ n2_; (try clear hb); (try clear hb2); (try clear hk); (try clear hi)) | ((with_reducible refine gate_dst (N := 8) rfl ?_); refine Kd.R_lit (Kd.int .u8) _ 5 ?hg (N := 8) ?hd (xs := ([(wrap64 (65 + t144)) % 256] : List Int)) (inner := [.int .u8 ((wrap64 (65 + t144)) % 256)]) (ok := fun _ => True) (okp := fun _ => True) ?hr ?hp (fun _ hk => hk) trivial (Below.refl _ _) (Nat.le_refl _) (by simp) ?_; (case hd => rfl); (case hg => rfl); (case hr => first | (go_simp; done) | (go_simp; rfl)); (case hp => exact (Reps.one (show Kd.M (Kd.int .u8) _ _ _ ((wrap64 (65 + t144)) % 256) [.int .u8 ((wrap64 (65 + t144)) % 256)] from rfl) (Reps.none _ _))); intro v147 w6 ho7 hb hg_ hnew_; clear hg_ hnew_; (first | rw [← Ny146.out] at ho7 | (simp only [Int.reduceToNat] at ho7; rw [← Ny146.out] at ho7)); have n0_ := Aside0.mk (Kd.R_lower ho7 (keep_size (w := w) (g := g) (row := none) (by repeat (first | (with_reducible first | exact HK.out | apply KeepBut.set_ | apply keep_drewN | apply keep_drew | apply keep_alloc) | exact HK.out)))); have n1_ := Aside0.mk (IsS59.below (by repeat (first | (with_reducible first | exact HI0.out | apply IsS59.alloc | apply IsS59.drewN | apply IsS59.drew | apply IsS59.set_1) | exact HI0.out)) hb); have n2_ := Aside0.mk (KeepBut.trans (by repeat (first | (with_reducible first | exact HK.out | apply KeepBut.set_ | apply keep_drewN | apply keep_drew | apply keep_alloc) | exact HK.out)) (KeepBut.of_below hb g none) (.inl rfl)); have n3_ := Aside0.mk (below_step (by repeat (first | (with_reducible first | exact HB.out | apply below_alloc | apply pw_below_drewN | apply below_drew1 | refine below_set ?_ (IsS59.ge HI0.out)) | exact HB.out)) hb); clear HI0; clear HK; clear HB; have HO148 := n0_; have HI0 := n1_; have HK := n2_; have HB := n3_; clear n0_ n1_ n2_ n3_; clear hb ho7; have hcv8 := own_string (P := Tryd.prog) Tryd.underlying28 Tryd.underlying5 Tryd.underlying9 (Kd.own_of_R HO148.out)) | ((with_reducible refine gate_callee (f := 27) rfl ?_); refine goesL_ (some 11) rfl rfl Tryd.func27 (by kernel_rfl) rfl #[.pointer (some ⟨g, 0, none⟩), .int .i64 8] rfl (by (try simp only [List.map_toArray, List.map_cons, List.map_nil]); first | done | rfl | (simp only [List.length_drop, List.length_take]; rfl)) ?_; (with_reducible refine (spec_l1Rd_below.calls g s0_0 t145 8 t149 t150 w0 _ ?side1 ?side2 A3.out).mono ?_); (case side1 => repeat (first | (with_reducible first | exact HI0.out | apply IsS59.alloc | apply IsS59.drewN | apply IsS59.drew | apply IsS59.set_1) | exact HI0.out)); (case side2 => repeat (first | (with_reducible first | exact HB.out | apply below_alloc | apply pw_below_drewN | apply below_drew1 | refine below_set ?_ (IsS59.ge HI0.out)) | exact HB.out)); rintro e w9 ⟨rfl, hi, hb, hk⟩; refine ⟨_, rfl, ?_⟩; have n0_ := Aside0.mk (Kd.R_mono (Kd.R_keep (IsS59.apart (show IsS59 w0 _ g s0_0 t145 from by repeat (first | (with_reducible first | exact HI0.out | apply IsS59.alloc | apply IsS59.drewN | apply IsS59.drew | apply IsS59.set_1) | exact HI0.out)) (by (with_reducible repeat (first | apply Kd.R_alloc | apply Kd.R_drewN | apply Kd.R_drew)); exact HO148.out) (by decide)) hk (fun _ h => h.2)) (fun _ h => h.1)); have n1_ := Aside0.mk (KeepBut.trans (by repeat (first | (with_reducible first | exact HK.out | apply KeepBut.set_ | apply keep_drewN | apply keep_drew | apply keep_alloc) | exact HK.out)) hk (.inl rfl)); have n2_ := Aside0.mk (hb); have n3_ := Aside0.mk (hi); clear HO148; clear HK; clear HB; clear HI0; have HO148 := n0_; have HK := n1_; have HB := n2_; have HI0 := n3_; clear n0_ n1_ n2_ n3_; (try clear hb); (try clear hb2); (try clear hk); (try clear hi)))
  (try simp only [Act.put, List.setIfInBounds_toArray, List.set_cons_zero, List.set_cons_succ])
  go_cut [12] (fun v12 wc => ∃ (kq : Nat) (x12_3 : Bool), v12 = .bool x12_3 ∧ Aside0 (spec_l1Rd_mark.j0 kq (strOfNums y146) t149 x12_3 s0_0 t150 = some (r1, r2)) ∧ Aside0 (kq ≤ k) ∧ Aside0 (IsS59 w0 wc g s0_0 t150) ∧ Aside0 (KeepBut w wc g none) ∧ Aside0 (Below w0.heap.size w0 wc))
  case first =>
    have H := HC4.out
    clear HC4
    by_cases c10 : t149 = 0
    · rw [if_pos c10] at H
      have c10b0 : (t149 == 0) = true := beq_iff_eq.mpr c10
      have c10b1 : (t149 != 0) = false := bne_eq_false_iff_eq.mpr c10
      clear c10
      (first | rw [c10b0] | (simp only [i64_w, i32_w]; rw [c10b0]) | skip)
      have H' := Aside0.mk H
      clear H
      go_wp2
      go_meet
      case rel => exact ⟨_, ((t149 == 0)), (by first | rfl | (simp; done) | (simp [*]; done)), H', ⟨by first | omega | exact Nat.le_refl _⟩, ⟨by repeat (first | (with_reducible first | exact HI0.out | apply IsS59.alloc | apply IsS59.drewN | apply IsS59.drew | apply IsS59.set_1) | exact HI0.out)⟩, ⟨by repeat (first | (with_reducible first | exact HK.out | apply KeepBut.set_ | apply keep_drewN | apply keep_drew | apply keep_alloc) | exact HK.out)⟩, ⟨by repeat (first | (with_reducible first | exact HB.out | apply below_alloc | apply pw_below_drewN | apply below_drew1 | refine below_set ?_ (IsS59.ge HI0.out)) | exact HB.out)⟩⟩
    · rw [if_neg c10] at H
      have c10b0 : (t149 == 0) = false := beq_eq_false_iff_ne.mpr c10
      have c10b1 : (t149 != 0) = true := bne_iff_ne.mpr c10
      (first | rw [c10b0] | (simp only [i64_w, i32_w]; rw [c10b0]) | skip)
      by_cases c11 : t149 = 1
      · rw [if_pos c11] at H
        have c11b0 : (t149 == 1) = true := beq_iff_eq.mpr c11
        have c11b1 : (t149 != 1) = false := bne_eq_false_iff_eq.mpr c11
        clear c11
        have H' := Aside0.mk H
        clear H
        go_wp2
        go_meet
        case rel => exact ⟨_, ((t149 == 1)), (by first | rfl | (simp; done) | (simp [*]; done)), H', ⟨by first | omega | exact Nat.le_refl _⟩, ⟨by repeat (first | (with_reducible first | exact HI0.out | apply IsS59.alloc | apply IsS59.drewN | apply IsS59.drew | apply IsS59.set_1) | exact HI0.out)⟩, ⟨by repeat (first | (with_reducible first | exact HK.out | apply KeepBut.set_ | apply keep_drewN | apply keep_drew | apply keep_alloc) | exact HK.out)⟩, ⟨by repeat (first | (with_reducible first | exact HB.out | apply below_alloc | apply pw_below_drewN | apply below_drew1 | refine below_set ?_ (IsS59.ge HI0.out)) | exact HB.out)⟩⟩
      · rw [if_neg c11] at H
        have c11b0 : (t149 == 1) = false := beq_eq_false_iff_ne.mpr c11
        have c11b1 : (t149 != 1) = true := bne_iff_ne.mpr c11
        have H' := Aside0.mk H
        clear H
        go_wp2
        go_meet
        case rel => exact ⟨_, ((t149 == 2)), (by first | rfl | (simp; done) | (simp [*]; done)), H', ⟨by first | omega | exact Nat.le_refl _⟩, ⟨by repeat (first | (with_reducible first | exact HI0.out | apply IsS59.alloc | apply IsS59.drewN | apply IsS59.drew | apply IsS59.set_1) | exact HI0.out)⟩, ⟨by repeat (first | (with_reducible first | exact HK.out | apply KeepBut.set_ | apply keep_drewN | apply keep_drew | apply keep_alloc) | exact HK.out)⟩, ⟨by repeat (first | (with_reducible first | exact HB.out | apply below_alloc | apply pw_below_drewN | apply below_drew1 | refine below_set ?_ (IsS59.ge HI0.out)) | exact HB.out)⟩⟩
  case rest =>
    clear HC4
    try clear c1
    try clear c2
    try clear p2
    try clear c3
    try clear p6
    try clear hcv8
    try clear c10
    try clear c10b0
    try clear c10b1
    try clear c11
    try clear c11b0
    try clear c11b1
    obtain ⟨kq, x12_3, rfl, HA, HJ3, HI0, HK, HB⟩ := hcut
    cases kq with
    | zero => exact absurd HA.out (by simp [spec_l1Rd_mark.j0])
    | succ kj3 =>
      have H := HA.out
      clear HA
      simp only [spec_l1Rd_mark.j0] at H
      by_cases c12 : x12_3 = true
      · subst c12
        have H1 : (some ((⟨#[]⟩ : ByteArray), t150)) = some (r1, r2) := by rw [if_pos rfl] at H; exact H
        clear H
        have H := H1
        clear H1
        simp only [Option.some.injEq, Prod.mk.injEq] at H
        obtain ⟨rfl, rfl⟩ := H
        go_wp2
        go_ret
        exact ⟨by first | rfl | (simp [errW_none, errW_some] <;> rfl) | (simp [*, errW_none, errW_some] <;> rfl), by repeat (first | (with_reducible first | exact HI0.out | apply IsS59.alloc | apply IsS59.drewN | apply IsS59.drew | apply IsS59.set_1) | exact HI0.out), by repeat (first | (with_reducible first | exact HB.out | apply below_alloc | apply pw_below_drewN | apply below_drew1 | refine below_set ?_ (IsS59.ge HI0.out)) | exact HB.out), by repeat (first | (with_reducible first | exact HK.out | apply KeepBut.set_ | apply keep_drewN | apply keep_drew | apply keep_alloc) | exact HK.out)⟩
      · replace c12 := Bool.eq_false_iff.mpr c12
        subst c12
        have H1 : (if t149 = 3 then (if 2 + (strOfNums y146).size ≤ 9223372036854775807 then (some ((⟨#[82, 82]⟩ : ByteArray) ++ (strOfNums y146), t150)) else (none)) else (if t149 = 4 then (if 2 + (strOfNums y146).size ≤ 9223372036854775807 then (some ((⟨#[67, 67]⟩ : ByteArray) ++ (strOfNums y146), t150)) else (none)) else (if t149 = 5 then (if 2 + (strOfNums y146).size ≤ 9223372036854775807 then (some ((⟨#[65, 65]⟩ : ByteArray) ++ (strOfNums y146), t150)) else (none)) else (if t149 = 6 then ((spec_l1Rd_below.f s0_0 t150 26).bind fun bt151 => ((some (([(wrap64 (65 + bt151.1)) % 256] : List Int) : List Int)).bind fun y153 => (if 1 + (strOfNums y153).size ≤ 9223372036854775807 then (if ((⟨#[80]⟩ : ByteArray) ++ (strOfNums y153)).size + (strOfNums y146).size ≤ 9223372036854775807 then (some (((⟨#[80]⟩ : ByteArray) ++ (strOfNums y153)) ++ (strOfNums y146), bt151.2)) else (none)) else (none)))) else ((some (([(⟨#[82, 82, 88]⟩ : ByteArray), (⟨#[67, 67, 88]⟩ : ByteArray), (⟨#[80, 90, 90]⟩ : ByteArray), (⟨#[80, 65, 65]⟩ : ByteArray), (⟨#[65, 65, 88]⟩ : ByteArray)] : List ByteArray) : List ByteArray)).bind fun y156 => ((spec_l1Rd_below.f s0_0 t150 5).bind fun bt159 => (if 0 ≤ bt159.1 then (if bt159.1 < (y156.length : Int) then (some (rdOf ByteArray.empty y156 bt159.1, bt159.2)) else (none)) else (none)))))))) = some (r1, r2) := by rw [if_neg (show ¬ (false = true) by decide)] at H; exact H
        clear H
        have H := H1
        clear H1
        by_cases c13 : t149 = 3
        · rw [if_pos c13] at H
          have c13b0 : (t149 == 3) = true := beq_iff_eq.mpr c13
          have c13b1 : (t149 != 3) = false := bne_eq_false_iff_eq.mpr c13
          clear c13
          by_cases c14 : 2 + (strOfNums y146).size ≤ 9223372036854775807
          · rw [if_pos c14] at H
            have c14b0 := eq_true c14
            have c14b1 : decide (2 + (strOfNums y146).size ≤ 9223372036854775807) = true := decide_eq_true c14
            try have c14b2 : (9223372036854775807 < 2 + (strOfNums y146).size) = False := eq_false (Nat.not_lt.2 c14)
            simp only [Option.some.injEq, Prod.mk.injEq] at H
            obtain ⟨rfl, rfl⟩ := H
            go_wp2
            go_ret
            exact ⟨by first | rfl | (simp [errW_none, errW_some] <;> rfl) | (simp [*, errW_none, errW_some] <;> rfl), by repeat (first | (with_reducible first | exact HI0.out | apply IsS59.alloc | apply IsS59.drewN | apply IsS59.drew | apply IsS59.set_1) | exact HI0.out), by repeat (first | (with_reducible first | exact HB.out | apply below_alloc | apply pw_below_drewN | apply below_drew1 | refine below_set ?_ (IsS59.ge HI0.out)) | exact HB.out), by repeat (first | (with_reducible first | exact HK.out | apply KeepBut.set_ | apply keep_drewN | apply keep_drew | apply keep_alloc) | exact HK.out)⟩
          · rw [if_neg c14] at H
            exact absurd H (by simp)
        · rw [if_neg c13] at H
          have c13b0 : (t149 == 3) = false := beq_eq_false_iff_ne.mpr c13
          have c13b1 : (t149 != 3) = true := bne_iff_ne.mpr c13
          by_cases c15 : t149 = 4
          · rw [if_pos c15] at H
            have c15b0 : (t149 == 4) = true := beq_iff_eq.mpr c15
            have c15b1 : (t149 != 4) = false := bne_eq_false_iff_eq.mpr c15
            clear c15
            by_cases c16 : 2 + (strOfNums y146).size ≤ 9223372036854775807
            · rw [if_pos c16] at H
              have c16b0 := eq_true c16
              have c16b1 : decide (2 + (strOfNums y146).size ≤ 9223372036854775807) = true := decide_eq_true c16
              try have c16b2 : (9223372036854775807 < 2 + (strOfNums y146).size) = False := eq_false (Nat.not_lt.2 c16)
              simp only [Option.some.injEq, Prod.mk.injEq] at H
              obtain ⟨rfl, rfl⟩ := H
              go_wp2
              go_ret
              exact ⟨by first | rfl | (simp [errW_none, errW_some] <;> rfl) | (simp [*, errW_none, errW_some] <;> rfl), by repeat (first | (with_reducible first | exact HI0.out | apply IsS59.alloc | apply IsS59.drewN | apply IsS59.drew | apply IsS59.set_1) | exact HI0.out), by repeat (first | (with_reducible first | exact HB.out | apply below_alloc | apply pw_below_drewN | apply below_drew1 | refine below_set ?_ (IsS59.ge HI0.out)) | exact HB.out), by repeat (first | (with_reducible first | exact HK.out | apply KeepBut.set_ | apply keep_drewN | apply keep_drew | apply keep_alloc) | exact HK.out)⟩
            · rw [if_neg c16] at H
              exact absurd H (by simp)
          · rw [if_neg c15] at H
            have c15b0 : (t149 == 4) = false := beq_eq_false_iff_ne.mpr c15
            have c15b1 : (t149 != 4) = true := bne_iff_ne.mpr c15
            by_cases c17 : t149 = 5
            · rw [if_pos c17] at H
              have c17b0 : (t149 == 5) = true := beq_iff_eq.mpr c17
              have c17b1 : (t149 != 5) = false := bne_eq_false_iff_eq.mpr c17
              clear c17
              by_cases c18 : 2 + (strOfNums y146).size ≤ 9223372036854775807
              · rw [if_pos c18] at H
                have c18b0 := eq_true c18
                have c18b1 : decide (2 + (strOfNums y146).size ≤ 9223372036854775807) = true := decide_eq_true c18
                try have c18b2 : (9223372036854775807 < 2 + (strOfNums y146).size) = False := eq_false (Nat.not_lt.2 c18)
                simp only [Option.some.injEq, Prod.mk.injEq] at H
                obtain ⟨rfl, rfl⟩ := H
                go_wp2
                go_ret
                exact ⟨by first | rfl | (simp [errW_none, errW_some] <;> rfl) | (simp [*, errW_none, errW_some] <;> rfl), by repeat (first | (with_reducible first | exact HI0.out | apply IsS59.alloc | apply IsS59.drewN | apply IsS59.drew | apply IsS59.set_1) | exact HI0.out), by repeat (first | (with_reducible first | exact HB.out | apply below_alloc | apply pw_below_drewN | apply below_drew1 | refine below_set ?_ (IsS59.ge HI0.out)) | exact HB.out), by repeat (first | (with_reducible first | exact HK.out | apply KeepBut.set_ | apply keep_drewN | apply keep_drew | apply keep_alloc) | exact HK.out)⟩
              · rw [if_neg c18] at H
                exact absurd H (by simp)
            · rw [if_neg c17] at H
              have c17b0 : (t149 == 5) = false := beq_eq_false_iff_ne.mpr c17
              have c17b1 : (t149 != 5) = true := bne_iff_ne.mpr c17
              by_cases c19 : t149 = 6
              · rw [if_pos c19] at H
                have c19b0 : (t149 == 6) = true := beq_iff_eq.mpr c19
                have c19b1 : (t149 != 6) = false := bne_eq_false_iff_eq.mpr c19
                clear c19
                replace H := Option.bind_eq_some_iff.mp H
                obtain ⟨⟨t151, t152⟩, A200, H⟩ := H
                replace H : ((some (([(wrap64 (65 + t151)) % 256] : List Int) : List Int)).bind fun y153 => (if 1 + (strOfNums y153).size ≤ 9223372036854775807 then (if ((⟨#[80]⟩ : ByteArray) ++ (strOfNums y153)).size + (strOfNums y146).size ≤ 9223372036854775807 then (some (((⟨#[80]⟩ : ByteArray) ++ (strOfNums y153)) ++ (strOfNums y146), t152)) else (none)) else (none))) = some (r1, r2) := H
                have A20 := Aside0.mk A200
                clear A200
                obtain ⟨y153, hy153⟩ : ∃ y_ : List Int, y_ = (([(wrap64 (65 + t151)) % 256] : List Int)) := ⟨_, rfl⟩
                replace H : (if 1 + (strOfNums y153).size ≤ 9223372036854775807 then (if ((⟨#[80]⟩ : ByteArray) ++ (strOfNums y153)).size + (strOfNums y146).size ≤ 9223372036854775807 then (some (((⟨#[80]⟩ : ByteArray) ++ (strOfNums y153)) ++ (strOfNums y146), t152)) else (none)) else (none)) = some (r1, r2) := by first | (rw [hy153]; with_reducible exact H) | (have H2_ := (Option.bind_some _ _).symm.trans H; rw [hy153]; with_reducible exact H2_) | (have H2_ := (Option.bind_some _ _).symm.trans H; with_reducible exact H2_) | with_reducible exact H | (rw [hy153]; exact H) | exact H
                have Ny153 := Aside0.mk hy153
                clear hy153
                by_cases c21 : 1 + (strOfNums y153).size ≤ 9223372036854775807
                · rw [if_pos c21] at H
                  have c21b0 := eq_true c21
                  have c21b1 : decide (1 + (strOfNums y153).size ≤ 9223372036854775807) = true := decide_eq_true c21
                  try have c21b2 : (9223372036854775807 < 1 + (strOfNums y153).size) = False := eq_false (Nat.not_lt.2 c21)
                  by_cases c22 : ((⟨#[80]⟩ : ByteArray) ++ (strOfNums y153)).size + (strOfNums y146).size ≤ 9223372036854775807
                  · rw [if_pos c22] at H
                    have c22b0 := eq_true c22
                    have c22b1 : decide (((⟨#[80]⟩ : ByteArray) ++ (strOfNums y153)).size + (strOfNums y146).size ≤ 9223372036854775807) = true := decide_eq_true c22
                    try have c22b2 : (9223372036854775807 < ((⟨#[80]⟩ : ByteArray) ++ (strOfNums y153)).size + (strOfNums y146).size) = False := eq_false (Nat.not_lt.2 c22)
                    simp only [Option.some.injEq, Prod.mk.injEq] at H
                    obtain ⟨rfl, rfl⟩ := H
                    go_wp2_with (first | ((with_reducible refine gate_callee (f := 27) rfl ?_); refine goesL_ (some 31) rfl rfl Tryd.func27 (by kernel_rfl) rfl #[.pointer (some ⟨g, 0, none⟩), .int .i64 26] rfl (by (try simp only [List.map_toArray, List.map_cons, List.map_nil]); first | done | rfl | (simp only [List.length_drop, List.length_take]; rfl)) ?_; (with_reducible refine (spec_l1Rd_below.calls g s0_0 t150 26 t151 t152 w0 _ ?side1 ?side2 A20.out).mono ?_); (case side1 => repeat (first | (with_reducible first | exact HI0.out | apply IsS59.alloc | apply IsS59.drewN | apply IsS59.drew | apply IsS59.set_1) | exact HI0.out)); (case side2 => repeat (first | (with_reducible first | exact HB.out | apply below_alloc | apply pw_below_drewN | apply below_drew1 | refine below_set ?_ (IsS59.ge HI0.out)) | exact HB.out)); rintro e w23 ⟨rfl, hi, hb, hk⟩; refine ⟨_, rfl, ?_⟩; have n0_ := Aside0.mk (KeepBut.trans (by repeat (first | (with_reducible first | exact HK.out | apply KeepBut.set_ | apply keep_drewN | apply keep_drew | apply keep_alloc) | exact HK.out)) hk (.inl rfl)); have n1_ := Aside0.mk (hb); have n2_ := Aside0.mk (hi); clear HK; clear HB; clear HI0; have HK := n0_; have HB := n1_; have HI0 := n2_; clear n0_ n1_ n2_; (try clear hb); (try clear hb2); (try clear hk); (try clear hi)) | ((with_reducible refine gate_dst (N := 34) rfl ?_); refine Kd.R_lit (Kd.int .u8) _ 5 ?hg (N := 34) ?hd (xs := ([(wrap64 (65 + t151)) % 256] : List Int)) (inner := [.int .u8 ((wrap64 (65 + t151)) % 256)]) (ok := fun _ => True) (okp := fun _ => True) ?hr ?hp (fun _ hk => hk) trivial (Below.refl _ _) (Nat.le_refl _) (by simp) ?_; (case hd => rfl); (case hg => rfl); (case hr => first | (go_simp; done) | (go_simp; rfl)); (case hp => exact (Reps.one (show Kd.M (Kd.int .u8) _ _ _ ((wrap64 (65 + t151)) % 256) [.int .u8 ((wrap64 (65 + t151)) % 256)] from rfl) (Reps.none _ _))); intro v154 w24 ho25 hb hg_ hnew_; clear hg_ hnew_; (first | rw [← Ny153.out] at ho25 | (simp only [Int.reduceToNat] at ho25; rw [← Ny153.out] at ho25)); have n0_ := Aside0.mk (Kd.R_lower ho25 (keep_size (w := w) (g := g) (row := none) (by repeat (first | (with_reducible first | exact HK.out | apply KeepBut.set_ | apply keep_drewN | apply keep_drew | apply keep_alloc) | exact HK.out)))); have n1_ := Aside0.mk (IsS59.below (by repeat (first | (with_reducible first | exact HI0.out | apply IsS59.alloc | apply IsS59.drewN | apply IsS59.drew | apply IsS59.set_1) | exact HI0.out)) hb); have n2_ := Aside0.mk (KeepBut.trans (by repeat (first | (with_reducible first | exact HK.out | apply KeepBut.set_ | apply keep_drewN | apply keep_drew | apply keep_alloc) | exact HK.out)) (KeepBut.of_below hb g none) (.inl rfl)); have n3_ := Aside0.mk (below_step (by repeat (first | (with_reducible first | exact HB.out | apply below_alloc | apply pw_below_drewN | apply below_drew1 | refine below_set ?_ (IsS59.ge HI0.out)) | exact HB.out)) hb); clear HI0; clear HK; clear HB; have HO155 := n0_; have HI0 := n1_; have HK := n2_; have HB := n3_; clear n0_ n1_ n2_ n3_; clear hb ho25; have hcv26 := own_string (P := Tryd.prog) Tryd.underlying28 Tryd.underlying5 Tryd.underlying9 (Kd.own_of_R HO155.out)))
                    go_ret
                    exact ⟨by first | rfl | (simp [errW_none, errW_some] <;> rfl) | (simp [*, errW_none, errW_some] <;> rfl), by repeat (first | (with_reducible first | exact HI0.out | apply IsS59.alloc | apply IsS59.drewN | apply IsS59.drew | apply IsS59.set_1) | exact HI0.out), by repeat (first | (with_reducible first | exact HB.out | apply below_alloc | apply pw_below_drewN | apply below_drew1 | refine below_set ?_ (IsS59.ge HI0.out)) | exact HB.out), by repeat (first | (with_reducible first | exact HK.out | apply KeepBut.set_ | apply keep_drewN | apply keep_drew | apply keep_alloc) | exact HK.out)⟩
                  · rw [if_neg c22] at H
                    exact absurd H (by simp)
                · rw [if_neg c21] at H
                  exact absurd H (by simp)
              · rw [if_neg c19] at H
                have c19b0 : (t149 == 6) = false := beq_eq_false_iff_ne.mpr c19
                have c19b1 : (t149 != 6) = true := bne_iff_ne.mpr c19
                obtain ⟨y156, hy156⟩ : ∃ y_ : List ByteArray, y_ = (([(⟨#[82, 82, 88]⟩ : ByteArray), (⟨#[67, 67, 88]⟩ : ByteArray), (⟨#[80, 90, 90]⟩ : ByteArray), (⟨#[80, 65, 65]⟩ : ByteArray), (⟨#[65, 65, 88]⟩ : ByteArray)] : List ByteArray)) := ⟨_, rfl⟩
                replace H : ((spec_l1Rd_below.f s0_0 t150 5).bind fun bt159 => (if 0 ≤ bt159.1 then (if bt159.1 < (y156.length : Int) then (some (rdOf ByteArray.empty y156 bt159.1, bt159.2)) else (none)) else (none))) = some (r1, r2) := by first | (rw [hy156]; with_reducible exact H) | (have H2_ := (Option.bind_some _ _).symm.trans H; rw [hy156]; with_reducible exact H2_) | (have H2_ := (Option.bind_some _ _).symm.trans H; with_reducible exact H2_) | with_reducible exact H | (rw [hy156]; exact H) | exact H
                have Ny156 := Aside0.mk hy156
                clear hy156
                replace H := Option.bind_eq_some_iff.mp H
                obtain ⟨⟨t159, t160⟩, A270, H⟩ := H
                replace H : (if 0 ≤ t159 then (if t159 < (y156.length : Int) then (some (rdOf ByteArray.empty y156 t159, t160)) else (none)) else (none)) = some (r1, r2) := H
                have A27 := Aside0.mk A270
                clear A270
                by_cases c28 : 0 ≤ t159
                · rw [if_pos c28] at H
                  have c28b0 : decide (0 ≤ t159) = true := decide_eq_true c28
                  clear c28
                  by_cases c29 : t159 < (y156.length : Int)
                  · rw [if_pos c29] at H
                    have c29b0 : decide (t159 < (y156.length : Int)) = true := decide_eq_true c29
                    clear c29
                    simp only [Option.some.injEq, Prod.mk.injEq] at H
                    obtain ⟨rfl, rfl⟩ := H
                    go_wp2_with (first | ((with_reducible refine gate_dst (N := 39) rfl ?_); refine Kd.R_lit Kd.string _ 9 ?hg (N := 39) ?hd (xs := ([(⟨#[82, 82, 88]⟩ : ByteArray), (⟨#[67, 67, 88]⟩ : ByteArray), (⟨#[80, 90, 90]⟩ : ByteArray), (⟨#[80, 65, 65]⟩ : ByteArray), (⟨#[65, 65, 88]⟩ : ByteArray)] : List ByteArray)) (inner := [.string (⟨#[82, 82, 88]⟩ : ByteArray), .string (⟨#[67, 67, 88]⟩ : ByteArray), .string (⟨#[80, 90, 90]⟩ : ByteArray), .string (⟨#[80, 65, 65]⟩ : ByteArray), .string (⟨#[65, 65, 88]⟩ : ByteArray)]) (ok := fun _ => True) (okp := fun _ => True) ?hr ?hp (fun _ hk => hk) trivial (Below.refl _ _) (Nat.le_refl _) (by simp) ?_; (case hd => rfl); (case hg => rfl); (case hr => first | (go_simp; done) | (go_simp; rfl)); (case hp => exact (Reps.one (show Kd.M Kd.string _ _ _ (⟨#[82, 82, 88]⟩ : ByteArray) [.string (⟨#[82, 82, 88]⟩ : ByteArray)] from rfl) (Reps.one (show Kd.M Kd.string _ _ _ (⟨#[67, 67, 88]⟩ : ByteArray) [.string (⟨#[67, 67, 88]⟩ : ByteArray)] from rfl) (Reps.one (show Kd.M Kd.string _ _ _ (⟨#[80, 90, 90]⟩ : ByteArray) [.string (⟨#[80, 90, 90]⟩ : ByteArray)] from rfl) (Reps.one (show Kd.M Kd.string _ _ _ (⟨#[80, 65, 65]⟩ : ByteArray) [.string (⟨#[80, 65, 65]⟩ : ByteArray)] from rfl) (Reps.one (show Kd.M Kd.string _ _ _ (⟨#[65, 65, 88]⟩ : ByteArray) [.string (⟨#[65, 65, 88]⟩ : ByteArray)] from rfl) (Reps.none _ _))))))); intro v157 w30 ho31 hb hg_ hnew_; clear hg_ hnew_; (first | rw [← Ny156.out] at ho31 | (simp only [Int.reduceToNat] at ho31; rw [← Ny156.out] at ho31)); have n0_ := Aside0.mk (Kd.R_lower ho31 (keep_size (w := w) (g := g) (row := none) (by repeat (first | (with_reducible first | exact HK.out | apply KeepBut.set_ | apply keep_drewN | apply keep_drew | apply keep_alloc) | exact HK.out)))); have n1_ := Aside0.mk (IsS59.below (by repeat (first | (with_reducible first | exact HI0.out | apply IsS59.alloc | apply IsS59.drewN | apply IsS59.drew | apply IsS59.set_1) | exact HI0.out)) hb); have n2_ := Aside0.mk (KeepBut.trans (by repeat (first | (with_reducible first | exact HK.out | apply KeepBut.set_ | apply keep_drewN | apply keep_drew | apply keep_alloc) | exact HK.out)) (KeepBut.of_below hb g none) (.inl rfl)); have n3_ := Aside0.mk (below_step (by repeat (first | (with_reducible first | exact HB.out | apply below_alloc | apply pw_below_drewN | apply below_drew1 | refine below_set ?_ (IsS59.ge HI0.out)) | exact HB.out)) hb); clear HI0; clear HK; clear HB; have HO158 := n0_; have HI0 := n1_; have HK := n2_; have HB := n3_; clear n0_ n1_ n2_ n3_; clear hb ho31) | ((with_reducible refine gate_callee (f := 27) rfl ?_); refine goesL_ (some 41) rfl rfl Tryd.func27 (by kernel_rfl) rfl #[.pointer (some ⟨g, 0, none⟩), .int .i64 5] rfl (by (try simp only [List.map_toArray, List.map_cons, List.map_nil]); first | done | rfl | (simp only [List.length_drop, List.length_take]; rfl)) ?_; (with_reducible refine (spec_l1Rd_below.calls g s0_0 t150 5 t159 t160 w0 _ ?side1 ?side2 A27.out).mono ?_); (case side1 => repeat (first | (with_reducible first | exact HI0.out | apply IsS59.alloc | apply IsS59.drewN | apply IsS59.drew | apply IsS59.set_1) | exact HI0.out)); (case side2 => repeat (first | (with_reducible first | exact HB.out | apply below_alloc | apply pw_below_drewN | apply below_drew1 | refine below_set ?_ (IsS59.ge HI0.out)) | exact HB.out)); rintro e w32 ⟨rfl, hi, hb, hk⟩; refine ⟨_, rfl, ?_⟩; have n0_ := Aside0.mk (Kd.R_mono (Kd.R_keep (IsS59.apart (show IsS59 w0 _ g s0_0 t150 from by repeat (first | (with_reducible first | exact HI0.out | apply IsS59.alloc | apply IsS59.drewN | apply IsS59.drew | apply IsS59.set_1) | exact HI0.out)) (by (with_reducible repeat (first | apply Kd.R_alloc | apply Kd.R_drewN | apply Kd.R_drew)); exact HO158.out) (by decide)) hk (fun _ h => h.2)) (fun _ h => h.1)); have n1_ := Aside0.mk (KeepBut.trans (by repeat (first | (with_reducible first | exact HK.out | apply KeepBut.set_ | apply keep_drewN | apply keep_drew | apply keep_alloc) | exact HK.out)) hk (.inl rfl)); have n2_ := Aside0.mk (hb); have n3_ := Aside0.mk (hi); clear HO158; clear HK; clear HB; clear HI0; have HO158 := n0_; have HK := n1_; have HB := n2_; have HI0 := n3_; clear n0_ n1_ n2_ n3_; (try clear hb); (try clear hb2); (try clear hk); (try clear hi); obtain ⟨Ao33, co33, eo33⟩ := Kd.R_slice HO158.out; subst eo33; have p161 : 0 ≤ (t159 : Int) := of_decide_eq_true (by first | (with_reducible assumption) | assumption); have q161 : t159 < (y156.length : Int) := of_decide_eq_true (by first | (with_reducible assumption) | assumption); obtain ⟨ad161, e161, hx161_0⟩ := Kd.at_string (Kd.R_reads' HO158.out).2.2 t159 p161 q161; cases e161; replace p161 := eq_true p161; replace q161 := eq_true q161))
                    go_ret
                    exact ⟨by first | rfl | (simp [errW_none, errW_some] <;> rfl) | (simp [*, errW_none, errW_some] <;> rfl), by repeat (first | (with_reducible first | exact HI0.out | apply IsS59.alloc | apply IsS59.drewN | apply IsS59.drew | apply IsS59.set_1) | exact HI0.out), by repeat (first | (with_reducible first | exact HB.out | apply below_alloc | apply pw_below_drewN | apply below_drew1 | refine below_set ?_ (IsS59.ge HI0.out)) | exact HB.out), by repeat (first | (with_reducible first | exact HK.out | apply KeepBut.set_ | apply keep_drewN | apply keep_drew | apply keep_alloc) | exact HK.out)⟩
                  · rw [if_neg c29] at H
                    exact absurd H (by simp)
                · rw [if_neg c28] at H
                  exact absurd H (by simp)

end Go.Proofs.YtfipjlcbnfcddaaDoor.F
