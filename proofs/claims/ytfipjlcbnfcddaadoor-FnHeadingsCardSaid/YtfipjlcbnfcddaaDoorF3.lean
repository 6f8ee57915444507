-- Written by a program of this session (wip/tools/pr.py, over the kit's print programs): functions and their contracts. Lean checks it.
import Derived.Test.YtfipjlcbnfcddaaDoorF0
import Derived.Test.YtfipjlcbnfcddaaDoorF1
import Derived.Test.YtfipjlcbnfcddaaDoorF2
namespace Go.Proofs.YtfipjlcbnfcddaaDoor.F
open Go.RowKit Go.Proofs.YtfipjlcbnfcddaaDoorW.PrintWords Go.Proofs.YtfipjlcbnfcddaaDoorW.PrintLast Go.Proofs.YtfipjlcbnfcddaaDoorW.PrintMore
attribute [local go_sem] max2_int min2_int max_two min_two max_three min_three max_four min_four   -- for this text's walks alone
set_option linter.unusedVariables false
set_option linter.unusedSimpArgs false

/-! ### spec_l4HeadingOk: function 17 -/
def spec_l4HeadingOk.f (k : Nat) (a0_0 : ByteArray) (a0_1 : ByteArray) (a0_2 : Int) (a0_3 : ByteArray) (a0_4 : Int) (a0_5 : Int) (a0_6 : Int) (a0_7 : ByteArray) : Option (Bool) := (spec_MarkOf.f k a0_7).bind fun bt118 => (if (a0_0.size : Int) = 2 then (if (a0_1.size : Int) = 2 then (if a0_0.size + a0_1.size ≤ 9223372036854775807 then ((spec_l4Letters.f k (a0_0 ++ a0_1)).bind fun t120 => (if t120 = true then ((spec_l2In.f a0_2 0 99).bind fun t121 => (if t121 = true then ((spec_l4CentreOk.f k a0_3).bind fun t122 => (if t122 = true then ((spec_l2In.f a0_4 1 31).bind fun t123 => (if t123 = true then ((spec_l2In.f a0_5 0 23).bind fun t124 => (if t124 = true then ((spec_l2In.f a0_6 0 59).bind fun t125 => (if t125 = true then (some (decide (bt118.1 ≥ 0))) else (some false))) else (some false))) else (some false))) else (some false))) else (some false))) else (some false))) else (none)) else (some false)) else (some false))
theorem spec_l4HeadingOk.mono : ∀ a0 a1 a2 a3 a4 a5 a6 a7 k, LeO (spec_l4HeadingOk.f k a0 a1 a2 a3 a4 a5 a6 a7) (spec_l4HeadingOk.f (k + 1) a0 a1 a2 a3 a4 a5 a6 a7) := by
  intro a0 a1 a2 a3 a4 a5 a6 a7 k
  unfold spec_l4HeadingOk.f
  repeat' first
      | (with_reducible exact spec_MarkOf.mono _ _)
      | (with_reducible exact spec_l4CentreOk.mono _ _)
      | (with_reducible exact spec_l4Letters.mono _ _)
      | (with_reducible exact LeO.refl _)
      | (with_reducible exact LeO.none _)
      | (with_reducible refine LeO.ite ?_ ?_)
      | (with_reducible refine LeO.bind ?_ (fun _ => ?_))
      | exact spec_MarkOf.mono _ _
      | exact spec_l4CentreOk.mono _ _
      | exact spec_l4Letters.mono _ _
      | exact LeO.none _
      | refine LeO.ite ?_ ?_
      | refine LeO.bind ?_ (fun _ => ?_)
set_option maxHeartbeats 8000000 in
set_option maxRecDepth 100000 in
theorem spec_l4HeadingOk.calls (k : Nat) (a0_0 : ByteArray) (a0_1 : ByteArray) (a0_2 : Int) (a0_3 : ByteArray) (a0_4 : Int) (a0_5 : Int) (a0_6 : Int) (a0_7 : ByteArray) (r : Bool) (w : World) (h : spec_l4HeadingOk.f k a0_0 a0_1 a0_2 a0_3 a0_4 a0_5 a0_6 a0_7 = some r) :
    Calls Tryd.prog 17 #[.agg #[.string a0_0, .string a0_1, .int .i64 a0_2, .string a0_3, .int .i64 a0_4, .int .i64 a0_5, .int .i64 a0_6, .string a0_7]] w fun e w' => e = .returned (.bool r) ∧ Below w.heap.size w w' := by
  have hu23 := Tryd.underlying23
  have HB := Aside0.mk (Below.refl w.heap.size w)
  have H : ((spec_MarkOf.f k a0_7).bind fun bt118 => (if (a0_0.size : Int) = 2 then (if (a0_1.size : Int) = 2 then (if a0_0.size + a0_1.size ≤ 9223372036854775807 then ((spec_l4Letters.f k (a0_0 ++ a0_1)).bind fun t120 => (if t120 = true then ((spec_l2In.f a0_2 0 99).bind fun t121 => (if t121 = true then ((spec_l4CentreOk.f k a0_3).bind fun t122 => (if t122 = true then ((spec_l2In.f a0_4 1 31).bind fun t123 => (if t123 = true then ((spec_l2In.f a0_5 0 23).bind fun t124 => (if t124 = true then ((spec_l2In.f a0_6 0 59).bind fun t125 => (if t125 = true then (some (decide (bt118.1 ≥ 0))) else (some false))) else (some false))) else (some false))) else (some false))) else (some false))) else (some false))) else (none)) else (some false)) else (some false))) = some r := h
  clear h
  replace H := Option.bind_eq_some_iff.mp H
  obtain ⟨⟨t118, t119⟩, A20, H⟩ := H
  replace H : (if (a0_0.size : Int) = 2 then (if (a0_1.size : Int) = 2 then (if a0_0.size + a0_1.size ≤ 9223372036854775807 then ((spec_l4Letters.f k (a0_0 ++ a0_1)).bind fun t120 => (if t120 = true then ((spec_l2In.f a0_2 0 99).bind fun t121 => (if t121 = true then ((spec_l4CentreOk.f k a0_3).bind fun t122 => (if t122 = true then ((spec_l2In.f a0_4 1 31).bind fun t123 => (if t123 = true then ((spec_l2In.f a0_5 0 23).bind fun t124 => (if t124 = true then ((spec_l2In.f a0_6 0 59).bind fun t125 => (if t125 = true then (some (decide (t118 ≥ 0))) else (some false))) else (some false))) else (some false))) else (some false))) else (some false))) else (some false))) else (none)) else (some false)) else (some false)) = some r := H
  have A2 := Aside0.mk A20
  clear A20
  by_cases c3 : (a0_0.size : Int) = 2
  · rw [if_pos c3] at H
    have c3b0 : ((a0_0.size : Int) == 2) = true := beq_iff_eq.mpr c3
    have c3b1 : ((a0_0.size : Int) != 2) = false := bne_eq_false_iff_eq.mpr c3
    clear c3
    by_cases c4 : (a0_1.size : Int) = 2
    · rw [if_pos c4] at H
      have c4b0 : ((a0_1.size : Int) == 2) = true := beq_iff_eq.mpr c4
      have c4b1 : ((a0_1.size : Int) != 2) = false := bne_eq_false_iff_eq.mpr c4
      clear c4
      by_cases c5 : a0_0.size + a0_1.size ≤ 9223372036854775807
      · rw [if_pos c5] at H
        have c5b0 := eq_true c5
        have c5b1 : decide (a0_0.size + a0_1.size ≤ 9223372036854775807) = true := decide_eq_true c5
        try have c5b2 : (9223372036854775807 < a0_0.size + a0_1.size) = False := eq_false (Nat.not_lt.2 c5)
        replace H := Option.bind_eq_some_iff.mp H
        obtain ⟨t120, A60, H⟩ := H
        replace H : (if t120 = true then ((spec_l2In.f a0_2 0 99).bind fun t121 => (if t121 = true then ((spec_l4CentreOk.f k a0_3).bind fun t122 => (if t122 = true then ((spec_l2In.f a0_4 1 31).bind fun t123 => (if t123 = true then ((spec_l2In.f a0_5 0 23).bind fun t124 => (if t124 = true then ((spec_l2In.f a0_6 0 59).bind fun t125 => (if t125 = true then (some (decide (t118 ≥ 0))) else (some false))) else (some false))) else (some false))) else (some false))) else (some false))) else (some false)) = some r := H
        have A6 := Aside0.mk A60
        clear A60
        by_cases c7 : t120 = true
        · subst c7
          have H1 : ((spec_l2In.f a0_2 0 99).bind fun t121 => (if t121 = true then ((spec_l4CentreOk.f k a0_3).bind fun t122 => (if t122 = true then ((spec_l2In.f a0_4 1 31).bind fun t123 => (if t123 = true then ((spec_l2In.f a0_5 0 23).bind fun t124 => (if t124 = true then ((spec_l2In.f a0_6 0 59).bind fun t125 => (if t125 = true then (some (decide (t118 ≥ 0))) else (some false))) else (some false))) else (some false))) else (some false))) else (some false))) = some r := by rw [if_pos rfl] at H; exact H
          clear H
          have H := H1
          clear H1
          replace H := Option.bind_eq_some_iff.mp H
          obtain ⟨t121, A80, H⟩ := H
          replace H : (if t121 = true then ((spec_l4CentreOk.f k a0_3).bind fun t122 => (if t122 = true then ((spec_l2In.f a0_4 1 31).bind fun t123 => (if t123 = true then ((spec_l2In.f a0_5 0 23).bind fun t124 => (if t124 = true then ((spec_l2In.f a0_6 0 59).bind fun t125 => (if t125 = true then (some (decide (t118 ≥ 0))) else (some false))) else (some false))) else (some false))) else (some false))) else (some false)) = some r := H
          have A8 := Aside0.mk A80
          clear A80
          by_cases c9 : t121 = true
          · subst c9
            have H1 : ((spec_l4CentreOk.f k a0_3).bind fun t122 => (if t122 = true then ((spec_l2In.f a0_4 1 31).bind fun t123 => (if t123 = true then ((spec_l2In.f a0_5 0 23).bind fun t124 => (if t124 = true then ((spec_l2In.f a0_6 0 59).bind fun t125 => (if t125 = true then (some (decide (t118 ≥ 0))) else (some false))) else (some false))) else (some false))) else (some false))) = some r := by rw [if_pos rfl] at H; exact H
            clear H
            have H := H1
            clear H1
            replace H := Option.bind_eq_some_iff.mp H
            obtain ⟨t122, A100, H⟩ := H
            replace H : (if t122 = true then ((spec_l2In.f a0_4 1 31).bind fun t123 => (if t123 = true then ((spec_l2In.f a0_5 0 23).bind fun t124 => (if t124 = true then ((spec_l2In.f a0_6 0 59).bind fun t125 => (if t125 = true then (some (decide (t118 ≥ 0))) else (some false))) else (some false))) else (some false))) else (some false)) = some r := H
            have A10 := Aside0.mk A100
            clear A100
            by_cases c11 : t122 = true
            · subst c11
              have H1 : ((spec_l2In.f a0_4 1 31).bind fun t123 => (if t123 = true then ((spec_l2In.f a0_5 0 23).bind fun t124 => (if t124 = true then ((spec_l2In.f a0_6 0 59).bind fun t125 => (if t125 = true then (some (decide (t118 ≥ 0))) else (some false))) else (some false))) else (some false))) = some r := by rw [if_pos rfl] at H; exact H
              clear H
              have H := H1
              clear H1
              replace H := Option.bind_eq_some_iff.mp H
              obtain ⟨t123, A120, H⟩ := H
              replace H : (if t123 = true then ((spec_l2In.f a0_5 0 23).bind fun t124 => (if t124 = true then ((spec_l2In.f a0_6 0 59).bind fun t125 => (if t125 = true then (some (decide (t118 ≥ 0))) else (some false))) else (some false))) else (some false)) = some r := H
              have A12 := Aside0.mk A120
              clear A120
              by_cases c13 : t123 = true
              · subst c13
                have H1 : ((spec_l2In.f a0_5 0 23).bind fun t124 => (if t124 = true then ((spec_l2In.f a0_6 0 59).bind fun t125 => (if t125 = true then (some (decide (t118 ≥ 0))) else (some false))) else (some false))) = some r := by rw [if_pos rfl] at H; exact H
                clear H
                have H := H1
                clear H1
                replace H := Option.bind_eq_some_iff.mp H
                obtain ⟨t124, A140, H⟩ := H
                replace H : (if t124 = true then ((spec_l2In.f a0_6 0 59).bind fun t125 => (if t125 = true then (some (decide (t118 ≥ 0))) else (some false))) else (some false)) = some r := H
                have A14 := Aside0.mk A140
                clear A140
                by_cases c15 : t124 = true
                · subst c15
                  have H1 : ((spec_l2In.f a0_6 0 59).bind fun t125 => (if t125 = true then (some (decide (t118 ≥ 0))) else (some false))) = some r := by rw [if_pos rfl] at H; exact H
                  clear H
                  have H := H1
                  clear H1
                  replace H := Option.bind_eq_some_iff.mp H
                  obtain ⟨t125, A160, H⟩ := H
                  replace H : (if t125 = true then (some (decide (t118 ≥ 0))) else (some false)) = some r := H
                  have A16 := Aside0.mk A160
                  clear A160
                  by_cases c17 : t125 = true
                  · subst c17
                    have H1 : (some (decide (t118 ≥ 0))) = some r := by rw [if_pos rfl] at H; exact H
                    clear H
                    have H := H1
                    clear H1
                    obtain rfl := Option.some.inj H
                    go_enter Tryd.func17, Tryd.ntmps17
                    go_wp2_with (first | ((with_reducible refine gate_dst (N := 1) rfl ?_); (try (refine gate_guard (by rfl) ?_; dsimp only)); refine box_event ?hg (N := 1) ?hd (cs := #[.string a0_0, .string a0_1, .int .i64 a0_2, .string a0_3, .int .i64 a0_4, .int .i64 a0_5, .int .i64 a0_6, .string a0_7]) (t := 23) ?hr ?_; (case hd => rfl); (case hg => rfl); (case hr => first | (go_simp; done) | (go_simp; rfl)); intro gb117 hg w18 hbox hb; have n0_ := Aside0.mk (below_step (by repeat (first | (with_reducible first | exact HB.out | apply below_alloc | apply pw_below_drewN | apply below_drew1) | exact HB.out)) hb); have n1_ := Aside0.mk (hbox); have n2_ := Aside0.mk ((by rw [hg]; exact (below_size (by repeat (first | (with_reducible first | exact HB.out | apply below_alloc | apply pw_below_drewN | apply below_drew1) | exact HB.out))) : w.heap.size ≤ gb117)); have n3_ := Aside0.mk ((by rw [hg]; exact (below_size (by repeat (first | (with_reducible first | exact HB.out | apply below_alloc | apply pw_below_drewN | apply below_drew1) | exact HB.out))) : w.heap.size ≤ gb117)); clear HB; have HB := n0_; have BK117 := n1_; have GW117 := n2_; have GE117 := n3_; clear n0_ n1_ n2_ n3_; clear hb hbox hg; have hcz19_0 : w18.cell? ⟨gb117, 0, none⟩ = some (.string a0_0) := (blk_cell BK117.out 0).trans rfl; have hcz19_1 : w18.cell? ⟨gb117, 1, none⟩ = some (.string a0_1) := (blk_cell BK117.out 1).trans rfl; have hcz19_2 : w18.cell? ⟨gb117, 2, none⟩ = some (.int .i64 a0_2) := (blk_cell BK117.out 2).trans rfl; have hcz19_3 : w18.cell? ⟨gb117, 3, none⟩ = some (.string a0_3) := (blk_cell BK117.out 3).trans rfl; have hcz19_4 : w18.cell? ⟨gb117, 4, none⟩ = some (.int .i64 a0_4) := (blk_cell BK117.out 4).trans rfl; have hcz19_5 : w18.cell? ⟨gb117, 5, none⟩ = some (.int .i64 a0_5) := (blk_cell BK117.out 5).trans rfl; have hcz19_6 : w18.cell? ⟨gb117, 6, none⟩ = some (.int .i64 a0_6) := (blk_cell BK117.out 6).trans rfl; have hcz19_7 : w18.cell? ⟨gb117, 7, none⟩ = some (.string a0_7) := (blk_cell BK117.out 7).trans rfl; have hfz19_0 := blk_frozen BK117.out 0; have hfz19_1 := blk_frozen BK117.out 1; have hfz19_2 := blk_frozen BK117.out 2; have hfz19_3 := blk_frozen BK117.out 3; have hfz19_4 := blk_frozen BK117.out 4; have hfz19_5 := blk_frozen BK117.out 5; have hfz19_6 := blk_frozen BK117.out 6; have hfz19_7 := blk_frozen BK117.out 7) | ((with_reducible refine gate_callee (f := 33) rfl ?_); refine goesL_ (some 8) rfl rfl Tryd.func33 (by kernel_rfl) rfl #[.string a0_7] rfl (by (try simp only [List.map_toArray, List.map_cons, List.map_nil]); first | done | rfl | (simp only [List.length_drop, List.length_take]; rfl)) ?_; (with_reducible refine (spec_MarkOf.calls k a0_7 t118 t119 _ A2.out).mono ?_); rintro e w' ⟨rfl, ⟨nd, rfl⟩⟩; refine ⟨_, rfl, ?_⟩) | (go_at_call 14; (with_reducible refine (spec_l4Letters.calls k (a0_0 ++ a0_1) true _ A6.out).mono ?_); rintro e w' ⟨rfl, ⟨nd, rfl⟩⟩) | (go_at_call 34; (with_reducible refine (spec_l2In.calls a0_2 0 99 true _ A8.out).mono ?_); rintro e w' ⟨rfl, ⟨nd, rfl⟩⟩) | (go_at_call 16; (with_reducible refine (spec_l4CentreOk.calls k a0_3 true _ A10.out).mono ?_); rintro e w' ⟨rfl, ⟨nd, rfl⟩⟩) | (go_at_call 34; (with_reducible refine (spec_l2In.calls a0_4 1 31 true _ A12.out).mono ?_); rintro e w' ⟨rfl, ⟨nd, rfl⟩⟩) | (go_at_call 34; (with_reducible refine (spec_l2In.calls a0_5 0 23 true _ A14.out).mono ?_); rintro e w' ⟨rfl, ⟨nd, rfl⟩⟩) | (go_at_call 34; (with_reducible refine (spec_l2In.calls a0_6 0 59 true _ A16.out).mono ?_); rintro e w' ⟨rfl, ⟨nd, rfl⟩⟩))
                    go_ret
                    exact ⟨by first | rfl | (simp [errW_none, errW_some] <;> rfl) | (simp [*, errW_none, errW_some] <;> rfl), by repeat (first | (with_reducible first | exact HB.out | apply below_alloc | apply pw_below_drewN | apply below_drew1 | refine below_set ?_ GE117.out) | exact HB.out)⟩
                  · replace c17 := Bool.eq_false_iff.mpr c17
                    subst c17
                    have H1 : (some false) = some r := by rw [if_neg (show ¬ (false = true) by decide)] at H; exact H
                    clear H
                    have H := H1
                    clear H1
                    obtain rfl := Option.some.inj H
                    go_enter Tryd.func17, Tryd.ntmps17
                    go_wp2_with (first | ((with_reducible refine gate_dst (N := 1) rfl ?_); (try (refine gate_guard (by rfl) ?_; dsimp only)); refine box_event ?hg (N := 1) ?hd (cs := #[.string a0_0, .string a0_1, .int .i64 a0_2, .string a0_3, .int .i64 a0_4, .int .i64 a0_5, .int .i64 a0_6, .string a0_7]) (t := 23) ?hr ?_; (case hd => rfl); (case hg => rfl); (case hr => first | (go_simp; done) | (go_simp; rfl)); intro gb117 hg w20 hbox hb; have n0_ := Aside0.mk (below_step (by repeat (first | (with_reducible first | exact HB.out | apply below_alloc | apply pw_below_drewN | apply below_drew1) | exact HB.out)) hb); have n1_ := Aside0.mk (hbox); have n2_ := Aside0.mk ((by rw [hg]; exact (below_size (by repeat (first | (with_reducible first | exact HB.out | apply below_alloc | apply pw_below_drewN | apply below_drew1) | exact HB.out))) : w.heap.size ≤ gb117)); have n3_ := Aside0.mk ((by rw [hg]; exact (below_size (by repeat (first | (with_reducible first | exact HB.out | apply below_alloc | apply pw_below_drewN | apply below_drew1) | exact HB.out))) : w.heap.size ≤ gb117)); clear HB; have HB := n0_; have BK117 := n1_; have GW117 := n2_; have GE117 := n3_; clear n0_ n1_ n2_ n3_; clear hb hbox hg; have hcz21_0 : w20.cell? ⟨gb117, 0, none⟩ = some (.string a0_0) := (blk_cell BK117.out 0).trans rfl; have hcz21_1 : w20.cell? ⟨gb117, 1, none⟩ = some (.string a0_1) := (blk_cell BK117.out 1).trans rfl; have hcz21_2 : w20.cell? ⟨gb117, 2, none⟩ = some (.int .i64 a0_2) := (blk_cell BK117.out 2).trans rfl; have hcz21_3 : w20.cell? ⟨gb117, 3, none⟩ = some (.string a0_3) := (blk_cell BK117.out 3).trans rfl; have hcz21_4 : w20.cell? ⟨gb117, 4, none⟩ = some (.int .i64 a0_4) := (blk_cell BK117.out 4).trans rfl; have hcz21_5 : w20.cell? ⟨gb117, 5, none⟩ = some (.int .i64 a0_5) := (blk_cell BK117.out 5).trans rfl; have hcz21_6 : w20.cell? ⟨gb117, 6, none⟩ = some (.int .i64 a0_6) := (blk_cell BK117.out 6).trans rfl; have hcz21_7 : w20.cell? ⟨gb117, 7, none⟩ = some (.string a0_7) := (blk_cell BK117.out 7).trans rfl; have hfz21_0 := blk_frozen BK117.out 0; have hfz21_1 := blk_frozen BK117.out 1; have hfz21_2 := blk_frozen BK117.out 2; have hfz21_3 := blk_frozen BK117.out 3; have hfz21_4 := blk_frozen BK117.out 4; have hfz21_5 := blk_frozen BK117.out 5; have hfz21_6 := blk_frozen BK117.out 6; have hfz21_7 := blk_frozen BK117.out 7) | ((with_reducible refine gate_callee (f := 33) rfl ?_); refine goesL_ (some 8) rfl rfl Tryd.func33 (by kernel_rfl) rfl #[.string a0_7] rfl (by (try simp only [List.map_toArray, List.map_cons, List.map_nil]); first | done | rfl | (simp only [List.length_drop, List.length_take]; rfl)) ?_; (with_reducible refine (spec_MarkOf.calls k a0_7 t118 t119 _ A2.out).mono ?_); rintro e w' ⟨rfl, ⟨nd, rfl⟩⟩; refine ⟨_, rfl, ?_⟩) | (go_at_call 14; (with_reducible refine (spec_l4Letters.calls k (a0_0 ++ a0_1) true _ A6.out).mono ?_); rintro e w' ⟨rfl, ⟨nd, rfl⟩⟩) | (go_at_call 34; (with_reducible refine (spec_l2In.calls a0_2 0 99 true _ A8.out).mono ?_); rintro e w' ⟨rfl, ⟨nd, rfl⟩⟩) | (go_at_call 16; (with_reducible refine (spec_l4CentreOk.calls k a0_3 true _ A10.out).mono ?_); rintro e w' ⟨rfl, ⟨nd, rfl⟩⟩) | (go_at_call 34; (with_reducible refine (spec_l2In.calls a0_4 1 31 true _ A12.out).mono ?_); rintro e w' ⟨rfl, ⟨nd, rfl⟩⟩) | (go_at_call 34; (with_reducible refine (spec_l2In.calls a0_5 0 23 true _ A14.out).mono ?_); rintro e w' ⟨rfl, ⟨nd, rfl⟩⟩) | (go_at_call 34; (with_reducible refine (spec_l2In.calls a0_6 0 59 false _ A16.out).mono ?_); rintro e w' ⟨rfl, ⟨nd, rfl⟩⟩))
                    go_ret
                    exact ⟨by first | rfl | (simp [errW_none, errW_some] <;> rfl) | (simp [*, errW_none, errW_some] <;> rfl), by repeat (first | (with_reducible first | exact HB.out | apply below_alloc | apply pw_below_drewN | apply below_drew1 | refine below_set ?_ GE117.out) | exact HB.out)⟩
                · replace c15 := Bool.eq_false_iff.mpr c15
                  subst c15
                  have H1 : (some false) = some r := by rw [if_neg (show ¬ (false = true) by decide)] at H; exact H
                  clear H
                  have H := H1
                  clear H1
                  obtain rfl := Option.some.inj H
                  go_enter Tryd.func17, Tryd.ntmps17
                  go_wp2_with (first | ((with_reducible refine gate_dst (N := 1) rfl ?_); (try (refine gate_guard (by rfl) ?_; dsimp only)); refine box_event ?hg (N := 1) ?hd (cs := #[.string a0_0, .string a0_1, .int .i64 a0_2, .string a0_3, .int .i64 a0_4, .int .i64 a0_5, .int .i64 a0_6, .string a0_7]) (t := 23) ?hr ?_; (case hd => rfl); (case hg => rfl); (case hr => first | (go_simp; done) | (go_simp; rfl)); intro gb117 hg w22 hbox hb; have n0_ := Aside0.mk (below_step (by repeat (first | (with_reducible first | exact HB.out | apply below_alloc | apply pw_below_drewN | apply below_drew1) | exact HB.out)) hb); have n1_ := Aside0.mk (hbox); have n2_ := Aside0.mk ((by rw [hg]; exact (below_size (by repeat (first | (with_reducible first | exact HB.out | apply below_alloc | apply pw_below_drewN | apply below_drew1) | exact HB.out))) : w.heap.size ≤ gb117)); have n3_ := Aside0.mk ((by rw [hg]; exact (below_size (by repeat (first | (with_reducible first | exact HB.out | apply below_alloc | apply pw_below_drewN | apply below_drew1) | exact HB.out))) : w.heap.size ≤ gb117)); clear HB; have HB := n0_; have BK117 := n1_; have GW117 := n2_; have GE117 := n3_; clear n0_ n1_ n2_ n3_; clear hb hbox hg; have hcz23_0 : w22.cell? ⟨gb117, 0, none⟩ = some (.string a0_0) := (blk_cell BK117.out 0).trans rfl; have hcz23_1 : w22.cell? ⟨gb117, 1, none⟩ = some (.string a0_1) := (blk_cell BK117.out 1).trans rfl; have hcz23_2 : w22.cell? ⟨gb117, 2, none⟩ = some (.int .i64 a0_2) := (blk_cell BK117.out 2).trans rfl; have hcz23_3 : w22.cell? ⟨gb117, 3, none⟩ = some (.string a0_3) := (blk_cell BK117.out 3).trans rfl; have hcz23_4 : w22.cell? ⟨gb117, 4, none⟩ = some (.int .i64 a0_4) := (blk_cell BK117.out 4).trans rfl; have hcz23_5 : w22.cell? ⟨gb117, 5, none⟩ = some (.int .i64 a0_5) := (blk_cell BK117.out 5).trans rfl; have hcz23_6 : w22.cell? ⟨gb117, 6, none⟩ = some (.int .i64 a0_6) := (blk_cell BK117.out 6).trans rfl; have hcz23_7 : w22.cell? ⟨gb117, 7, none⟩ = some (.string a0_7) := (blk_cell BK117.out 7).trans rfl; have hfz23_0 := blk_frozen BK117.out 0; have hfz23_1 := blk_frozen BK117.out 1; have hfz23_2 := blk_frozen BK117.out 2; have hfz23_3 := blk_frozen BK117.out 3; have hfz23_4 := blk_frozen BK117.out 4; have hfz23_5 := blk_frozen BK117.out 5; have hfz23_6 := blk_frozen BK117.out 6; have hfz23_7 := blk_frozen BK117.out 7) | ((with_reducible refine gate_callee (f := 33) rfl ?_); refine goesL_ (some 8) rfl rfl Tryd.func33 (by kernel_rfl) rfl #[.string a0_7] rfl (by (try simp only [List.map_toArray, List.map_cons, List.map_nil]); first | done | rfl | (simp only [List.length_drop, List.length_take]; rfl)) ?_; (with_reducible refine (spec_MarkOf.calls k a0_7 t118 t119 _ A2.out).mono ?_); rintro e w' ⟨rfl, ⟨nd, rfl⟩⟩; refine ⟨_, rfl, ?_⟩) | (go_at_call 14; (with_reducible refine (spec_l4Letters.calls k (a0_0 ++ a0_1) true _ A6.out).mono ?_); rintro e w' ⟨rfl, ⟨nd, rfl⟩⟩) | (go_at_call 34; (with_reducible refine (spec_l2In.calls a0_2 0 99 true _ A8.out).mono ?_); rintro e w' ⟨rfl, ⟨nd, rfl⟩⟩) | (go_at_call 16; (with_reducible refine (spec_l4CentreOk.calls k a0_3 true _ A10.out).mono ?_); rintro e w' ⟨rfl, ⟨nd, rfl⟩⟩) | (go_at_call 34; (with_reducible refine (spec_l2In.calls a0_4 1 31 true _ A12.out).mono ?_); rintro e w' ⟨rfl, ⟨nd, rfl⟩⟩) | (go_at_call 34; (with_reducible refine (spec_l2In.calls a0_5 0 23 false _ A14.out).mono ?_); rintro e w' ⟨rfl, ⟨nd, rfl⟩⟩))
                  go_ret
                  exact ⟨by first | rfl | (simp [errW_none, errW_some] <;> rfl) | (simp [*, errW_none, errW_some] <;> rfl), by repeat (first | (with_reducible first | exact HB.out | apply below_alloc | apply pw_below_drewN | apply below_drew1 | refine below_set ?_ GE117.out) | exact HB.out)⟩
              · replace c13 := Bool.eq_false_iff.mpr c13
                subst c13
                have H1 : (some false) = some r := by rw [if_neg (show ¬ (false = true) by decide)] at H; exact H
                clear H
                have H := H1
                clear H1
                obtain rfl := Option.some.inj H
                go_enter Tryd.func17, Tryd.ntmps17
                go_wp2_with (first | ((with_reducible refine gate_dst (N := 1) rfl ?_); (try (refine gate_guard (by rfl) ?_; dsimp only)); refine box_event ?hg (N := 1) ?hd (cs := #[.string a0_0, .string a0_1, .int .i64 a0_2, .string a0_3, .int .i64 a0_4, .int .i64 a0_5, .int .i64 a0_6, .string a0_7]) (t := 23) ?hr ?_; (case hd => rfl); (case hg => rfl); (case hr => first | (go_simp; done) | (go_simp; rfl)); intro gb117 hg w24 hbox hb; have n0_ := Aside0.mk (below_step (by repeat (first | (with_reducible first | exact HB.out | apply below_alloc | apply pw_below_drewN | apply below_drew1) | exact HB.out)) hb); have n1_ := Aside0.mk (hbox); have n2_ := Aside0.mk ((by rw [hg]; exact (below_size (by repeat (first | (with_reducible first | exact HB.out | apply below_alloc | apply pw_below_drewN | apply below_drew1) | exact HB.out))) : w.heap.size ≤ gb117)); have n3_ := Aside0.mk ((by rw [hg]; exact (below_size (by repeat (first | (with_reducible first | exact HB.out | apply below_alloc | apply pw_below_drewN | apply below_drew1) | exact HB.out))) : w.heap.size ≤ gb117)); clear HB; have HB := n0_; have BK117 := n1_; have GW117 := n2_; have GE117 := n3_; clear n0_ n1_ n2_ n3_; clear hb hbox hg; have hcz25_0 : w24.cell? ⟨gb117, 0, none⟩ = some (.string a0_0) := (blk_cell BK117.out 0).trans rfl; have hcz25_1 : w24.cell? ⟨gb117, 1, none⟩ = some (.string a0_1) := (blk_cell BK117.out 1).trans rfl; have hcz25_2 : w24.cell? ⟨gb117, 2, none⟩ = some (.int .i64 a0_2) := (blk_cell BK117.out 2).trans rfl; have hcz25_3 : w24.cell? ⟨gb117, 3, none⟩ = some (.string a0_3) := (blk_cell BK117.out 3).trans rfl; have hcz25_4 : w24.cell? ⟨gb117, 4, none⟩ = some (.int .i64 a0_4) := (blk_cell BK117.out 4).trans rfl; have hcz25_5 : w24.cell? ⟨gb117, 5, none⟩ = some (.int .i64 a0_5) := (blk_cell BK117.out 5).trans rfl; have hcz25_6 : w24.cell? ⟨gb117, 6, none⟩ = some (.int .i64 a0_6) := (blk_cell BK117.out 6).trans rfl; have hcz25_7 : w24.cell? ⟨gb117, 7, none⟩ = some (.string a0_7) := (blk_cell BK117.out 7).trans rfl; have hfz25_0 := blk_frozen BK117.out 0; have hfz25_1 := blk_frozen BK117.out 1; have hfz25_2 := blk_frozen BK117.out 2; have hfz25_3 := blk_frozen BK117.out 3; have hfz25_4 := blk_frozen BK117.out 4; have hfz25_5 := blk_frozen BK117.out 5; have hfz25_6 := blk_frozen BK117.out 6; have hfz25_7 := blk_frozen BK117.out 7) | ((with_reducible refine gate_callee (f := 33) rfl ?_); refine goesL_ (some 8) rfl rfl Tryd.func33 (by kernel_rfl) rfl #[.string a0_7] rfl (by (try simp only [List.map_toArray, List.map_cons, List.map_nil]); first | done | rfl | (simp only [List.length_drop, List.length_take]; rfl)) ?_; (with_reducible refine (spec_MarkOf.calls k a0_7 t118 t119 _ A2.out).mono ?_); rintro e w' ⟨rfl, ⟨nd, rfl⟩⟩; refine ⟨_, rfl, ?_⟩) | (go_at_call 14; (with_reducible refine (spec_l4Letters.calls k (a0_0 ++ a0_1) true _ A6.out).mono ?_); rintro e w' ⟨rfl, ⟨nd, rfl⟩⟩) | (go_at_call 34; (with_reducible refine (spec_l2In.calls a0_2 0 99 true _ A8.out).mono ?_); rintro e w' ⟨rfl, ⟨nd, rfl⟩⟩) | (go_at_call 16; (with_reducible refine (spec_l4CentreOk.calls k a0_3 true _ A10.out).mono ?_); rintro e w' ⟨rfl, ⟨nd, rfl⟩⟩) | (go_at_call 34; (with_reducible refine (spec_l2In.calls a0_4 1 31 false _ A12.out).mono ?_); rintro e w' ⟨rfl, ⟨nd, rfl⟩⟩))
                go_ret
                exact ⟨by first | rfl | (simp [errW_none, errW_some] <;> rfl) | (simp [*, errW_none, errW_some] <;> rfl), by repeat (first | (with_reducible first | exact HB.out | apply below_alloc | apply pw_below_drewN | apply below_drew1 | refine below_set ?_ GE117.out) | exact HB.out)⟩
            · replace c11 := Bool.eq_false_iff.mpr c11
              subst c11
              have H1 : (some false) = some r := by rw [if_neg (show ¬ (false = true) by decide)] at H; exact H
              clear H
              have H := H1
              clear H1
              obtain rfl := Option.some.inj H
              go_enter Tryd.func17, Tryd.ntmps17
              go_wp2_with (first | ((with_reducible refine gate_dst (N := 1) rfl ?_); (try (refine gate_guard (by rfl) ?_; dsimp only)); refine box_event ?hg (N := 1) ?hd (cs := #[.string a0_0, .string a0_1, .int .i64 a0_2, .string a0_3, .int .i64 a0_4, .int .i64 a0_5, .int .i64 a0_6, .string a0_7]) (t := 23) ?hr ?_; (case hd => rfl); (case hg => rfl); (case hr => first | (go_simp; done) | (go_simp; rfl)); intro gb117 hg w26 hbox hb; have n0_ := Aside0.mk (below_step (by repeat (first | (with_reducible first | exact HB.out | apply below_alloc | apply pw_below_drewN | apply below_drew1) | exact HB.out)) hb); have n1_ := Aside0.mk (hbox); have n2_ := Aside0.mk ((by rw [hg]; exact (below_size (by repeat (first | (with_reducible first | exact HB.out | apply below_alloc | apply pw_below_drewN | apply below_drew1) | exact HB.out))) : w.heap.size ≤ gb117)); have n3_ := Aside0.mk ((by rw [hg]; exact (below_size (by repeat (first | (with_reducible first | exact HB.out | apply below_alloc | apply pw_below_drewN | apply below_drew1) | exact HB.out))) : w.heap.size ≤ gb117)); clear HB; have HB := n0_; have BK117 := n1_; have GW117 := n2_; have GE117 := n3_; clear n0_ n1_ n2_ n3_; clear hb hbox hg; have hcz27_0 : w26.cell? ⟨gb117, 0, none⟩ = some (.string a0_0) := (blk_cell BK117.out 0).trans rfl; have hcz27_1 : w26.cell? ⟨gb117, 1, none⟩ = some (.string a0_1) := (blk_cell BK117.out 1).trans rfl; have hcz27_2 : w26.cell? ⟨gb117, 2, none⟩ = some (.int .i64 a0_2) := (blk_cell BK117.out 2).trans rfl; have hcz27_3 : w26.cell? ⟨gb117, 3, none⟩ = some (.string a0_3) := (blk_cell BK117.out 3).trans rfl; have hcz27_4 : w26.cell? ⟨gb117, 4, none⟩ = some (.int .i64 a0_4) := (blk_cell BK117.out 4).trans rfl; have hcz27_5 : w26.cell? ⟨gb117, 5, none⟩ = some (.int .i64 a0_5) := (blk_cell BK117.out 5).trans rfl; have hcz27_6 : w26.cell? ⟨gb117, 6, none⟩ = some (.int .i64 a0_6) := (blk_cell BK117.out 6).trans rfl; have hcz27_7 : w26.cell? ⟨gb117, 7, none⟩ = some (.string a0_7) := (blk_cell BK117.out 7).trans rfl; have hfz27_0 := blk_frozen BK117.out 0; have hfz27_1 := blk_frozen BK117.out 1; have hfz27_2 := blk_frozen BK117.out 2; have hfz27_3 := blk_frozen BK117.out 3; have hfz27_4 := blk_frozen BK117.out 4; have hfz27_5 := blk_frozen BK117.out 5; have hfz27_6 := blk_frozen BK117.out 6; have hfz27_7 := blk_frozen BK117.out 7) | ((with_reducible refine gate_callee (f := 33) rfl ?_); refine goesL_ (some 8) rfl rfl Tryd.func33 (by kernel_rfl) rfl #[.string a0_7] rfl (by (try simp only [List.map_toArray, List.map_cons, List.map_nil]); first | done | rfl | (simp only [List.length_drop, List.length_take]; rfl)) ?_; (with_reducible refine (spec_MarkOf.calls k a0_7 t118 t119 _ A2.out).mono ?_); rintro e w' ⟨rfl, ⟨nd, rfl⟩⟩; refine ⟨_, rfl, ?_⟩) | (go_at_call 14; (with_reducible refine (spec_l4Letters.calls k (a0_0 ++ a0_1) true _ A6.out).mono ?_); rintro e w' ⟨rfl, ⟨nd, rfl⟩⟩) | (go_at_call 34; (with_reducible refine (spec_l2In.calls a0_2 0 99 true _ A8.out).mono ?_); rintro e w' ⟨rfl, ⟨nd, rfl⟩⟩) | (go_at_call 16; (with_reducible refine (spec_l4CentreOk.calls k a0_3 false _ A10.out).mono ?_); rintro e w' ⟨rfl, ⟨nd, rfl⟩⟩))
              go_ret
              exact ⟨by first | rfl | (simp [errW_none, errW_some] <;> rfl) | (simp [*, errW_none, errW_some] <;> rfl), by repeat (first | (with_reducible first | exact HB.out | apply below_alloc | apply pw_below_drewN | apply below_drew1 | refine below_set ?_ GE117.out) | exact HB.out)⟩
          · replace c9 := Bool.eq_false_iff.mpr c9
            subst c9
            have H1 : (some false) = some r := by rw [if_neg (show ¬ (false = true) by decide)] at H; exact H
            clear H
            have H := H1
            clear H1
            obtain rfl := Option.some.inj H
            go_enter Tryd.func17, Tryd.ntmps17
            go_wp2_with (first | ((with_reducible refine gate_dst (N := 1) rfl ?_); (try (refine gate_guard (by rfl) ?_; dsimp only)); refine box_event ?hg (N := 1) ?hd (cs := #[.string a0_0, .string a0_1, .int .i64 a0_2, .string a0_3, .int .i64 a0_4, .int .i64 a0_5, .int .i64 a0_6, .string a0_7]) (t := 23) ?hr ?_; (case hd => rfl); (case hg => rfl); (case hr => first | (go_simp; done) | (go_simp; rfl)); intro gb117 hg w28 hbox hb; have n0_ := Aside0.mk (below_step (by repeat (first | (with_reducible first | exact HB.out | apply below_alloc | apply pw_below_drewN | apply below_drew1) | exact HB.out)) hb); have n1_ := Aside0.mk (hbox); have n2_ := Aside0.mk ((by rw [hg]; exact (below_size (by repeat (first | (with_reducible first | exact HB.out | apply below_alloc | apply pw_below_drewN | apply below_drew1) | exact HB.out))) : w.heap.size ≤ gb117)); have n3_ := Aside0.mk ((by rw [hg]; exact (below_size (by repeat (first | (with_reducible first | exact HB.out | apply below_alloc | apply pw_below_drewN | apply below_drew1) | exact HB.out))) : w.heap.size ≤ gb117)); clear HB; have HB := n0_; have BK117 := n1_; have GW117 := n2_; have GE117 := n3_; clear n0_ n1_ n2_ n3_; clear hb hbox hg; have hcz29_0 : w28.cell? ⟨gb117, 0, none⟩ = some (.string a0_0) := (blk_cell BK117.out 0).trans rfl; have hcz29_1 : w28.cell? ⟨gb117, 1, none⟩ = some (.string a0_1) := (blk_cell BK117.out 1).trans rfl; have hcz29_2 : w28.cell? ⟨gb117, 2, none⟩ = some (.int .i64 a0_2) := (blk_cell BK117.out 2).trans rfl; have hcz29_3 : w28.cell? ⟨gb117, 3, none⟩ = some (.string a0_3) := (blk_cell BK117.out 3).trans rfl; have hcz29_4 : w28.cell? ⟨gb117, 4, none⟩ = some (.int .i64 a0_4) := (blk_cell BK117.out 4).trans rfl; have hcz29_5 : w28.cell? ⟨gb117, 5, none⟩ = some (.int .i64 a0_5) := (blk_cell BK117.out 5).trans rfl; have hcz29_6 : w28.cell? ⟨gb117, 6, none⟩ = some (.int .i64 a0_6) := (blk_cell BK117.out 6).trans rfl; have hcz29_7 : w28.cell? ⟨gb117, 7, none⟩ = some (.string a0_7) := (blk_cell BK117.out 7).trans rfl; have hfz29_0 := blk_frozen BK117.out 0; have hfz29_1 := blk_frozen BK117.out 1; have hfz29_2 := blk_frozen BK117.out 2; have hfz29_3 := blk_frozen BK117.out 3; have hfz29_4 := blk_frozen BK117.out 4; have hfz29_5 := blk_frozen BK117.out 5; have hfz29_6 := blk_frozen BK117.out 6; have hfz29_7 := blk_frozen BK117.out 7) | ((with_reducible refine gate_callee (f := 33) rfl ?_); refine goesL_ (some 8) rfl rfl Tryd.func33 (by kernel_rfl) rfl #[.string a0_7] rfl (by (try simp only [List.map_toArray, List.map_cons, List.map_nil]); first | done | rfl | (simp only [List.length_drop, List.length_take]; rfl)) ?_; (with_reducible refine (spec_MarkOf.calls k a0_7 t118 t119 _ A2.out).mono ?_); rintro e w' ⟨rfl, ⟨nd, rfl⟩⟩; refine ⟨_, rfl, ?_⟩) | (go_at_call 14; (with_reducible refine (spec_l4Letters.calls k (a0_0 ++ a0_1) true _ A6.out).mono ?_); rintro e w' ⟨rfl, ⟨nd, rfl⟩⟩) | (go_at_call 34; (with_reducible refine (spec_l2In.calls a0_2 0 99 false _ A8.out).mono ?_); rintro e w' ⟨rfl, ⟨nd, rfl⟩⟩))
            go_ret
            exact ⟨by first | rfl | (simp [errW_none, errW_some] <;> rfl) | (simp [*, errW_none, errW_some] <;> rfl), by repeat (first | (with_reducible first | exact HB.out | apply below_alloc | apply pw_below_drewN | apply below_drew1 | refine below_set ?_ GE117.out) | exact HB.out)⟩
        · replace c7 := Bool.eq_false_iff.mpr c7
          subst c7
          have H1 : (some false) = some r := by rw [if_neg (show ¬ (false = true) by decide)] at H; exact H
          clear H
          have H := H1
          clear H1
          obtain rfl := Option.some.inj H
          go_enter Tryd.func17, Tryd.ntmps17
          go_wp2_with (first | ((with_reducible refine gate_dst (N := 1) rfl ?_); (try (refine gate_guard (by rfl) ?_; dsimp only)); refine box_event ?hg (N := 1) ?hd (cs := #[.string a0_0, .string a0_1, .int .i64 a0_2, .string a0_3, .int .i64 a0_4, .int .i64 a0_5, .int .i64 a0_6, .string a0_7]) (t := 23) ?hr ?_; (case hd => rfl); (case hg => rfl); (case hr => first | (go_simp; done) | (go_simp; rfl)); intro gb117 hg w30 hbox hb; have n0_ := Aside0.mk (below_step (by repeat (first | (with_reducible first | exact HB.out | apply below_alloc | apply pw_below_drewN | apply below_drew1) | exact HB.out)) hb); have n1_ := Aside0.mk (hbox); have n2_ := Aside0.mk ((by rw [hg]; exact (below_size (by repeat (first | (with_reducible first | exact HB.out | apply below_alloc | apply pw_below_drewN | apply below_drew1) | exact HB.out))) : w.heap.size ≤ gb117)); have n3_ := Aside0.mk ((by rw [hg]; exact (below_size (by repeat (first | (with_reducible first | exact HB.out | apply below_alloc | apply pw_below_drewN | apply below_drew1) | exact HB.out))) : w.heap.size ≤ gb117)); clear HB; have HB := n0_; have BK117 := n1_; have GW117 := n2_; have GE117 := n3_; clear n0_ n1_ n2_ n3_; clear hb hbox hg; have hcz31_0 : w30.cell? ⟨gb117, 0, none⟩ = some (.string a0_0) := (blk_cell BK117.out 0).trans rfl; have hcz31_1 : w30.cell? ⟨gb117, 1, none⟩ = some (.string a0_1) := (blk_cell BK117.out 1).trans rfl; have hcz31_2 : w30.cell? ⟨gb117, 2, none⟩ = some (.int .i64 a0_2) := (blk_cell BK117.out 2).trans rfl; have hcz31_3 : w30.cell? ⟨gb117, 3, none⟩ = some (.string a0_3) := (blk_cell BK117.out 3).trans rfl; have hcz31_4 : w30.cell? ⟨gb117, 4, none⟩ = some (.int .i64 a0_4) := (blk_cell BK117.out 4).trans rfl; have hcz31_5 : w30.cell? ⟨gb117, 5, none⟩ = some (.int .i64 a0_5) := (blk_cell BK117.out 5).trans rfl; have hcz31_6 : w30.cell? ⟨gb117, 6, none⟩ = some (.int .i64 a0_6) := (blk_cell BK117.out 6).trans rfl; have hcz31_7 : w30.cell? ⟨gb117, 7, none⟩ = some (.string a0_7) := (blk_cell BK117.out 7).trans rfl; have hfz31_0 := blk_frozen BK117.out 0; have hfz31_1 := blk_frozen BK117.out 1; have hfz31_2 := blk_frozen BK117.out 2; have hfz31_3 := blk_frozen BK117.out 3; have hfz31_4 := blk_frozen BK117.out 4; have hfz31_5 := blk_frozen BK117.out 5; have hfz31_6 := blk_frozen BK117.out 6; have hfz31_7 := blk_frozen BK117.out 7) | ((with_reducible refine gate_callee (f := 33) rfl ?_); refine goesL_ (some 8) rfl rfl Tryd.func33 (by kernel_rfl) rfl #[.string a0_7] rfl (by (try simp only [List.map_toArray, List.map_cons, List.map_nil]); first | done | rfl | (simp only [List.length_drop, List.length_take]; rfl)) ?_; (with_reducible refine (spec_MarkOf.calls k a0_7 t118 t119 _ A2.out).mono ?_); rintro e w' ⟨rfl, ⟨nd, rfl⟩⟩; refine ⟨_, rfl, ?_⟩) | (go_at_call 14; (with_reducible refine (spec_l4Letters.calls k (a0_0 ++ a0_1) false _ A6.out).mono ?_); rintro e w' ⟨rfl, ⟨nd, rfl⟩⟩))
          go_ret
          exact ⟨by first | rfl | (simp [errW_none, errW_some] <;> rfl) | (simp [*, errW_none, errW_some] <;> rfl), by repeat (first | (with_reducible first | exact HB.out | apply below_alloc | apply pw_below_drewN | apply below_drew1 | refine below_set ?_ GE117.out) | exact HB.out)⟩
      · rw [if_neg c5] at H
        exact absurd H (by simp)
    · rw [if_neg c4] at H
      have c4b0 : ((a0_1.size : Int) == 2) = false := beq_eq_false_iff_ne.mpr c4
      have c4b1 : ((a0_1.size : Int) != 2) = true := bne_iff_ne.mpr c4
      obtain rfl := Option.some.inj H
      go_enter Tryd.func17, Tryd.ntmps17
      go_wp2_with (first | ((with_reducible refine gate_dst (N := 1) rfl ?_); (try (refine gate_guard (by rfl) ?_; dsimp only)); refine box_event ?hg (N := 1) ?hd (cs := #[.string a0_0, .string a0_1, .int .i64 a0_2, .string a0_3, .int .i64 a0_4, .int .i64 a0_5, .int .i64 a0_6, .string a0_7]) (t := 23) ?hr ?_; (case hd => rfl); (case hg => rfl); (case hr => first | (go_simp; done) | (go_simp; rfl)); intro gb117 hg w32 hbox hb; have n0_ := Aside0.mk (below_step (by repeat (first | (with_reducible first | exact HB.out | apply below_alloc | apply pw_below_drewN | apply below_drew1) | exact HB.out)) hb); have n1_ := Aside0.mk (hbox); have n2_ := Aside0.mk ((by rw [hg]; exact (below_size (by repeat (first | (with_reducible first | exact HB.out | apply below_alloc | apply pw_below_drewN | apply below_drew1) | exact HB.out))) : w.heap.size ≤ gb117)); have n3_ := Aside0.mk ((by rw [hg]; exact (below_size (by repeat (first | (with_reducible first | exact HB.out | apply below_alloc | apply pw_below_drewN | apply below_drew1) | exact HB.out))) : w.heap.size ≤ gb117)); clear HB; have HB := n0_; have BK117 := n1_; have GW117 := n2_; have GE117 := n3_; clear n0_ n1_ n2_ n3_; clear hb hbox hg; have hcz33_0 : w32.cell? ⟨gb117, 0, none⟩ = some (.string a0_0) := (blk_cell BK117.out 0).trans rfl; have hcz33_1 : w32.cell? ⟨gb117, 1, none⟩ = some (.string a0_1) := (blk_cell BK117.out 1).trans rfl; have hcz33_2 : w32.cell? ⟨gb117, 2, none⟩ = some (.int .i64 a0_2) := (blk_cell BK117.out 2).trans rfl; have hcz33_3 : w32.cell? ⟨gb117, 3, none⟩ = some (.string a0_3) := (blk_cell BK117.out 3).trans rfl; have hcz33_4 : w32.cell? ⟨gb117, 4, none⟩ = some (.int .i64 a0_4) := (blk_cell BK117.out 4).trans rfl; have hcz33_5 : w32.cell? ⟨gb117, 5, none⟩ = some (.int .i64 a0_5) := (blk_cell BK117.out 5).trans rfl; have hcz33_6 : w32.cell? ⟨gb117, 6, none⟩ = some (.int .i64 a0_6) := (blk_cell BK117.out 6).trans rfl; have hcz33_7 : w32.cell? ⟨gb117, 7, none⟩ = some (.string a0_7) := (blk_cell BK117.out 7).trans rfl; have hfz33_0 := blk_frozen BK117.out 0; have hfz33_1 := blk_frozen BK117.out 1; have hfz33_2 := blk_frozen BK117.out 2; have hfz33_3 := blk_frozen BK117.out 3; have hfz33_4 := blk_frozen BK117.out 4; have hfz33_5 := blk_frozen BK117.out 5; have hfz33_6 := blk_frozen BK117.out 6; have hfz33_7 := blk_frozen BK117.out 7) | ((with_reducible refine gate_callee (f := 33) rfl ?_); refine goesL_ (some 8) rfl rfl Tryd.func33 (by kernel_rfl) rfl #[.string a0_7] rfl (by (try simp only [List.map_toArray, List.map_cons, List.map_nil]); first | done | rfl | (simp only [List.length_drop, List.length_take]; rfl)) ?_; (with_reducible refine (spec_MarkOf.calls k a0_7 t118 t119 _ A2.out).mono ?_); rintro e w' ⟨rfl, ⟨nd, rfl⟩⟩; refine ⟨_, rfl, ?_⟩))
      go_ret
      exact ⟨by first | rfl | (simp [errW_none, errW_some] <;> rfl) | (simp [*, errW_none, errW_some] <;> rfl), by repeat (first | (with_reducible first | exact HB.out | apply below_alloc | apply pw_below_drewN | apply below_drew1 | refine below_set ?_ GE117.out) | exact HB.out)⟩
  · rw [if_neg c3] at H
    have c3b0 : ((a0_0.size : Int) == 2) = false := beq_eq_false_iff_ne.mpr c3
    have c3b1 : ((a0_0.size : Int) != 2) = true := bne_iff_ne.mpr c3
    obtain rfl := Option.some.inj H
    go_enter Tryd.func17, Tryd.ntmps17
    go_wp2_with (first | ((with_reducible refine gate_dst (N := 1) rfl ?_); (try (refine gate_guard (by rfl) ?_; dsimp only)); refine box_event ?hg (N := 1) ?hd (cs := #[.string a0_0, .string a0_1, .int .i64 a0_2, .string a0_3, .int .i64 a0_4, .int .i64 a0_5, .int .i64 a0_6, .string a0_7]) (t := 23) ?hr ?_; (case hd => rfl); (case hg => rfl); (case hr => first | (go_simp; done) | (go_simp; rfl)); intro gb117 hg w34 hbox hb; have n0_ := Aside0.mk (below_step (by repeat (first | (with_reducible first | exact HB.out | apply below_alloc | apply pw_below_drewN | apply below_drew1) | exact HB.out)) hb); have n1_ := Aside0.mk (hbox); have n2_ := Aside0.mk ((by rw [hg]; exact (below_size (by repeat (first | (with_reducible first | exact HB.out | apply below_alloc | apply pw_below_drewN | apply below_drew1) | exact HB.out))) : w.heap.size ≤ gb117)); have n3_ := Aside0.mk ((by rw [hg]; exact (below_size (by repeat (first | (with_reducible first | exact HB.out | apply below_alloc | apply pw_below_drewN | apply below_drew1) | exact HB.out))) : w.heap.size ≤ gb117)); clear HB; have HB := n0_; have BK117 := n1_; have GW117 := n2_; have GE117 := n3_; clear n0_ n1_ n2_ n3_; clear hb hbox hg; have hcz35_0 : w34.cell? ⟨gb117, 0, none⟩ = some (.string a0_0) := (blk_cell BK117.out 0).trans rfl; have hcz35_1 : w34.cell? ⟨gb117, 1, none⟩ = some (.string a0_1) := (blk_cell BK117.out 1).trans rfl; have hcz35_2 : w34.cell? ⟨gb117, 2, none⟩ = some (.int .i64 a0_2) := (blk_cell BK117.out 2).trans rfl; have hcz35_3 : w34.cell? ⟨gb117, 3, none⟩ = some (.string a0_3) := (blk_cell BK117.out 3).trans rfl; have hcz35_4 : w34.cell? ⟨gb117, 4, none⟩ = some (.int .i64 a0_4) := (blk_cell BK117.out 4).trans rfl; have hcz35_5 : w34.cell? ⟨gb117, 5, none⟩ = some (.int .i64 a0_5) := (blk_cell BK117.out 5).trans rfl; have hcz35_6 : w34.cell? ⟨gb117, 6, none⟩ = some (.int .i64 a0_6) := (blk_cell BK117.out 6).trans rfl; have hcz35_7 : w34.cell? ⟨gb117, 7, none⟩ = some (.string a0_7) := (blk_cell BK117.out 7).trans rfl; have hfz35_0 := blk_frozen BK117.out 0; have hfz35_1 := blk_frozen BK117.out 1; have hfz35_2 := blk_frozen BK117.out 2; have hfz35_3 := blk_frozen BK117.out 3; have hfz35_4 := blk_frozen BK117.out 4; have hfz35_5 := blk_frozen BK117.out 5; have hfz35_6 := blk_frozen BK117.out 6; have hfz35_7 := blk_frozen BK117.out 7) | ((with_reducible refine gate_callee (f := 33) rfl ?_); refine goesL_ (some 8) rfl rfl Tryd.func33 (by kernel_rfl) rfl #[.string a0_7] rfl (by (try simp only [List.map_toArray, List.map_cons, List.map_nil]); first | done | rfl | (simp only [List.length_drop, List.length_take]; rfl)) ?_; (with_reducible refine (spec_MarkOf.calls k a0_7 t118 t119 _ A2.out).mono ?_); rintro e w' ⟨rfl, ⟨nd, rfl⟩⟩; refine ⟨_, rfl, ?_⟩))
    go_ret
    exact ⟨by first | rfl | (simp [errW_none, errW_some] <;> rfl) | (simp [*, errW_none, errW_some] <;> rfl), by repeat (first | (with_reducible first | exact HB.out | apply below_alloc | apply pw_below_drewN | apply below_drew1 | refine below_set ?_ GE117.out) | exact HB.out)⟩

/-! ### impl_capitals: function 19 -/
def impl_capitals.l0 : Nat → ByteArray → Int → Int → Option (Bool)
  | 0, _, _, _ => none
  | k + 1, x0, x1, x5 => if x5 < (x0.size : Int) then (if 0 ≤ x5 then (if (bt x0 x5) < 65 then (some false) else (if (bt x0 x5) > 90 then (some false) else (impl_capitals.l0 k x0 x1 (wrap64 (x5 + 1))))) else (none)) else (some ((x0.size : Int) == x1))
def impl_capitals.f (k : Nat) (a0 : ByteArray) (a1 : Int) : Option (Bool) := impl_capitals.l0 k a0 a1 0
theorem impl_capitals.mono_l : ∀ k, (∀ y0 y1 y2, LeO (impl_capitals.l0 k y0 y1 y2) (impl_capitals.l0 (k + 1) y0 y1 y2))
  | 0 => fun _ _ _ r h => by simp [impl_capitals.l0] at h
  | k + 1 => by
    have ih0 := impl_capitals.mono_l k
    · intro y0 y1 y2
      unfold impl_capitals.l0
      repeat' first
      | (with_reducible exact ih0 _ _ _)
      | (with_reducible exact LeO.refl _)
      | (with_reducible exact LeO.none _)
      | (with_reducible refine LeO.ite ?_ ?_)
      | (with_reducible refine LeO.bind ?_ (fun _ => ?_))
      | exact ih0 _ _ _
      | exact LeO.none _
      | refine LeO.ite ?_ ?_
      | refine LeO.bind ?_ (fun _ => ?_)
theorem impl_capitals.mono : ∀ a0 a1 k, LeO (impl_capitals.f k a0 a1) (impl_capitals.f (k + 1) a0 a1) := by
  intro a0 a1 k
  have ih0 := impl_capitals.mono_l k
  unfold impl_capitals.f
  repeat' first
      | (with_reducible exact ih0 _ _ _)
      | (with_reducible exact LeO.refl _)
      | (with_reducible exact LeO.none _)
      | (with_reducible refine LeO.ite ?_ ?_)
      | (with_reducible refine LeO.bind ?_ (fun _ => ?_))
      | exact ih0 _ _ _
      | exact LeO.none _
      | refine LeO.ite ?_ ?_
      | refine LeO.bind ?_ (fun _ => ?_)
set_option maxHeartbeats 8000000 in
set_option maxRecDepth 100000 in
theorem impl_capitals.calls (k : Nat) (a0 : ByteArray) (a1 : Int) (r : Bool) (w : World) (h : impl_capitals.f k a0 a1 = some r) :
    Calls Tryd.prog 19 #[.string a0, .int .i64 a1] w fun e w' => e = .returned (.bool r) ∧ Drawn0 w w' := by
  have H : (impl_capitals.l0 k a0 a1 0) = some r := h
  clear h
  have H' := Aside0.mk H
  clear H
  go_enter Tryd.func19, Tryd.ntmps19
  go_wp2
  go_loopg [5] k (fun kq v5 w' => ∃ (x5_1 : Int), v5 = .int .i64 x5_1 ∧ Aside0 (impl_capitals.l0 kq a0 a1 x5_1 = some r) ∧ Aside0 (kq ≤ k) ∧ Drawn0 w w')
  case atStart => exact ⟨(0), (by first | rfl | (simp; done) | (simp [*]; done)), H', ⟨Nat.le_refl _⟩, by repeat (first | exact Drawn0.refl _ | apply Drawn0.step)⟩
  case round =>
    clear H'
    try clear c1
    try clear p2
    obtain ⟨x5_1, rfl, HA, HK1, ⟨m1, rfl⟩⟩ := hrel
    cases gk with
    | zero => exact absurd HA.out (by simp [impl_capitals.l0])
    | succ k1 =>
      have H := HA.out
      clear HA
      simp only [impl_capitals.l0] at H
      by_cases c3 : x5_1 < (a0.size : Int)
      · rw [if_pos c3] at H
        have c3b0 : decide (x5_1 < (a0.size : Int)) = true := decide_eq_true c3
        clear c3
        by_cases c4 : 0 ≤ x5_1
        · rw [if_pos c4] at H
          have c4b0 : decide (0 ≤ x5_1) = true := decide_eq_true c4
          clear c4
          by_cases c6 : (bt a0 x5_1) < 65
          · rw [if_pos c6] at H
            have c6b0 : decide ((bt a0 x5_1) < 65) = true := decide_eq_true c6
            clear c6
            obtain rfl := Option.some.inj H
            have p5 : 0 ≤ (x5_1 : Int) := of_decide_eq_true (by first | (with_reducible assumption) | assumption)
            have q5 : x5_1 < (a0.size : Int) := of_decide_eq_true (by first | (with_reducible assumption) | assumption)
            have hx5 := bt_at a0 x5_1
            replace p5 := eq_true p5
            replace q5 := eq_true q5
            go_wp2
            go_ret
            exact ⟨by first | rfl | (simp; done) | (simp [*]; done), by repeat (first | exact Drawn0.refl _ | apply Drawn0.step)⟩
          · rw [if_neg c6] at H
            have c6b0 : decide ((bt a0 x5_1) < 65) = false := decide_eq_false c6
            clear c6
            by_cases c8 : (bt a0 x5_1) > 90
            · rw [if_pos c8] at H
              have c8b0 : decide (90 < (bt a0 x5_1)) = true := decide_eq_true c8
              clear c8
              obtain rfl := Option.some.inj H
              have p5 : 0 ≤ (x5_1 : Int) := of_decide_eq_true (by first | (with_reducible assumption) | assumption)
              have q5 : x5_1 < (a0.size : Int) := of_decide_eq_true (by first | (with_reducible assumption) | assumption)
              have hx5 := bt_at a0 x5_1
              replace p5 := eq_true p5
              replace q5 := eq_true q5
              have p7 : 0 ≤ (x5_1 : Int) := of_decide_eq_true (by first | (with_reducible assumption) | assumption)
              have q7 : x5_1 < (a0.size : Int) := of_decide_eq_true (by first | (with_reducible assumption) | assumption)
              have hx7 := bt_at a0 x5_1
              replace p7 := eq_true p7
              replace q7 := eq_true q7
              go_wp2
              go_ret
              exact ⟨by first | rfl | (simp; done) | (simp [*]; done), by repeat (first | exact Drawn0.refl _ | apply Drawn0.step)⟩
            · rw [if_neg c8] at H
              have c8b0 : decide (90 < (bt a0 x5_1)) = false := decide_eq_false c8
              clear c8
              have H' := Aside0.mk H
              clear H
              have p5 : 0 ≤ (x5_1 : Int) := of_decide_eq_true (by first | (with_reducible assumption) | assumption)
              have q5 : x5_1 < (a0.size : Int) := of_decide_eq_true (by first | (with_reducible assumption) | assumption)
              have hx5 := bt_at a0 x5_1
              replace p5 := eq_true p5
              replace q5 := eq_true q5
              have p7 : 0 ≤ (x5_1 : Int) := of_decide_eq_true (by first | (with_reducible assumption) | assumption)
              have q7 : x5_1 < (a0.size : Int) := of_decide_eq_true (by first | (with_reducible assumption) | assumption)
              have hx7 := bt_at a0 x5_1
              replace p7 := eq_true p7
              replace q7 := eq_true q7
              go_wp2
              go_roundg k1
              case measure => have := HK1.out; omega
              case rel => exact ⟨(wrap64 (x5_1 + 1)), (by first | rfl | (simp; done) | (simp [*]; done)), H', ⟨by have := HK1.out; omega⟩, by repeat (first | exact Drawn0.refl _ | apply Drawn0.step)⟩
        · rw [if_neg c4] at H
          exact absurd H (by simp)
      · rw [if_neg c3] at H
        have c3b0 : decide (x5_1 < (a0.size : Int)) = false := decide_eq_false c3
        clear c3
        obtain rfl := Option.some.inj H
        go_wp2
        go_ret
        exact ⟨by first | rfl | (simp; done) | (simp [*]; done), by repeat (first | exact Drawn0.refl _ | apply Drawn0.step)⟩

/-! ### impl_digits: function 20 -/
def impl_digits.l0 : Nat → ByteArray → Int → Option (Bool)
  | 0, _, _ => none
  | k + 1, x0, x3 => if x3 < (x0.size : Int) then (if 0 ≤ x3 then (if (bt x0 x3) < 48 then (some false) else (if (bt x0 x3) > 57 then (some false) else (impl_digits.l0 k x0 (wrap64 (x3 + 1))))) else (none)) else (some (decide ((x0.size : Int) > 0)))
def impl_digits.f (k : Nat) (a0 : ByteArray) : Option (Bool) := impl_digits.l0 k a0 0
theorem impl_digits.mono_l : ∀ k, (∀ y0 y1, LeO (impl_digits.l0 k y0 y1) (impl_digits.l0 (k + 1) y0 y1))
  | 0 => fun _ _ r h => by simp [impl_digits.l0] at h
  | k + 1 => by
    have ih0 := impl_digits.mono_l k
    · intro y0 y1
      unfold impl_digits.l0
      repeat' first
      | (with_reducible exact ih0 _ _)
      | (with_reducible exact LeO.refl _)
      | (with_reducible exact LeO.none _)
      | (with_reducible refine LeO.ite ?_ ?_)
      | (with_reducible refine LeO.bind ?_ (fun _ => ?_))
      | exact ih0 _ _
      | exact LeO.none _
      | refine LeO.ite ?_ ?_
      | refine LeO.bind ?_ (fun _ => ?_)
theorem impl_digits.mono : ∀ a0 k, LeO (impl_digits.f k a0) (impl_digits.f (k + 1) a0) := by
  intro a0 k
  have ih0 := impl_digits.mono_l k
  unfold impl_digits.f
  repeat' first
      | (with_reducible exact ih0 _ _)
      | (with_reducible exact LeO.refl _)
      | (with_reducible exact LeO.none _)
      | (with_reducible refine LeO.ite ?_ ?_)
      | (with_reducible refine LeO.bind ?_ (fun _ => ?_))
      | exact ih0 _ _
      | exact LeO.none _
      | refine LeO.ite ?_ ?_
      | refine LeO.bind ?_ (fun _ => ?_)
set_option maxHeartbeats 8000000 in
set_option maxRecDepth 100000 in
theorem impl_digits.calls (k : Nat) (a0 : ByteArray) (r : Bool) (w : World) (h : impl_digits.f k a0 = some r) :
    Calls Tryd.prog 20 #[.string a0] w fun e w' => e = .returned (.bool r) ∧ Drawn0 w w' := by
  have H : (impl_digits.l0 k a0 0) = some r := h
  clear h
  have H' := Aside0.mk H
  clear H
  go_enter Tryd.func20, Tryd.ntmps20
  go_wp2
  go_loopg [3] k (fun kq v3 w' => ∃ (x3_1 : Int), v3 = .int .i64 x3_1 ∧ Aside0 (impl_digits.l0 kq a0 x3_1 = some r) ∧ Aside0 (kq ≤ k) ∧ Drawn0 w w')
  case atStart => exact ⟨(0), (by first | rfl | (simp; done) | (simp [*]; done)), H', ⟨Nat.le_refl _⟩, by repeat (first | exact Drawn0.refl _ | apply Drawn0.step)⟩
  case round =>
    clear H'
    obtain ⟨x3_1, rfl, HA, HK1, ⟨m1, rfl⟩⟩ := hrel
    cases gk with
    | zero => exact absurd HA.out (by simp [impl_digits.l0])
    | succ k1 =>
      have H := HA.out
      clear HA
      simp only [impl_digits.l0] at H
      by_cases c2 : x3_1 < (a0.size : Int)
      · rw [if_pos c2] at H
        have c2b0 : decide (x3_1 < (a0.size : Int)) = true := decide_eq_true c2
        clear c2
        by_cases c3 : 0 ≤ x3_1
        · rw [if_pos c3] at H
          have c3b0 : decide (0 ≤ x3_1) = true := decide_eq_true c3
          clear c3
          by_cases c5 : (bt a0 x3_1) < 48
          · rw [if_pos c5] at H
            have c5b0 : decide ((bt a0 x3_1) < 48) = true := decide_eq_true c5
            clear c5
            obtain rfl := Option.some.inj H
            have p4 : 0 ≤ (x3_1 : Int) := of_decide_eq_true (by first | (with_reducible assumption) | assumption)
            have q4 : x3_1 < (a0.size : Int) := of_decide_eq_true (by first | (with_reducible assumption) | assumption)
            have hx4 := bt_at a0 x3_1
            replace p4 := eq_true p4
            replace q4 := eq_true q4
            go_wp2
            go_ret
            exact ⟨by first | rfl | (simp; done) | (simp [*]; done), by repeat (first | exact Drawn0.refl _ | apply Drawn0.step)⟩
          · rw [if_neg c5] at H
            have c5b0 : decide ((bt a0 x3_1) < 48) = false := decide_eq_false c5
            clear c5
            by_cases c7 : (bt a0 x3_1) > 57
            · rw [if_pos c7] at H
              have c7b0 : decide (57 < (bt a0 x3_1)) = true := decide_eq_true c7
              clear c7
              obtain rfl := Option.some.inj H
              have p4 : 0 ≤ (x3_1 : Int) := of_decide_eq_true (by first | (with_reducible assumption) | assumption)
              have q4 : x3_1 < (a0.size : Int) := of_decide_eq_true (by first | (with_reducible assumption) | assumption)
              have hx4 := bt_at a0 x3_1
              replace p4 := eq_true p4
              replace q4 := eq_true q4
              have p6 : 0 ≤ (x3_1 : Int) := of_decide_eq_true (by first | (with_reducible assumption) | assumption)
              have q6 : x3_1 < (a0.size : Int) := of_decide_eq_true (by first | (with_reducible assumption) | assumption)
              have hx6 := bt_at a0 x3_1
              replace p6 := eq_true p6
              replace q6 := eq_true q6
              go_wp2
              go_ret
              exact ⟨by first | rfl | (simp; done) | (simp [*]; done), by repeat (first | exact Drawn0.refl _ | apply Drawn0.step)⟩
            · rw [if_neg c7] at H
              have c7b0 : decide (57 < (bt a0 x3_1)) = false := decide_eq_false c7
              clear c7
              have H' := Aside0.mk H
              clear H
              have p4 : 0 ≤ (x3_1 : Int) := of_decide_eq_true (by first | (with_reducible assumption) | assumption)
              have q4 : x3_1 < (a0.size : Int) := of_decide_eq_true (by first | (with_reducible assumption) | assumption)
              have hx4 := bt_at a0 x3_1
              replace p4 := eq_true p4
              replace q4 := eq_true q4
              have p6 : 0 ≤ (x3_1 : Int) := of_decide_eq_true (by first | (with_reducible assumption) | assumption)
              have q6 : x3_1 < (a0.size : Int) := of_decide_eq_true (by first | (with_reducible assumption) | assumption)
              have hx6 := bt_at a0 x3_1
              replace p6 := eq_true p6
              replace q6 := eq_true q6
              go_wp2
              go_roundg k1
              case measure => have := HK1.out; omega
              case rel => exact ⟨(wrap64 (x3_1 + 1)), (by first | rfl | (simp; done) | (simp [*]; done)), H', ⟨by have := HK1.out; omega⟩, by repeat (first | exact Drawn0.refl _ | apply Drawn0.step)⟩
        · rw [if_neg c3] at H
          exact absurd H (by simp)
      · rw [if_neg c2] at H
        have c2b0 : decide (x3_1 < (a0.size : Int)) = false := decide_eq_false c2
        clear c2
        obtain rfl := Option.some.inj H
        go_wp2
        go_ret
        exact ⟨by first | rfl | (simp; done) | (simp [*]; done), by repeat (first | exact Drawn0.refl _ | apply Drawn0.step)⟩

/-! ### impl_centreOk: function 22 -/
mutual
def impl_centreOk.j0 : Nat → ByteArray → Bool → Option (Bool)
  | 0, _, _ => none
  | k + 1, x0, x12 => if x12 = true then (some false) else (impl_centreOk.l0 k x0 1)
def impl_centreOk.l0 : Nat → ByteArray → Int → Option (Bool)
  | 0, _, _ => none
  | k + 1, x0, x3 => if x3 < 4 then (if 0 ≤ x3 then (if x3 ≤ (wrap64 (x3 + 1)) then (if (wrap64 (x3 + 1)) ≤ (x0.size : Int) then ((impl_capitals.f k (x0.extract (x3 : Int).toNat ((wrap64 (x3 + 1)) : Int).toNat) 1).bind fun t127 => (if t127 = true then (impl_centreOk.l0 k x0 (wrap64 (x3 + 1))) else ((impl_digits.f k (x0.extract (x3 : Int).toNat ((wrap64 (x3 + 1)) : Int).toNat)).bind fun t128 => (if t128 = true then (impl_centreOk.l0 k x0 (wrap64 (x3 + 1))) else (some false))))) else (none)) else (none)) else (none)) else (some true)
end
def impl_centreOk.f (k : Nat) (a0 : ByteArray) : Option (Bool) := if (a0.size : Int) = 4 then (if 0 ≤ 1 then (if 1 ≤ (a0.size : Int) then ((impl_capitals.f k (a0.extract 0 1) 1).bind fun t126 => (impl_centreOk.j0 k a0 (!t126))) else (none)) else (none)) else (impl_centreOk.j0 k a0 true)
theorem impl_centreOk.mono_l : ∀ k, (∀ y0 y1, LeO (impl_centreOk.j0 k y0 y1) (impl_centreOk.j0 (k + 1) y0 y1)) ∧ (∀ y0 y1, LeO (impl_centreOk.l0 k y0 y1) (impl_centreOk.l0 (k + 1) y0 y1))
  | 0 => ⟨fun _ _ r h => by simp [impl_centreOk.j0] at h, fun _ _ r h => by simp [impl_centreOk.l0] at h⟩
  | k + 1 => by
    obtain ⟨ih0, ih1⟩ := impl_centreOk.mono_l k
    refine ⟨?_, ?_⟩
    · intro y0 y1
      unfold impl_centreOk.j0
      repeat' first
      | (with_reducible exact ih0 _ _)
      | (with_reducible exact ih1 _ _)
      | (with_reducible exact impl_capitals.mono _ _ _)
      | (with_reducible exact impl_digits.mono _ _)
      | (with_reducible exact LeO.refl _)
      | (with_reducible exact LeO.none _)
      | (with_reducible refine LeO.ite ?_ ?_)
      | (with_reducible refine LeO.bind ?_ (fun _ => ?_))
      | exact ih0 _ _
      | exact ih1 _ _
      | exact impl_capitals.mono _ _ _
      | exact impl_digits.mono _ _
      | exact LeO.none _
      | refine LeO.ite ?_ ?_
      | refine LeO.bind ?_ (fun _ => ?_)
    · intro y0 y1
      unfold impl_centreOk.l0
      repeat' first
      | (with_reducible exact ih0 _ _)
      | (with_reducible exact ih1 _ _)
      | (with_reducible exact impl_capitals.mono _ _ _)
      | (with_reducible exact impl_digits.mono _ _)
      | (with_reducible exact LeO.refl _)
      | (with_reducible exact LeO.none _)
      | (with_reducible refine LeO.ite ?_ ?_)
      | (with_reducible refine LeO.bind ?_ (fun _ => ?_))
      | exact ih0 _ _
      | exact ih1 _ _
      | exact impl_capitals.mono _ _ _
      | exact impl_digits.mono _ _
      | exact LeO.none _
      | refine LeO.ite ?_ ?_
      | refine LeO.bind ?_ (fun _ => ?_)
theorem impl_centreOk.mono : ∀ a0 k, LeO (impl_centreOk.f k a0) (impl_centreOk.f (k + 1) a0) := by
  intro a0 k
  obtain ⟨ih0, ih1⟩ := impl_centreOk.mono_l k
  unfold impl_centreOk.f
  repeat' first
      | (with_reducible exact ih0 _ _)
      | (with_reducible exact ih1 _ _)
      | (with_reducible exact impl_capitals.mono _ _ _)
      | (with_reducible exact impl_digits.mono _ _)
      | (with_reducible exact LeO.refl _)
      | (with_reducible exact LeO.none _)
      | (with_reducible refine LeO.ite ?_ ?_)
      | (with_reducible refine LeO.bind ?_ (fun _ => ?_))
      | exact ih0 _ _
      | exact ih1 _ _
      | exact impl_capitals.mono _ _ _
      | exact impl_digits.mono _ _
      | exact LeO.none _
      | refine LeO.ite ?_ ?_
      | refine LeO.bind ?_ (fun _ => ?_)
set_option maxHeartbeats 8000000 in
set_option maxRecDepth 100000 in
theorem impl_centreOk.calls (k : Nat) (a0 : ByteArray) (r : Bool) (w : World) (h : impl_centreOk.f k a0 = some r) :
    Calls Tryd.prog 22 #[.string a0] w fun e w' => e = .returned (.bool r) ∧ Drawn0 w w' := by
  have H : (if (a0.size : Int) = 4 then (if 0 ≤ 1 then (if 1 ≤ (a0.size : Int) then ((impl_capitals.f k (a0.extract 0 1) 1).bind fun t126 => (impl_centreOk.j0 k a0 (!t126))) else (none)) else (none)) else (impl_centreOk.j0 k a0 true)) = some r := h
  clear h
  have HC2 := Aside0.mk H
  clear H
  go_enter Tryd.func22, Tryd.ntmps22
  go_upto_region 1 with (fail)
  go_cut [12] (fun v12 wc => ∃ (kq : Nat) (x12_1 : Bool), v12 = .bool x12_1 ∧ Aside0 (impl_centreOk.j0 kq a0 x12_1 = some r) ∧ Aside0 (kq ≤ k) ∧ Drawn0 w wc)
  case first =>
    have H := HC2.out
    clear HC2
    by_cases c3 : (a0.size : Int) = 4
    · rw [if_pos c3] at H
      have c3b0 : ((a0.size : Int) == 4) = true := beq_iff_eq.mpr c3
      have c3b1 : ((a0.size : Int) != 4) = false := bne_eq_false_iff_eq.mpr c3
      clear c3
      (first | rw [c3b0] | (simp only [i64_w, i32_w]; rw [c3b0]) | skip)
      by_cases c4 : 0 ≤ 1
      · rw [if_pos c4] at H
        have c4b0 := eq_true c4
        have c4b1 : decide (0 ≤ 1) = true := decide_eq_true c4
        clear c4
        by_cases c5 : 1 ≤ (a0.size : Int)
        · rw [if_pos c5] at H
          have c5b0 := eq_true c5
          have c5b1 : decide (1 ≤ (a0.size : Int)) = true := decide_eq_true c5
          clear c5
          replace H := Option.bind_eq_some_iff.mp H
          obtain ⟨t126, A60, H⟩ := H
          replace H : (impl_centreOk.j0 k a0 (!t126)) = some r := H
          have A6 := Aside0.mk A60
          clear A60
          have H' := Aside0.mk H
          clear H
          go_wp2_with (first | (go_at_call 19; (with_reducible refine (impl_capitals.calls k (a0.extract 0 1) 1 t126 _ A6.out).mono ?_); rintro e w' ⟨rfl, ⟨nd, rfl⟩⟩))
          go_meet
          case rel => exact ⟨_, (!t126), (by first | rfl | (simp; done) | (simp [*]; done)), H', ⟨by first | omega | exact Nat.le_refl _⟩, by repeat (first | exact Drawn0.refl _ | apply Drawn0.step)⟩
        · rw [if_neg c5] at H
          exact absurd H (by simp)
      · rw [if_neg c4] at H
        exact absurd H (by simp)
    · rw [if_neg c3] at H
      have c3b0 : ((a0.size : Int) == 4) = false := beq_eq_false_iff_ne.mpr c3
      have c3b1 : ((a0.size : Int) != 4) = true := bne_iff_ne.mpr c3
      (first | rw [c3b0] | (simp only [i64_w, i32_w]; rw [c3b0]) | skip)
      have H' := Aside0.mk H
      clear H
      go_wp2
      go_meet
      case rel => exact ⟨_, (true), (by first | rfl | (simp; done) | (simp [*]; done)), H', ⟨by first | omega | exact Nat.le_refl _⟩, by repeat (first | exact Drawn0.refl _ | apply Drawn0.step)⟩
  case rest =>
    clear HC2
    try clear c2
    try clear p2
    try clear c3
    try clear c3b0
    try clear c3b1
    try clear c4
    try clear c4b0
    try clear c4b1
    try clear c5
    try clear c5b0
    try clear c5b1
    obtain ⟨kq, x12_1, rfl, HA, HJ1, ⟨mc1, rfl⟩⟩ := hcut
    cases kq with
    | zero => exact absurd HA.out (by simp [impl_centreOk.j0])
    | succ kj1 =>
      have H := HA.out
      clear HA
      simp only [impl_centreOk.j0] at H
      by_cases c7 : x12_1 = true
      · subst c7
        have H1 : (some false) = some r := by rw [if_pos rfl] at H; exact H
        clear H
        have H := H1
        clear H1
        obtain rfl := Option.some.inj H
        go_wp2
        go_ret
        exact ⟨by first | rfl | (simp; done) | (simp [*]; done), by repeat (first | exact Drawn0.refl _ | apply Drawn0.step)⟩
      · replace c7 := Bool.eq_false_iff.mpr c7
        subst c7
        have H1 : (impl_centreOk.l0 kj1 a0 1) = some r := by rw [if_neg (show ¬ (false = true) by decide)] at H; exact H
        clear H
        have H := H1
        clear H1
        have H' := Aside0.mk H
        clear H
        go_wp2
        go_loopg [3] kj1 (fun kq v3 w' => ∃ (x3_2 : Int), v3 = .int .i64 x3_2 ∧ Aside0 (impl_centreOk.l0 kq a0 x3_2 = some r) ∧ Aside0 (kq ≤ kj1) ∧ Drawn0 w w')
        case atStart => exact ⟨(1), (by first | rfl | (simp; done) | (simp [*]; done)), H', ⟨Nat.le_refl _⟩, by repeat (first | exact Drawn0.refl _ | apply Drawn0.step)⟩
        case round =>
          clear H'
          try clear c1
          try clear c2
          try clear p2
          try clear c3
          try clear c3b0
          try clear c3b1
          try clear c4
          try clear c4b0
          try clear c4b1
          try clear c5
          try clear c5b0
          try clear c5b1
          try clear c7
          try clear p2
          obtain ⟨x3_2, rfl, HA, HK2, ⟨m2, rfl⟩⟩ := hrel
          cases gk with
          | zero => exact absurd HA.out (by simp [impl_centreOk.l0])
          | succ k2 =>
            have H := HA.out
            clear HA
            simp only [impl_centreOk.l0] at H
            by_cases c8 : x3_2 < 4
            · rw [if_pos c8] at H
              have c8b0 : decide (x3_2 < 4) = true := decide_eq_true c8
              clear c8
              by_cases c9 : 0 ≤ x3_2
              · rw [if_pos c9] at H
                have c9b0 := eq_true c9
                have c9b1 : decide (0 ≤ x3_2) = true := decide_eq_true c9
                clear c9
                by_cases c10 : x3_2 ≤ (wrap64 (x3_2 + 1))
                · rw [if_pos c10] at H
                  have c10b0 := eq_true c10
                  have c10b1 : decide (x3_2 ≤ (wrap64 (x3_2 + 1))) = true := decide_eq_true c10
                  by_cases c11 : (wrap64 (x3_2 + 1)) ≤ (a0.size : Int)
                  · rw [if_pos c11] at H
                    have c11b0 := eq_true c11
                    have c11b1 : decide ((wrap64 (x3_2 + 1)) ≤ (a0.size : Int)) = true := decide_eq_true c11
                    replace H := Option.bind_eq_some_iff.mp H
                    obtain ⟨t127, A120, H⟩ := H
                    replace H : (if t127 = true then (impl_centreOk.l0 k2 a0 (wrap64 (x3_2 + 1))) else ((impl_digits.f k2 (a0.extract (x3_2 : Int).toNat ((wrap64 (x3_2 + 1)) : Int).toNat)).bind fun t128 => (if t128 = true then (impl_centreOk.l0 k2 a0 (wrap64 (x3_2 + 1))) else (some false)))) = some r := H
                    have A12 := Aside0.mk A120
                    clear A120
                    by_cases c13 : t127 = true
                    · subst c13
                      have H1 : (impl_centreOk.l0 k2 a0 (wrap64 (x3_2 + 1))) = some r := by rw [if_pos rfl] at H; exact H
                      clear H
                      have H := H1
                      clear H1
                      have H' := Aside0.mk H
                      clear H
                      go_wp2_with (first | ((with_reducible refine gate_callee (f := 19) rfl ?_); refine goesL_ (some 22) rfl rfl Tryd.func19 (by kernel_rfl) rfl #[.string (a0.extract (x3_2 : Int).toNat ((wrap64 (x3_2 + 1)) : Int).toNat), .int .i64 1] rfl (by (try simp only [List.map_toArray, List.map_cons, List.map_nil]); first | done | rfl | (simp only [List.length_drop, List.length_take]; rfl)) ?_; (with_reducible refine (impl_capitals.calls k2 (a0.extract (x3_2 : Int).toNat ((wrap64 (x3_2 + 1)) : Int).toNat) 1 true _ A12.out).mono ?_); rintro e w' ⟨rfl, ⟨nd, rfl⟩⟩; refine ⟨_, rfl, ?_⟩))
                      go_roundg k2
                      case measure => have := HJ1.out; have := HK2.out; omega
                      case rel => exact ⟨(wrap64 (x3_2 + 1)), (by first | rfl | (simp; done) | (simp [*]; done)), H', ⟨by have := HJ1.out; have := HK2.out; omega⟩, by repeat (first | exact Drawn0.refl _ | apply Drawn0.step)⟩
                    · replace c13 := Bool.eq_false_iff.mpr c13
                      subst c13
                      have H1 : ((impl_digits.f k2 (a0.extract (x3_2 : Int).toNat ((wrap64 (x3_2 + 1)) : Int).toNat)).bind fun t128 => (if t128 = true then (impl_centreOk.l0 k2 a0 (wrap64 (x3_2 + 1))) else (some false))) = some r := by rw [if_neg (show ¬ (false = true) by decide)] at H; exact H
                      clear H
                      have H := H1
                      clear H1
                      have c14b0 := eq_true (of_decide_eq_true (by first | (with_reducible assumption) | assumption) : 0 ≤ x3_2)
                      have c15b0 := eq_true (of_decide_eq_true (by first | (with_reducible assumption) | assumption) : x3_2 ≤ (wrap64 (x3_2 + 1)))
                      have c16b0 := eq_true (of_decide_eq_true (by first | (with_reducible assumption) | assumption) : (wrap64 (x3_2 + 1)) ≤ (a0.size : Int))
                      replace H := Option.bind_eq_some_iff.mp H
                      obtain ⟨t128, A170, H⟩ := H
                      replace H : (if t128 = true then (impl_centreOk.l0 k2 a0 (wrap64 (x3_2 + 1))) else (some false)) = some r := H
                      have A17 := Aside0.mk A170
                      clear A170
                      by_cases c18 : t128 = true
                      · subst c18
                        have H1 : (impl_centreOk.l0 k2 a0 (wrap64 (x3_2 + 1))) = some r := by rw [if_pos rfl] at H; exact H
                        clear H
                        have H := H1
                        clear H1
                        have H' := Aside0.mk H
                        clear H
                        go_wp2_with (first | ((with_reducible refine gate_callee (f := 19) rfl ?_); refine goesL_ (some 22) rfl rfl Tryd.func19 (by kernel_rfl) rfl #[.string (a0.extract (x3_2 : Int).toNat ((wrap64 (x3_2 + 1)) : Int).toNat), .int .i64 1] rfl (by (try simp only [List.map_toArray, List.map_cons, List.map_nil]); first | done | rfl | (simp only [List.length_drop, List.length_take]; rfl)) ?_; (with_reducible refine (impl_capitals.calls k2 (a0.extract (x3_2 : Int).toNat ((wrap64 (x3_2 + 1)) : Int).toNat) 1 false _ A12.out).mono ?_); rintro e w' ⟨rfl, ⟨nd, rfl⟩⟩; refine ⟨_, rfl, ?_⟩) | (go_at_call 20; (with_reducible refine (impl_digits.calls k2 (a0.extract (x3_2 : Int).toNat ((wrap64 (x3_2 + 1)) : Int).toNat) true _ A17.out).mono ?_); rintro e w' ⟨rfl, ⟨nd, rfl⟩⟩))
                        go_roundg k2
                        case measure => have := HJ1.out; have := HK2.out; omega
                        case rel => exact ⟨(wrap64 (x3_2 + 1)), (by first | rfl | (simp; done) | (simp [*]; done)), H', ⟨by have := HJ1.out; have := HK2.out; omega⟩, by repeat (first | exact Drawn0.refl _ | apply Drawn0.step)⟩
                      · replace c18 := Bool.eq_false_iff.mpr c18
                        subst c18
                        have H1 : (some false) = some r := by rw [if_neg (show ¬ (false = true) by decide)] at H; exact H
                        clear H
                        have H := H1
                        clear H1
                        obtain rfl := Option.some.inj H
                        go_wp2_with (first | ((with_reducible refine gate_callee (f := 19) rfl ?_); refine goesL_ (some 22) rfl rfl Tryd.func19 (by kernel_rfl) rfl #[.string (a0.extract (x3_2 : Int).toNat ((wrap64 (x3_2 + 1)) : Int).toNat), .int .i64 1] rfl (by (try simp only [List.map_toArray, List.map_cons, List.map_nil]); first | done | rfl | (simp only [List.length_drop, List.length_take]; rfl)) ?_; (with_reducible refine (impl_capitals.calls k2 (a0.extract (x3_2 : Int).toNat ((wrap64 (x3_2 + 1)) : Int).toNat) 1 false _ A12.out).mono ?_); rintro e w' ⟨rfl, ⟨nd, rfl⟩⟩; refine ⟨_, rfl, ?_⟩) | (go_at_call 20; (with_reducible refine (impl_digits.calls k2 (a0.extract (x3_2 : Int).toNat ((wrap64 (x3_2 + 1)) : Int).toNat) false _ A17.out).mono ?_); rintro e w' ⟨rfl, ⟨nd, rfl⟩⟩))
                        go_ret
                        exact ⟨by first | rfl | (simp; done) | (simp [*]; done), by repeat (first | exact Drawn0.refl _ | apply Drawn0.step)⟩
                  · rw [if_neg c11] at H
                    exact absurd H (by simp)
                · rw [if_neg c10] at H
                  exact absurd H (by simp)
              · rw [if_neg c9] at H
                exact absurd H (by simp)
            · rw [if_neg c8] at H
              have c8b0 : decide (x3_2 < 4) = false := decide_eq_false c8
              clear c8
              obtain rfl := Option.some.inj H
              go_wp2
              go_ret
              exact ⟨by first | rfl | (simp; done) | (simp [*]; done), by repeat (first | exact Drawn0.refl _ | apply Drawn0.step)⟩

/-! ### impl_in: function 23 -/
def impl_in.f (a0 : Int) (a1 : Int) (a2 : Int) : Option (Bool) := if a0 ≥ a1 then (some (decide (a0 ≤ a2))) else (some false)
set_option maxHeartbeats 8000000 in
set_option maxRecDepth 100000 in
theorem impl_in.calls (a0 : Int) (a1 : Int) (a2 : Int) (r : Bool) (w : World) (h : impl_in.f a0 a1 a2 = some r) :
    Calls Tryd.prog 23 #[.int .i64 a0, .int .i64 a1, .int .i64 a2] w fun e w' => e = .returned (.bool r) ∧ Drawn0 w w' := by
  have H : (if a0 ≥ a1 then (some (decide (a0 ≤ a2))) else (some false)) = some r := h
  clear h
  by_cases c4 : a0 ≥ a1
  · rw [if_pos c4] at H
    have c4b0 : decide (a1 ≤ a0) = true := decide_eq_true c4
    clear c4
    obtain rfl := Option.some.inj H
    go_enter Tryd.func23, Tryd.ntmps23
    go_wp2
    go_ret
    exact ⟨by first | rfl | (simp; done) | (simp [*]; done), by repeat (first | exact Drawn0.refl _ | apply Drawn0.step)⟩
  · rw [if_neg c4] at H
    have c4b0 : decide (a1 ≤ a0) = false := decide_eq_false c4
    clear c4
    obtain rfl := Option.some.inj H
    go_enter Tryd.func23, Tryd.ntmps23
    go_wp2
    go_ret
    exact ⟨by first | rfl | (simp; done) | (simp [*]; done), by repeat (first | exact Drawn0.refl _ | apply Drawn0.step)⟩

end Go.Proofs.YtfipjlcbnfcddaaDoor.F
