-- Written by a program of this session (wip/tools/pr.py, over the kit's print programs): functions and their contracts. Lean checks it.
import Derived.Test.YtfipjlcbnfcddaaDoorF4
import Derived.Test.YtfipjlcbnfcddaaDoorH3
namespace Go.Proofs.YtfipjlcbnfcddaaDoor.F
open Go.RowKit Go.Proofs.YtfipjlcbnfcddaaDoorW.PrintWords Go.Proofs.YtfipjlcbnfcddaaDoorW.PrintLast Go.Proofs.YtfipjlcbnfcddaaDoorW.PrintMore
attribute [local go_sem] max2_int min2_int max_two min_two max_three min_three max_four min_four   -- for this text's walks alone
set_option linter.unusedVariables false
set_option linter.unusedSimpArgs false
/-! ### spec_DrawReadHeading: function 12 -/
def spec_DrawReadHeading.j0 : Nat → ByteArray → List Int → Int → Option (ByteArray)
  | 0, _, _, _ => none
  | k + 1, x4, x225000, x225001 => (spec_l1Rd_once.f x225000 x225001 12).bind fun bt248 => (if bt248.1 = true then ((some (([(⟨#[]⟩ : ByteArray), (⟨#[32]⟩ : ByteArray), (⟨#[32, 32]⟩ : ByteArray), (⟨#[97, 32, 98, 32, 99]⟩ : ByteArray), (⟨#[83, 77, 68, 76, 48, 49, 32, 65, 77, 77, 67]⟩ : ByteArray), (⟨#[83, 77, 68, 76, 48, 49, 32, 65, 77, 77, 67, 32, 48, 49, 48, 48, 48, 48, 32, 82, 82, 65, 32, 88]⟩ : ByteArray), (⟨#[83, 77, 68, 76, 48, 49, 32, 65, 77, 77, 67, 32, 48, 49, 48, 48, 48, 48, 32]⟩ : ByteArray)] : List ByteArray) : List ByteArray)).bind fun y250 => ((spec_l1Rd_below.f x225000 bt248.2 7).bind fun bt253 => (if 0 ≤ bt253.1 then (if bt253.1 < (y250.length : Int) then (some (rdOf ByteArray.empty y250 bt253.1)) else (none)) else (none)))) else (some x4))
def spec_DrawReadHeading.f (k : Nat) (l0 : List Int) : Option (ByteArray) := (spec_l1Open.f l0).bind fun bt222 => ((spec_l1Rd_heading.f k bt222.1 bt222.2).bind fun bt225 => ((spec_HeadingText.f bt225.1 bt225.2.1 bt225.2.2.1 bt225.2.2.2.1 bt225.2.2.2.2.1 bt225.2.2.2.2.2.1 bt225.2.2.2.2.2.2.1 bt225.2.2.2.2.2.2.2.1).bind fun bt234 => ((spec_l1Rd_once.f bt222.1 bt225.2.2.2.2.2.2.2.2 2).bind fun bt236 => (if bt236.1 = true then ((spec_l1Rd_below.f bt222.1 bt236.2 (bt234.1.size : Int)).bind fun bt238 => (if 0 ≤ bt238.1 then (if bt238.1 ≤ (bt234.1.size : Int) then ((some (([(⟨#[]⟩ : ByteArray), (⟨#[32]⟩ : ByteArray), (⟨#[32, 32]⟩ : ByteArray), (⟨#[48]⟩ : ByteArray), (⟨#[65]⟩ : ByteArray), (⟨#[57]⟩ : ByteArray), (⟨#[45]⟩ : ByteArray)] : List ByteArray) : List ByteArray)).bind fun y240 => ((spec_l1Rd_below.f bt222.1 bt238.2 7).bind fun bt243 => (if 0 ≤ bt243.1 then (if bt243.1 < (y240.length : Int) then (if (bt234.1.extract 0 (bt238.1 : Int).toNat).size + (rdOf ByteArray.empty y240 bt243.1).size ≤ 9223372036854775807 then ((spec_l1Rd_below.f bt222.1 bt243.2 2).bind fun bt246 => (if 0 ≤ (wrap64 (bt238.1 + bt246.1)) then (if (wrap64 (bt238.1 + bt246.1)) ≤ (bt234.1.size : Int) then (if ((bt234.1.extract 0 (bt238.1 : Int).toNat) ++ (rdOf ByteArray.empty y240 bt243.1)).size + (bt234.1.extract ((wrap64 (bt238.1 + bt246.1)) : Int).toNat bt234.1.size).size ≤ 9223372036854775807 then (spec_DrawReadHeading.j0 k (((bt234.1.extract 0 (bt238.1 : Int).toNat) ++ (rdOf ByteArray.empty y240 bt243.1)) ++ (bt234.1.extract ((wrap64 (bt238.1 + bt246.1)) : Int).toNat bt234.1.size)) bt222.1 bt246.2) else (none)) else (none)) else (none))) else (none)) else (none)) else (none)))) else (none)) else (none))) else (spec_DrawReadHeading.j0 k bt234.1 bt222.1 bt236.2)))))
theorem spec_DrawReadHeading.mono_l : ∀ k, (∀ y0 y1 y2, LeO (spec_DrawReadHeading.j0 k y0 y1 y2) (spec_DrawReadHeading.j0 (k + 1) y0 y1 y2))
  | 0 => fun _ _ _ r h => by simp [spec_DrawReadHeading.j0] at h
  | k + 1 => by
    have ih0 := spec_DrawReadHeading.mono_l k
    · intro y0 y1 y2
      unfold spec_DrawReadHeading.j0
      repeat' first
      | (with_reducible exact ih0 _ _ _)
      | (with_reducible exact spec_l1Rd_heading.mono _ _ _)
      | (with_reducible exact LeO.refl _)
      | (with_reducible exact LeO.none _)
      | (with_reducible refine LeO.ite ?_ ?_)
      | (with_reducible refine LeO.bind ?_ (fun _ => ?_))
      | exact ih0 _ _ _
      | exact spec_l1Rd_heading.mono _ _ _
      | exact LeO.none _
      | refine LeO.ite ?_ ?_
      | refine LeO.bind ?_ (fun _ => ?_)
theorem spec_DrawReadHeading.mono : ∀ a0 k, LeO (spec_DrawReadHeading.f k a0) (spec_DrawReadHeading.f (k + 1) a0) := by
  intro a0 k
  have ih0 := spec_DrawReadHeading.mono_l k
  unfold spec_DrawReadHeading.f
  repeat' first
      | (with_reducible exact ih0 _ _ _)
      | (with_reducible exact spec_l1Rd_heading.mono _ _ _)
      | (with_reducible exact LeO.refl _)
      | (with_reducible exact LeO.none _)
      | (with_reducible refine LeO.ite ?_ ?_)
      | (with_reducible refine LeO.bind ?_ (fun _ => ?_))
      | exact ih0 _ _ _
      | exact spec_l1Rd_heading.mono _ _ _
      | exact LeO.none _
      | refine LeO.ite ?_ ?_
      | refine LeO.bind ?_ (fun _ => ?_)
def spec_DrawReadHeading.T5 : Bool × List (List Nat × List Nat) := (true, [([], []), ([], []), ([0, 1], [0, 1]), ([], []), ([], []), ([4], [4]), ([3, 5], [3, 5]), ([6], [6]), ([2, 7], [2, 7]), ([], []), ([], []), ([], []), ([11, 5], [11]), ([10, 12], [10, 12]), ([9, 13], [9, 13]), ([8, 14], [8, 14]), ([15, 12, 0, 1, 2, 3, 4, 5, 6, 7, 8, 9, 10, 11, 12, 13, 14, 15], [0, 9, 15])])
def spec_DrawReadHeading.B5 : List Nat := [0, 0, 3, 0, 0, 16, 56, 120, 255, 0, 0, 0, 2096, 7216, 15920, 32767, 65535]
theorem spec_DrawReadHeading.tab5 : rtab .any (opsOf Tryd.f12 5) = spec_DrawReadHeading.T5 := by kernel_rfl
theorem spec_DrawReadHeading.bits5 : waitsOk spec_DrawReadHeading.T5.2 spec_DrawReadHeading.B5 = true := by kernel_rfl
set_option maxHeartbeats 8000000 in
set_option maxRecDepth 100000 in
theorem spec_DrawReadHeading.calls (k : Nat) (A0 : Option Addr) (c0 : Nat) (l0 : List Int) (r : ByteArray) (w : World) (hr0 : Kd.C (Kd.int .u8) w A0 l0.length l0) (hc0 : l0.length ≤ c0) (h : spec_DrawReadHeading.f k l0 = some r) :
    Calls Tryd.prog 12 #[.slice A0 l0.length c0] w fun e w' => e = .returned (.string r) ∧ Below w.heap.size w w' := by
  have HR0 := Aside0.mk hr0
  have HC0 := Aside0.mk hc0
  clear hr0 hc0
  have HB := Aside0.mk (Below.refl w.heap.size w)
  have H : ((spec_l1Open.f l0).bind fun bt222 => ((spec_l1Rd_heading.f k bt222.1 bt222.2).bind fun bt225 => ((spec_HeadingText.f bt225.1 bt225.2.1 bt225.2.2.1 bt225.2.2.2.1 bt225.2.2.2.2.1 bt225.2.2.2.2.2.1 bt225.2.2.2.2.2.2.1 bt225.2.2.2.2.2.2.2.1).bind fun bt234 => ((spec_l1Rd_once.f bt222.1 bt225.2.2.2.2.2.2.2.2 2).bind fun bt236 => (if bt236.1 = true then ((spec_l1Rd_below.f bt222.1 bt236.2 (bt234.1.size : Int)).bind fun bt238 => (if 0 ≤ bt238.1 then (if bt238.1 ≤ (bt234.1.size : Int) then ((some (([(⟨#[]⟩ : ByteArray), (⟨#[32]⟩ : ByteArray), (⟨#[32, 32]⟩ : ByteArray), (⟨#[48]⟩ : ByteArray), (⟨#[65]⟩ : ByteArray), (⟨#[57]⟩ : ByteArray), (⟨#[45]⟩ : ByteArray)] : List ByteArray) : List ByteArray)).bind fun y240 => ((spec_l1Rd_below.f bt222.1 bt238.2 7).bind fun bt243 => (if 0 ≤ bt243.1 then (if bt243.1 < (y240.length : Int) then (if (bt234.1.extract 0 (bt238.1 : Int).toNat).size + (rdOf ByteArray.empty y240 bt243.1).size ≤ 9223372036854775807 then ((spec_l1Rd_below.f bt222.1 bt243.2 2).bind fun bt246 => (if 0 ≤ (wrap64 (bt238.1 + bt246.1)) then (if (wrap64 (bt238.1 + bt246.1)) ≤ (bt234.1.size : Int) then (if ((bt234.1.extract 0 (bt238.1 : Int).toNat) ++ (rdOf ByteArray.empty y240 bt243.1)).size + (bt234.1.extract ((wrap64 (bt238.1 + bt246.1)) : Int).toNat bt234.1.size).size ≤ 9223372036854775807 then (spec_DrawReadHeading.j0 k (((bt234.1.extract 0 (bt238.1 : Int).toNat) ++ (rdOf ByteArray.empty y240 bt243.1)) ++ (bt234.1.extract ((wrap64 (bt238.1 + bt246.1)) : Int).toNat bt234.1.size)) bt222.1 bt246.2) else (none)) else (none)) else (none))) else (none)) else (none)) else (none)))) else (none)) else (none))) else (spec_DrawReadHeading.j0 k bt234.1 bt222.1 bt236.2)))))) = some r := h
  clear h
  replace H := Option.bind_eq_some_iff.mp H
  obtain ⟨⟨t222, t223⟩, A20, H⟩ := H
  replace H : ((spec_l1Rd_heading.f k t222 t223).bind fun bt225 => ((spec_HeadingText.f bt225.1 bt225.2.1 bt225.2.2.1 bt225.2.2.2.1 bt225.2.2.2.2.1 bt225.2.2.2.2.2.1 bt225.2.2.2.2.2.2.1 bt225.2.2.2.2.2.2.2.1).bind fun bt234 => ((spec_l1Rd_once.f t222 bt225.2.2.2.2.2.2.2.2 2).bind fun bt236 => (if bt236.1 = true then ((spec_l1Rd_below.f t222 bt236.2 (bt234.1.size : Int)).bind fun bt238 => (if 0 ≤ bt238.1 then (if bt238.1 ≤ (bt234.1.size : Int) then ((some (([(⟨#[]⟩ : ByteArray), (⟨#[32]⟩ : ByteArray), (⟨#[32, 32]⟩ : ByteArray), (⟨#[48]⟩ : ByteArray), (⟨#[65]⟩ : ByteArray), (⟨#[57]⟩ : ByteArray), (⟨#[45]⟩ : ByteArray)] : List ByteArray) : List ByteArray)).bind fun y240 => ((spec_l1Rd_below.f t222 bt238.2 7).bind fun bt243 => (if 0 ≤ bt243.1 then (if bt243.1 < (y240.length : Int) then (if (bt234.1.extract 0 (bt238.1 : Int).toNat).size + (rdOf ByteArray.empty y240 bt243.1).size ≤ 9223372036854775807 then ((spec_l1Rd_below.f t222 bt243.2 2).bind fun bt246 => (if 0 ≤ (wrap64 (bt238.1 + bt246.1)) then (if (wrap64 (bt238.1 + bt246.1)) ≤ (bt234.1.size : Int) then (if ((bt234.1.extract 0 (bt238.1 : Int).toNat) ++ (rdOf ByteArray.empty y240 bt243.1)).size + (bt234.1.extract ((wrap64 (bt238.1 + bt246.1)) : Int).toNat bt234.1.size).size ≤ 9223372036854775807 then (spec_DrawReadHeading.j0 k (((bt234.1.extract 0 (bt238.1 : Int).toNat) ++ (rdOf ByteArray.empty y240 bt243.1)) ++ (bt234.1.extract ((wrap64 (bt238.1 + bt246.1)) : Int).toNat bt234.1.size)) t222 bt246.2) else (none)) else (none)) else (none))) else (none)) else (none)) else (none)))) else (none)) else (none))) else (spec_DrawReadHeading.j0 k bt234.1 t222 bt236.2))))) = some r := H
  have A2 := Aside0.mk A20
  clear A20
  replace H := Option.bind_eq_some_iff.mp H
  obtain ⟨⟨t225, t226, t227, t228, t229, t230, t231, t232, t233⟩, A30, H⟩ := H
  replace H : ((spec_HeadingText.f t225 t226 t227 t228 t229 t230 t231 t232).bind fun bt234 => ((spec_l1Rd_once.f t222 t233 2).bind fun bt236 => (if bt236.1 = true then ((spec_l1Rd_below.f t222 bt236.2 (bt234.1.size : Int)).bind fun bt238 => (if 0 ≤ bt238.1 then (if bt238.1 ≤ (bt234.1.size : Int) then ((some (([(⟨#[]⟩ : ByteArray), (⟨#[32]⟩ : ByteArray), (⟨#[32, 32]⟩ : ByteArray), (⟨#[48]⟩ : ByteArray), (⟨#[65]⟩ : ByteArray), (⟨#[57]⟩ : ByteArray), (⟨#[45]⟩ : ByteArray)] : List ByteArray) : List ByteArray)).bind fun y240 => ((spec_l1Rd_below.f t222 bt238.2 7).bind fun bt243 => (if 0 ≤ bt243.1 then (if bt243.1 < (y240.length : Int) then (if (bt234.1.extract 0 (bt238.1 : Int).toNat).size + (rdOf ByteArray.empty y240 bt243.1).size ≤ 9223372036854775807 then ((spec_l1Rd_below.f t222 bt243.2 2).bind fun bt246 => (if 0 ≤ (wrap64 (bt238.1 + bt246.1)) then (if (wrap64 (bt238.1 + bt246.1)) ≤ (bt234.1.size : Int) then (if ((bt234.1.extract 0 (bt238.1 : Int).toNat) ++ (rdOf ByteArray.empty y240 bt243.1)).size + (bt234.1.extract ((wrap64 (bt238.1 + bt246.1)) : Int).toNat bt234.1.size).size ≤ 9223372036854775807 then (spec_DrawReadHeading.j0 k (((bt234.1.extract 0 (bt238.1 : Int).toNat) ++ (rdOf ByteArray.empty y240 bt243.1)) ++ (bt234.1.extract ((wrap64 (bt238.1 + bt246.1)) : Int).toNat bt234.1.size)) t222 bt246.2) else (none)) else (none)) else (none))) else (none)) else (none)) else (none)))) else (none)) else (none))) else (spec_DrawReadHeading.j0 k bt234.1 t222 bt236.2)))) = some r := H
  have A3 := Aside0.mk A30
  clear A30
  replace H := Option.bind_eq_some_iff.mp H
  obtain ⟨⟨t234, t235⟩, A40, H⟩ := H
  replace H : ((spec_l1Rd_once.f t222 t233 2).bind fun bt236 => (if bt236.1 = true then ((spec_l1Rd_below.f t222 bt236.2 (t234.size : Int)).bind fun bt238 => (if 0 ≤ bt238.1 then (if bt238.1 ≤ (t234.size : Int) then ((some (([(⟨#[]⟩ : ByteArray), (⟨#[32]⟩ : ByteArray), (⟨#[32, 32]⟩ : ByteArray), (⟨#[48]⟩ : ByteArray), (⟨#[65]⟩ : ByteArray), (⟨#[57]⟩ : ByteArray), (⟨#[45]⟩ : ByteArray)] : List ByteArray) : List ByteArray)).bind fun y240 => ((spec_l1Rd_below.f t222 bt238.2 7).bind fun bt243 => (if 0 ≤ bt243.1 then (if bt243.1 < (y240.length : Int) then (if (t234.extract 0 (bt238.1 : Int).toNat).size + (rdOf ByteArray.empty y240 bt243.1).size ≤ 9223372036854775807 then ((spec_l1Rd_below.f t222 bt243.2 2).bind fun bt246 => (if 0 ≤ (wrap64 (bt238.1 + bt246.1)) then (if (wrap64 (bt238.1 + bt246.1)) ≤ (t234.size : Int) then (if ((t234.extract 0 (bt238.1 : Int).toNat) ++ (rdOf ByteArray.empty y240 bt243.1)).size + (t234.extract ((wrap64 (bt238.1 + bt246.1)) : Int).toNat t234.size).size ≤ 9223372036854775807 then (spec_DrawReadHeading.j0 k (((t234.extract 0 (bt238.1 : Int).toNat) ++ (rdOf ByteArray.empty y240 bt243.1)) ++ (t234.extract ((wrap64 (bt238.1 + bt246.1)) : Int).toNat t234.size)) t222 bt246.2) else (none)) else (none)) else (none))) else (none)) else (none)) else (none)))) else (none)) else (none))) else (spec_DrawReadHeading.j0 k t234 t222 bt236.2))) = some r := H
  have A4 := Aside0.mk A40
  clear A40
  replace H := Option.bind_eq_some_iff.mp H
  obtain ⟨⟨t236, t237⟩, A50, H⟩ := H
  replace H : (if t236 = true then ((spec_l1Rd_below.f t222 t237 (t234.size : Int)).bind fun bt238 => (if 0 ≤ bt238.1 then (if bt238.1 ≤ (t234.size : Int) then ((some (([(⟨#[]⟩ : ByteArray), (⟨#[32]⟩ : ByteArray), (⟨#[32, 32]⟩ : ByteArray), (⟨#[48]⟩ : ByteArray), (⟨#[65]⟩ : ByteArray), (⟨#[57]⟩ : ByteArray), (⟨#[45]⟩ : ByteArray)] : List ByteArray) : List ByteArray)).bind fun y240 => ((spec_l1Rd_below.f t222 bt238.2 7).bind fun bt243 => (if 0 ≤ bt243.1 then (if bt243.1 < (y240.length : Int) then (if (t234.extract 0 (bt238.1 : Int).toNat).size + (rdOf ByteArray.empty y240 bt243.1).size ≤ 9223372036854775807 then ((spec_l1Rd_below.f t222 bt243.2 2).bind fun bt246 => (if 0 ≤ (wrap64 (bt238.1 + bt246.1)) then (if (wrap64 (bt238.1 + bt246.1)) ≤ (t234.size : Int) then (if ((t234.extract 0 (bt238.1 : Int).toNat) ++ (rdOf ByteArray.empty y240 bt243.1)).size + (t234.extract ((wrap64 (bt238.1 + bt246.1)) : Int).toNat t234.size).size ≤ 9223372036854775807 then (spec_DrawReadHeading.j0 k (((t234.extract 0 (bt238.1 : Int).toNat) ++ (rdOf ByteArray.empty y240 bt243.1)) ++ (t234.extract ((wrap64 (bt238.1 + bt246.1)) : Int).toNat t234.size)) t222 bt246.2) else (none)) else (none)) else (none))) else (none)) else (none)) else (none)))) else (none)) else (none))) else (spec_DrawReadHeading.j0 k t234 t222 t237)) = some r := H
  have A5 := Aside0.mk A50
  clear A50
  have HC6 := Aside0.mk H
  clear H
  go_enter Tryd.func12, Tryd.ntmps12
  go_upto_if 16 with (first | ((with_reducible refine gate_callee (f := 25) rfl ?_); refine goesL_ (some 8) rfl rfl Tryd.func25 (by kernel_rfl) rfl #[.slice A0 l0.length c0] rfl (by (try simp only [List.map_toArray, List.map_cons, List.map_nil]); first | done | rfl | (simp only [List.length_drop, List.length_take]; rfl)) ?_; (with_reducible refine (spec_l1Open.calls _ _ l0 t222 t223 w _ ?side1 ?side2 ?side3 A2.out).mono ?_); (case side1 => repeat (first | (with_reducible first | exact HB.out | apply below_alloc | apply pw_below_drewN | apply below_drew1) | exact HB.out)); (case side2 => exact HR0.out); (case side3 => exact HC0.out); rintro e w7 ⟨g224, rfl, hi, hb, hb2⟩; refine ⟨_, rfl, ?_⟩; have n0_ := Aside0.mk (hb); have n1_ := Aside0.mk (hi); clear HB; have HB := n0_; have HI224 := n1_; clear n0_ n1_; (try clear hb); (try clear hb2); (try clear hk); (try clear hi)) | ((with_reducible refine gate_callee (f := 26) rfl ?_); refine goesL_ (some 11) rfl rfl Tryd.func26 (by kernel_rfl) rfl #[.pointer (some ⟨g224, 0, none⟩)] rfl (by (try simp only [List.map_toArray, List.map_cons, List.map_nil]); first | done | rfl | (simp only [List.length_drop, List.length_take]; rfl)) ?_; (with_reducible refine (spec_l1Rd_heading.calls k g224 t222 t223 t225 t226 t227 t228 t229 t230 t231 t232 t233 w _ ?side1 ?side2 A3.out).mono ?_); (case side1 => repeat (first | (with_reducible first | exact HI224.out | apply IsS59.alloc | apply IsS59.drewN | apply IsS59.drew | apply IsS59.set_1) | exact HI224.out)); (case side2 => repeat (first | (with_reducible first | exact HB.out | apply below_alloc | apply pw_below_drewN | apply below_drew1 | refine below_set ?_ (IsS59.ge HI224.out)) | exact HB.out)); rintro e w8 ⟨rfl, hi, hb, hk⟩; refine ⟨_, rfl, ?_⟩; have n0_ := Aside0.mk (hb); have n1_ := Aside0.mk (hi); clear HB; clear HI224; have HB := n0_; have HI224 := n1_; clear n0_ n1_; (try clear hb); (try clear hb2); (try clear hk); (try clear hi)) | ((with_reducible refine gate_callee (f := 10) rfl ?_); refine goesL_ (some 12) rfl rfl Tryd.func10 (by kernel_rfl) rfl #[.agg #[.string t225, .string t226, .int .i64 t227, .string t228, .int .i64 t229, .int .i64 t230, .int .i64 t231, .string t232]] rfl (by (try simp only [List.map_toArray, List.map_cons, List.map_nil]); first | done | rfl | (simp only [List.length_drop, List.length_take]; rfl)) ?_; (with_reducible refine (spec_HeadingText.calls t225 t226 t227 t228 t229 t230 t231 t232 t234 t235 _ A4.out).mono ?_); rintro e w9 ⟨rfl, hb⟩; refine ⟨_, rfl, ?_⟩; have n0_ := Aside0.mk (IsS59.below (by repeat (first | (with_reducible first | exact HI224.out | apply IsS59.alloc | apply IsS59.drewN | apply IsS59.drew | apply IsS59.set_1) | exact HI224.out)) hb); have n1_ := Aside0.mk (below_step (by repeat (first | (with_reducible first | exact HB.out | apply below_alloc | apply pw_below_drewN | apply below_drew1 | refine below_set ?_ (IsS59.ge HI224.out)) | exact HB.out)) hb); clear HI224; clear HB; have HI224 := n0_; have HB := n1_; clear n0_ n1_; (try clear hb); (try clear hb2); (try clear hk); (try clear hi)) | ((with_reducible refine gate_callee (f := 31) rfl ?_); refine goesL_ (some 16) rfl rfl Tryd.func31 (by kernel_rfl) rfl #[.pointer (some ⟨g224, 0, none⟩), .int .i64 2] rfl (by (try simp only [List.map_toArray, List.map_cons, List.map_nil]); first | done | rfl | (simp only [List.length_drop, List.length_take]; rfl)) ?_; (with_reducible refine (spec_l1Rd_once.calls g224 t222 t233 2 t236 t237 w _ ?side1 ?side2 A5.out).mono ?_); (case side1 => repeat (first | (with_reducible first | exact HI224.out | apply IsS59.alloc | apply IsS59.drewN | apply IsS59.drew | apply IsS59.set_1) | exact HI224.out)); (case side2 => repeat (first | (with_reducible first | exact HB.out | apply below_alloc | apply pw_below_drewN | apply below_drew1 | refine below_set ?_ (IsS59.ge HI224.out)) | exact HB.out)); rintro e w10 ⟨rfl, hi, hb, hk⟩; refine ⟨_, rfl, ?_⟩; have n0_ := Aside0.mk (hb); have n1_ := Aside0.mk (hi); clear HB; clear HI224; have HB := n0_; have HI224 := n1_; clear n0_ n1_; (try clear hb); (try clear hb2); (try clear hk); (try clear hi)))
  (try simp only [Act.put, List.setIfInBounds_toArray, List.set_cons_zero, List.set_cons_succ])
  go_cut [4] (fun v4 wc => ∃ (kq : Nat) (x4_5 : ByteArray) (x225001_5 : Int), v4 = .string x4_5 ∧ Aside0 (spec_DrawReadHeading.j0 kq x4_5 t222 x225001_5 = some r) ∧ Aside0 (kq ≤ k) ∧ Aside0 (IsS59 w wc g224 t222 x225001_5) ∧ Aside0 (Below w.heap.size w wc))
  case first =>
    have H := HC6.out
    clear HC6
    by_cases c11 : t236 = true
    · subst c11
      have H1 : ((spec_l1Rd_below.f t222 t237 (t234.size : Int)).bind fun bt238 => (if 0 ≤ bt238.1 then (if bt238.1 ≤ (t234.size : Int) then ((some (([(⟨#[]⟩ : ByteArray), (⟨#[32]⟩ : ByteArray), (⟨#[32, 32]⟩ : ByteArray), (⟨#[48]⟩ : ByteArray), (⟨#[65]⟩ : ByteArray), (⟨#[57]⟩ : ByteArray), (⟨#[45]⟩ : ByteArray)] : List ByteArray) : List ByteArray)).bind fun y240 => ((spec_l1Rd_below.f t222 bt238.2 7).bind fun bt243 => (if 0 ≤ bt243.1 then (if bt243.1 < (y240.length : Int) then (if (t234.extract 0 (bt238.1 : Int).toNat).size + (rdOf ByteArray.empty y240 bt243.1).size ≤ 9223372036854775807 then ((spec_l1Rd_below.f t222 bt243.2 2).bind fun bt246 => (if 0 ≤ (wrap64 (bt238.1 + bt246.1)) then (if (wrap64 (bt238.1 + bt246.1)) ≤ (t234.size : Int) then (if ((t234.extract 0 (bt238.1 : Int).toNat) ++ (rdOf ByteArray.empty y240 bt243.1)).size + (t234.extract ((wrap64 (bt238.1 + bt246.1)) : Int).toNat t234.size).size ≤ 9223372036854775807 then (spec_DrawReadHeading.j0 k (((t234.extract 0 (bt238.1 : Int).toNat) ++ (rdOf ByteArray.empty y240 bt243.1)) ++ (t234.extract ((wrap64 (bt238.1 + bt246.1)) : Int).toNat t234.size)) t222 bt246.2) else (none)) else (none)) else (none))) else (none)) else (none)) else (none)))) else (none)) else (none))) = some r := by rw [if_pos rfl] at H; exact H
      clear H
      have H := H1
      clear H1
      replace H := Option.bind_eq_some_iff.mp H
      obtain ⟨⟨t238, t239⟩, A120, H⟩ := H
      replace H : (if 0 ≤ t238 then (if t238 ≤ (t234.size : Int) then ((some (([(⟨#[]⟩ : ByteArray), (⟨#[32]⟩ : ByteArray), (⟨#[32, 32]⟩ : ByteArray), (⟨#[48]⟩ : ByteArray), (⟨#[65]⟩ : ByteArray), (⟨#[57]⟩ : ByteArray), (⟨#[45]⟩ : ByteArray)] : List ByteArray) : List ByteArray)).bind fun y240 => ((spec_l1Rd_below.f t222 t239 7).bind fun bt243 => (if 0 ≤ bt243.1 then (if bt243.1 < (y240.length : Int) then (if (t234.extract 0 (t238 : Int).toNat).size + (rdOf ByteArray.empty y240 bt243.1).size ≤ 9223372036854775807 then ((spec_l1Rd_below.f t222 bt243.2 2).bind fun bt246 => (if 0 ≤ (wrap64 (t238 + bt246.1)) then (if (wrap64 (t238 + bt246.1)) ≤ (t234.size : Int) then (if ((t234.extract 0 (t238 : Int).toNat) ++ (rdOf ByteArray.empty y240 bt243.1)).size + (t234.extract ((wrap64 (t238 + bt246.1)) : Int).toNat t234.size).size ≤ 9223372036854775807 then (spec_DrawReadHeading.j0 k (((t234.extract 0 (t238 : Int).toNat) ++ (rdOf ByteArray.empty y240 bt243.1)) ++ (t234.extract ((wrap64 (t238 + bt246.1)) : Int).toNat t234.size)) t222 bt246.2) else (none)) else (none)) else (none))) else (none)) else (none)) else (none)))) else (none)) else (none)) = some r := H
      have A12 := Aside0.mk A120
      clear A120
      by_cases c13 : 0 ≤ t238
      · rw [if_pos c13] at H
        have c13b0 := eq_true c13
        have c13b1 : decide (0 ≤ t238) = true := decide_eq_true c13
        clear c13
        by_cases c14 : t238 ≤ (t234.size : Int)
        · rw [if_pos c14] at H
          have c14b0 := eq_true c14
          have c14b1 : decide (t238 ≤ (t234.size : Int)) = true := decide_eq_true c14
          clear c14
          obtain ⟨y240, hy240⟩ : ∃ y_ : List ByteArray, y_ = (([(⟨#[]⟩ : ByteArray), (⟨#[32]⟩ : ByteArray), (⟨#[32, 32]⟩ : ByteArray), (⟨#[48]⟩ : ByteArray), (⟨#[65]⟩ : ByteArray), (⟨#[57]⟩ : ByteArray), (⟨#[45]⟩ : ByteArray)] : List ByteArray)) := ⟨_, rfl⟩
          replace H : ((spec_l1Rd_below.f t222 t239 7).bind fun bt243 => (if 0 ≤ bt243.1 then (if bt243.1 < (y240.length : Int) then (if (t234.extract 0 (t238 : Int).toNat).size + (rdOf ByteArray.empty y240 bt243.1).size ≤ 9223372036854775807 then ((spec_l1Rd_below.f t222 bt243.2 2).bind fun bt246 => (if 0 ≤ (wrap64 (t238 + bt246.1)) then (if (wrap64 (t238 + bt246.1)) ≤ (t234.size : Int) then (if ((t234.extract 0 (t238 : Int).toNat) ++ (rdOf ByteArray.empty y240 bt243.1)).size + (t234.extract ((wrap64 (t238 + bt246.1)) : Int).toNat t234.size).size ≤ 9223372036854775807 then (spec_DrawReadHeading.j0 k (((t234.extract 0 (t238 : Int).toNat) ++ (rdOf ByteArray.empty y240 bt243.1)) ++ (t234.extract ((wrap64 (t238 + bt246.1)) : Int).toNat t234.size)) t222 bt246.2) else (none)) else (none)) else (none))) else (none)) else (none)) else (none))) = some r := by first | (rw [hy240]; with_reducible exact H) | (have H2_ := (Option.bind_some _ _).symm.trans H; rw [hy240]; with_reducible exact H2_) | (have H2_ := (Option.bind_some _ _).symm.trans H; with_reducible exact H2_) | with_reducible exact H | (rw [hy240]; exact H) | exact H
          have Ny240 := Aside0.mk hy240
          clear hy240
          replace H := Option.bind_eq_some_iff.mp H
          obtain ⟨⟨t243, t244⟩, A150, H⟩ := H
          replace H : (if 0 ≤ t243 then (if t243 < (y240.length : Int) then (if (t234.extract 0 (t238 : Int).toNat).size + (rdOf ByteArray.empty y240 t243).size ≤ 9223372036854775807 then ((spec_l1Rd_below.f t222 t244 2).bind fun bt246 => (if 0 ≤ (wrap64 (t238 + bt246.1)) then (if (wrap64 (t238 + bt246.1)) ≤ (t234.size : Int) then (if ((t234.extract 0 (t238 : Int).toNat) ++ (rdOf ByteArray.empty y240 t243)).size + (t234.extract ((wrap64 (t238 + bt246.1)) : Int).toNat t234.size).size ≤ 9223372036854775807 then (spec_DrawReadHeading.j0 k (((t234.extract 0 (t238 : Int).toNat) ++ (rdOf ByteArray.empty y240 t243)) ++ (t234.extract ((wrap64 (t238 + bt246.1)) : Int).toNat t234.size)) t222 bt246.2) else (none)) else (none)) else (none))) else (none)) else (none)) else (none)) = some r := H
          have A15 := Aside0.mk A150
          clear A150
          by_cases c16 : 0 ≤ t243
          · rw [if_pos c16] at H
            have c16b0 : decide (0 ≤ t243) = true := decide_eq_true c16
            clear c16
            (first | rw [c16b0] | (simp only [i64_w, i32_w]; rw [c16b0]) | skip)
            by_cases c17 : t243 < (y240.length : Int)
            · rw [if_pos c17] at H
              have c17b0 : decide (t243 < (y240.length : Int)) = true := decide_eq_true c17
              clear c17
              by_cases c18 : (t234.extract 0 (t238 : Int).toNat).size + (rdOf ByteArray.empty y240 t243).size ≤ 9223372036854775807
              · rw [if_pos c18] at H
                have c18b0 := eq_true c18
                have c18b1 : decide ((t234.extract 0 (t238 : Int).toNat).size + (rdOf ByteArray.empty y240 t243).size ≤ 9223372036854775807) = true := decide_eq_true c18
                try have c18b2 : (9223372036854775807 < (t234.extract 0 (t238 : Int).toNat).size + (rdOf ByteArray.empty y240 t243).size) = False := eq_false (Nat.not_lt.2 c18)
                replace H := Option.bind_eq_some_iff.mp H
                obtain ⟨⟨t246, t247⟩, A190, H⟩ := H
                replace H : (if 0 ≤ (wrap64 (t238 + t246)) then (if (wrap64 (t238 + t246)) ≤ (t234.size : Int) then (if ((t234.extract 0 (t238 : Int).toNat) ++ (rdOf ByteArray.empty y240 t243)).size + (t234.extract ((wrap64 (t238 + t246)) : Int).toNat t234.size).size ≤ 9223372036854775807 then (spec_DrawReadHeading.j0 k (((t234.extract 0 (t238 : Int).toNat) ++ (rdOf ByteArray.empty y240 t243)) ++ (t234.extract ((wrap64 (t238 + t246)) : Int).toNat t234.size)) t222 t247) else (none)) else (none)) else (none)) = some r := H
                have A19 := Aside0.mk A190
                clear A190
                obtain ⟨ji20, hji20⟩ : ∃ j_ : Int, (wrap64 (t238 + t246)) = j_ := ⟨_, rfl⟩
                replace H : (if 0 ≤ (ji20) then (if (ji20) ≤ (t234.size : Int) then (if ((t234.extract 0 (t238 : Int).toNat) ++ (rdOf ByteArray.empty y240 t243)).size + (t234.extract ((ji20) : Int).toNat t234.size).size ≤ 9223372036854775807 then (spec_DrawReadHeading.j0 k (((t234.extract 0 (t238 : Int).toNat) ++ (rdOf ByteArray.empty y240 t243)) ++ (t234.extract ((ji20) : Int).toNat t234.size)) t222 t247) else (none)) else (none)) else (none)) = some r := by first | (rw [hji20] at H; exact H) | (simp only [hji20] at H ⊢; exact H)
                (try rw [hji20] at A12)
                (try rw [hji20] at A15)
                (try rw [hji20] at A19)
                have hji20w : (IntKind.i64.wrap (t238 + t246)) = ji20 := (i64_w _).trans hji20
                by_cases c21 : 0 ≤ (ji20)
                · rw [if_pos c21] at H
                  have c21b0 := eq_true c21
                  have c21b1 : decide (0 ≤ (ji20)) = true := decide_eq_true c21
                  clear c21
                  by_cases c22 : (ji20) ≤ (t234.size : Int)
                  · rw [if_pos c22] at H
                    have c22b0 := eq_true c22
                    have c22b1 : decide ((ji20) ≤ (t234.size : Int)) = true := decide_eq_true c22
                    clear c22
                    by_cases c23 : ((t234.extract 0 (t238 : Int).toNat) ++ (rdOf ByteArray.empty y240 t243)).size + (t234.extract ((ji20) : Int).toNat t234.size).size ≤ 9223372036854775807
                    · rw [if_pos c23] at H
                      have c23b0 := eq_true c23
                      have c23b1 : decide (((t234.extract 0 (t238 : Int).toNat) ++ (rdOf ByteArray.empty y240 t243)).size + (t234.extract ((ji20) : Int).toNat t234.size).size ≤ 9223372036854775807) = true := decide_eq_true c23
                      try have c23b2 : (9223372036854775807 < ((t234.extract 0 (t238 : Int).toNat) ++ (rdOf ByteArray.empty y240 t243)).size + (t234.extract ((ji20) : Int).toNat t234.size).size) = False := eq_false (Nat.not_lt.2 c23)
                      have H' := Aside0.mk H
                      clear H
                      try go_wp2_with (first | ((with_reducible refine gate_callee (f := 27) rfl ?_); refine goesL_ (some 20) rfl rfl Tryd.func27 (by kernel_rfl) rfl #[.pointer (some ⟨g224, 0, none⟩), .int .i64 (t234.size : Int)] rfl (by (try simp only [List.map_toArray, List.map_cons, List.map_nil]); first | done | rfl | (simp only [List.length_drop, List.length_take]; rfl)) ?_; (with_reducible refine (spec_l1Rd_below.calls g224 t222 t237 (t234.size : Int) t238 t239 w _ ?side1 ?side2 A12.out).mono ?_); (case side1 => repeat (first | (with_reducible first | exact HI224.out | apply IsS59.alloc | apply IsS59.drewN | apply IsS59.drew | apply IsS59.set_1) | exact HI224.out)); (case side2 => repeat (first | (with_reducible first | exact HB.out | apply below_alloc | apply pw_below_drewN | apply below_drew1 | refine below_set ?_ (IsS59.ge HI224.out)) | exact HB.out)); rintro e w24 ⟨rfl, hi, hb, hk⟩; refine ⟨_, rfl, ?_⟩; have n0_ := Aside0.mk (hb); have n1_ := Aside0.mk (hi); clear HB; clear HI224; have HB := n0_; have HI224 := n1_; clear n0_ n1_; (try clear hb); (try clear hb2); (try clear hk); (try clear hi)))
                      have pi245 : (0 ≤ (t243 : Int)) = True := eq_true (of_decide_eq_true (by first | (with_reducible assumption) | assumption))
                      have qi245 : (t243 < (y240.length : Int)) = True := eq_true (of_decide_eq_true (by first | (with_reducible assumption) | assumption))
                      have n0_ := Aside0.mk (IsS59.drew HI224.out)
                      have n1_ := Aside0.mk (below_drew1 HB.out)
                      clear HI224
                      clear HB
                      have HI224 := n0_
                      have HB := n1_
                      clear n0_ n1_
                      refine start_ (n := 17) (S := fun w' => True) (ds := []) #[false, false, false, false, false, false, false, false, false, false, false, false, false, false, false, false, false] (by kernel_rfl) rfl rfl trivial (fun hHeld => ?_); refine with_tabW spec_DrawReadHeading.tab5 spec_DrawReadHeading.bits5 (fun HT_ HW_ => ?_)
                      generalize w24.drew = w25 at HI224 HB hHeld ⊢
                      refine pure_ (i := 0) (N := some 21) (v := ?_) (a' := ?_) #[true, false, false, false, false, false, false, false, false, false, false, false, false, false, false, false, false] rfl rfl (any_of HT_.out (by kernel_rfl)) (fun _ _ _ h => h) (Or.inl ⟨by rfl, ?_⟩) ?_ ?_
                      rotate_left
                      · intro w'
                        go_simp
                        with_reducible rfl
                      rotate_left
                      · simp only [Act.put, List.setIfInBounds_toArray, List.set_cons_zero, List.set_cons_succ, i64_w, i32_w]
                        rfl
                      refine pure_ (i := 1) (N := some 22) (v := ?_) (a' := ?_) #[true, true, false, false, false, false, false, false, false, false, false, false, false, false, false, false, false] rfl rfl (any_of HT_.out (by kernel_rfl)) (fun _ _ _ h => h) (Or.inl ⟨by rfl, ?_⟩) ?_ ?_
                      rotate_left
                      · intro w'
                        go_simp
                        with_reducible rfl
                      rotate_left
                      · simp only [Act.put, List.setIfInBounds_toArray, List.set_cons_zero, List.set_cons_succ, i64_w, i32_w]
                        rfl
                      refine pure_ (i := 4) (N := some 25) (v := ?_) (a' := ?_) #[true, true, false, false, true, false, false, false, false, false, false, false, false, false, false, false, false] rfl rfl (any_of HT_.out (by kernel_rfl)) (fun _ _ _ h => h) (Or.inl ⟨by rfl, ?_⟩) ?_ ?_
                      rotate_left
                      · intro w'
                        go_simp
                        with_reducible rfl
                      rotate_left
                      · simp only [Act.put, List.setIfInBounds_toArray, List.set_cons_zero, List.set_cons_succ, i64_w, i32_w]
                        rfl
                      refine pure_ (i := 9) (N := some 30) (v := ?_) (a' := ?_) #[true, true, false, false, true, false, false, false, false, true, false, false, false, false, false, false, false] rfl rfl (any_of HT_.out (by kernel_rfl)) (fun _ _ _ h => h) (Or.inl ⟨by rfl, ?_⟩) ?_ ?_
                      rotate_left
                      · intro w'
                        go_simp
                        with_reducible rfl
                      rotate_left
                      · simp only [Act.put, List.setIfInBounds_toArray, List.set_cons_zero, List.set_cons_succ, i64_w, i32_w]
                        rfl
                      refine pure_ (i := 10) (N := some 31) (v := ?_) (a' := ?_) #[true, true, false, false, true, false, false, false, false, true, true, false, false, false, false, false, false] rfl rfl (any_of HT_.out (by kernel_rfl)) (fun _ _ _ h => h) (Or.inl ⟨by rfl, ?_⟩) ?_ ?_
                      rotate_left
                      · intro w'
                        go_simp
                        with_reducible rfl
                      rotate_left
                      · simp only [Act.put, List.setIfInBounds_toArray, List.set_cons_zero, List.set_cons_succ, i64_w, i32_w]
                        rfl
                      refine pure_ (i := 11) (N := some 32) (v := ?_) (a' := ?_) #[true, true, false, false, true, false, false, false, false, true, true, true, false, false, false, false, false] rfl rfl (any_of HT_.out (by kernel_rfl)) (fun _ _ _ h => h) (Or.inl ⟨by rfl, ?_⟩) ?_ ?_
                      rotate_left
                      · intro w'
                        go_simp
                        with_reducible rfl
                      rotate_left
                      · simp only [Act.put, List.setIfInBounds_toArray, List.set_cons_zero, List.set_cons_succ, i64_w, i32_w]
                        rfl
                      refine inv_at [2, 3, 5, 6, 7, 8, 12, 13, 14, 15, 16] (fun a0_ b a w' => ∃ (v241 : Value) (adz_v241 : Addr) (m6_ : Value), a = putSel a0_ b [(2, 23, .string (t234.extract 0 (t238 : Int).toNat)), (3, 24, v241), (5, 26, .int .i64 t243), (6, 27, m6_), (7, 28, .string (rdOf ByteArray.empty y240 t243)), (8, 29, .string ((t234.extract 0 (t238 : Int).toNat) ++ (rdOf ByteArray.empty y240 t243))), (12, 33, .int .i64 t246), (13, 34, .int .i64 ji20), (14, 35, .string (t234.extract ((ji20) : Int).toNat t234.size)), (15, 36, .string (((t234.extract 0 (t238 : Int).toNat) ++ (rdOf ByteArray.empty y240 t243)) ++ (t234.extract ((ji20) : Int).toNat t234.size))), (16, 4, .string (((t234.extract 0 (t238 : Int).toNat) ++ (rdOf ByteArray.empty y240 t243)) ++ (t234.extract ((ji20) : Int).toNat t234.size)))] ∧ (b 5 = false → IsS59 w w' g224 t222 t239) ∧ (Below w.heap.size w w') ∧ (b 3 = true → Kd.R Kd.string 9 w' w.heap.size (fun _ => True) v241 y240) ∧ (b 3 = true → ∃ c_, (v241 : Value) = .slice (some adz_v241) y240.length c_) ∧ (b 5 = true → b 12 = false → IsS59 w w' g224 t222 t244) ∧ (b 12 = true → IsS59 w w' g224 t222 t247) ∧ (b 6 = true → (m6_ : Value) = .pointer (some (adz_v241.add (t243).toNat)))) HT_.out HW_.out (by kernel_rfl) (by kernel_rfl) ?_ ?_ ?_
                      · exact ⟨.bool false, ⟨0, 0, none⟩, .bool false, by simp only [putSel, Bool.false_eq_true, if_false], fun _ => HI224.out, HB.out, fun h_ => absurd h_ (by decide), fun h_ => absurd h_ (by decide), fun h_ => absurd h_ (by decide), fun h_ => absurd h_ (by decide), fun h_ => absurd h_ (by decide)⟩
                      · skip
                        clear HB HI224
                        refine steps_cons ?_ ?_
                        · rintro b a w' ⟨v241, adz_v241, m6_, ha, Q_HI224, Q_HB, Q_HO242, Q_HA_HO242, Q_HI224_e5, Q_HI224_e12, Q_X6_⟩ hb_ hon hoff
                          refine ⟨_, rfl, fun K hK => ?_⟩
                          have e21 : a.tmps[21]? = some (.string t234) := by rw [ha]; exact (putSel_off rfl).trans rfl
                          have e22 : a.tmps[22]? = some (.int .i64 t238) := by rw [ha]; exact (putSel_off rfl).trans rfl
                          replace ha := Aside0.mk ha
                          have HB := Aside0.mk Q_HB
                          refine value_ (w1 := w') (v := .string (t234.extract 0 (t238 : Int).toNat)) (by rfl) rfl ?_ ?_
                          · go_simp
                            (try simp only [i64_w])
                            try rfl
                          refine hK.out _ _ ⟨v241, adz_v241, m6_, (by rw [ha.out]; exact putSel_upk 0 hb_ rfl rfl rfl), Q_HI224, Q_HB, Q_HO242, Q_HA_HO242, Q_HI224_e5, Q_HI224_e12, Q_X6_⟩
                        refine steps_cons ?_ ?_
                        · rintro b a w' ⟨v241, adz_v241, m6_, ha, Q_HI224, Q_HB, Q_HO242, Q_HA_HO242, Q_HI224_e5, Q_HI224_e12, Q_X6_⟩ hb_ hon hoff
                          refine ⟨_, rfl, fun K hK => ?_⟩
                          replace ha := Aside0.mk ha
                          have HB := Aside0.mk Q_HB
                          refine Kd.R_lit_step Kd.string _ 9 ?hg (N := 24) ?hd (xs := ([(⟨#[]⟩ : ByteArray), (⟨#[32]⟩ : ByteArray), (⟨#[32, 32]⟩ : ByteArray), (⟨#[48]⟩ : ByteArray), (⟨#[65]⟩ : ByteArray), (⟨#[57]⟩ : ByteArray), (⟨#[45]⟩ : ByteArray)] : List ByteArray)) (inner := [.string (⟨#[]⟩ : ByteArray), .string (⟨#[32]⟩ : ByteArray), .string (⟨#[32, 32]⟩ : ByteArray), .string (⟨#[48]⟩ : ByteArray), .string (⟨#[65]⟩ : ByteArray), .string (⟨#[57]⟩ : ByteArray), .string (⟨#[45]⟩ : ByteArray)]) (ok := fun _ => True) (okp := fun _ => True) ?hr ?hp (fun _ hk => hk) trivial (Below.refl _ _) (Nat.le_refl _) (by simp) ?_; (case hd => rfl); (case hg => rfl); (case hr => first | (go_simp; done) | (go_simp; rfl)); (case hp => exact (Reps.one (show Kd.M Kd.string _ _ _ (⟨#[]⟩ : ByteArray) [.string (⟨#[]⟩ : ByteArray)] from rfl) (Reps.one (show Kd.M Kd.string _ _ _ (⟨#[32]⟩ : ByteArray) [.string (⟨#[32]⟩ : ByteArray)] from rfl) (Reps.one (show Kd.M Kd.string _ _ _ (⟨#[32, 32]⟩ : ByteArray) [.string (⟨#[32, 32]⟩ : ByteArray)] from rfl) (Reps.one (show Kd.M Kd.string _ _ _ (⟨#[48]⟩ : ByteArray) [.string (⟨#[48]⟩ : ByteArray)] from rfl) (Reps.one (show Kd.M Kd.string _ _ _ (⟨#[65]⟩ : ByteArray) [.string (⟨#[65]⟩ : ByteArray)] from rfl) (Reps.one (show Kd.M Kd.string _ _ _ (⟨#[57]⟩ : ByteArray) [.string (⟨#[57]⟩ : ByteArray)] from rfl) (Reps.one (show Kd.M Kd.string _ _ _ (⟨#[45]⟩ : ByteArray) [.string (⟨#[45]⟩ : ByteArray)] from rfl) (Reps.none _ _)))))))))
                          intro v241 w26 ho27 hb hg_ hnew_
                          clear hg_ hnew_
                          (first | rw [← Ny240.out] at ho27 | (simp only [Int.reduceToNat] at ho27; rw [← Ny240.out] at ho27))
                          have n0_ := Aside0.mk (Kd.R_lower ho27 (below_size (by repeat (first | (with_reducible first | exact HB.out | apply below_alloc | apply pw_below_drewN | apply below_drew1) | exact HB.out))))
                          have n2_ := Aside0.mk (below_step (by repeat (first | (with_reducible first | exact HB.out | apply below_alloc | apply pw_below_drewN | apply below_drew1) | exact HB.out)) hb)
                          have z_HI224 := fun (h0_ : b 5 = false) => (show IsS59 w w26 g224 t222 t239 from by first | exact (IsS59.below (by repeat (first | (with_reducible first | exact (Q_HI224 h0_) | apply IsS59.alloc | apply IsS59.drewN | apply IsS59.drew | apply IsS59.set_1) | exact (Q_HI224 h0_))) hb))
                          have z_HI224_e5 := fun (h0_ : b 5 = true) (h1_ : b 12 = false) => (show IsS59 w w26 g224 t222 t244 from by first | exact (IsS59.below (by repeat (first | (with_reducible first | exact (Q_HI224_e5 h0_ h1_) | apply IsS59.alloc | apply IsS59.drewN | apply IsS59.drew | apply IsS59.set_1) | exact (Q_HI224_e5 h0_ h1_))) hb))
                          have z_HI224_e12 := fun (h0_ : b 12 = true) => (show IsS59 w w26 g224 t222 t247 from by first | exact (IsS59.below (by repeat (first | (with_reducible first | exact (Q_HI224_e12 h0_) | apply IsS59.alloc | apply IsS59.drewN | apply IsS59.drew | apply IsS59.set_1) | exact (Q_HI224_e12 h0_))) hb))
                          clear HB
                          have HO242 := n0_
                          have HB := n2_
                          clear n0_ n2_
                          clear hb ho27
                          obtain ⟨Ao28, co28, eo28⟩ := Kd.R_slice HO242.out
                          subst eo28
                          obtain ⟨ado28, fo28, _⟩ := Kd.at_string (Kd.R_reads' HO242.out).2.2 0 (by decide) (by rw [Ny240.out]; simp)
                          cases fo28
                          refine hK.out _ _ ⟨.slice (some ado28) y240.length co28, ado28, m6_, (by rw [ha.out]; exact putSel_upk 1 hb_ rfl rfl rfl), z_HI224, (by repeat (first | (with_reducible first | exact HB.out | apply below_alloc | apply pw_below_drewN | apply below_drew1) | exact HB.out)), fun _ => (by (with_reducible repeat (first | apply Kd.R_alloc | apply Kd.R_drewN | apply Kd.R_drew)); exact HO242.out), fun _ => ⟨_, rfl⟩, z_HI224_e5, z_HI224_e12, fun h0_ => absurd ((hoff 6 (by kernel_rfl)).symm.trans h0_) (by decide)⟩
                        refine steps_cons ?_ ?_
                        · rintro b a w' ⟨v241, adz_v241, m6_, ha, Q_HI224, Q_HB, Q_HO242, Q_HA_HO242, Q_HI224_e5, Q_HI224_e12, Q_X6_⟩ hb_ hon hoff
                          refine ⟨_, rfl, fun K hK => ?_⟩
                          have e25 : a.tmps[25]? = some (.pointer (some ⟨g224, 0, none⟩)) := by rw [ha]; exact (putSel_off rfl).trans rfl
                          replace ha := Aside0.mk ha
                          have HI224 := Aside0.mk (Q_HI224 hb_)
                          have HB := Aside0.mk Q_HB
                          refine goes_ Tryd.func27 (by kernel_rfl) rfl #[.pointer (some ⟨g224, 0, none⟩), .int .i64 7] (by rfl) rfl rfl (by first | (simp only [List.map_toArray, List.map_cons, List.map_nil, Act.eval, Array.getD_eq_getD_getElem?, Option.getD_some, e25]; done) | (simp only [List.map_toArray, List.map_cons, List.map_nil, Act.eval, Array.getD_eq_getD_getElem?, Option.getD_some, e25]; rfl)) ?_
                          with_reducible refine (spec_l1Rd_below.calls g224 t222 t239 7 t243 t244 w _ ?side1 ?side2 A15.out).mono ?_
                          (case side1 => repeat (first | (with_reducible first | exact HI224.out | apply IsS59.alloc | apply IsS59.drewN | apply IsS59.drew | apply IsS59.set_1) | exact HI224.out))
                          (case side2 => repeat (first | (with_reducible first | exact HB.out | apply below_alloc | apply pw_below_drewN | apply below_drew1 | refine below_set ?_ (IsS59.ge HI224.out)) | exact HB.out))
                          rintro e w26 ⟨rfl, hi, hb, hk⟩
                          refine ⟨_, rfl, ?_⟩
                          have n0_ := Aside0.mk (hb)
                          have n1_ := Aside0.mk (hi)
                          have z_HO242 := fun (h0_ : b 3 = true) => (show Kd.R Kd.string 9 w26 w.heap.size (fun _ => True) v241 y240 from by first | exact (Kd.R_mono (Kd.R_keep (IsS59.apart (show IsS59 w _ g224 t222 t239 from by repeat (first | (with_reducible first | exact HI224.out | apply IsS59.alloc | apply IsS59.drewN | apply IsS59.drew | apply IsS59.set_1) | exact HI224.out)) (by (with_reducible repeat (first | apply Kd.R_alloc | apply Kd.R_drewN | apply Kd.R_drew)); exact (Q_HO242 h0_)) (by decide)) hk (fun _ h => h.2)) (fun _ h => h.1)) | exact Kd.R_mono (Kd.R_mono (Kd.R_keep (IsS59.apart (show IsS59 w _ g224 t222 t239 from by repeat (first | (with_reducible first | exact HI224.out | apply IsS59.alloc | apply IsS59.drewN | apply IsS59.drew | apply IsS59.set_1) | exact HI224.out)) (by (with_reducible repeat (first | apply Kd.R_alloc | apply Kd.R_drewN | apply Kd.R_drew)); exact (Q_HO242 h0_)) (by decide)) hk (fun _ h => h.2)) (fun _ h => h.1)) (fun _ h_ => by first | trivial | exact h_ | exact h_.1))
                          clear HB
                          clear HI224
                          have HB := n0_
                          have HI224 := n1_
                          clear n0_ n1_
                          (try clear hb)
                          (try clear hb2)
                          (try clear hk)
                          (try clear hi)
                          refine hK.out _ _ ⟨v241, adz_v241, m6_, (by rw [ha.out]; exact putSel_upk 2 hb_ rfl rfl rfl), fun h0_ => absurd ((up_self b 5).symm.trans h0_) (by decide), (by repeat (first | (with_reducible first | exact HB.out | apply below_alloc | apply pw_below_drewN | apply below_drew1 | refine below_set ?_ (IsS59.ge HI224.out)) | exact HB.out)), z_HO242, Q_HA_HO242, fun _ _ => (by repeat (first | (with_reducible first | exact HI224.out | apply IsS59.alloc | apply IsS59.drewN | apply IsS59.drew | apply IsS59.set_1) | exact HI224.out)), fun h0_ => absurd ((hoff 12 (by kernel_rfl)).symm.trans h0_) (by decide), fun h0_ => absurd ((hoff 6 (by kernel_rfl)).symm.trans h0_) (by decide)⟩
                        refine steps_cons ?_ ?_
                        · rintro b a w' ⟨v241, adz_v241, m6_, ha, Q_HI224, Q_HB, Q_HO242, Q_HA_HO242, Q_HI224_e5, Q_HI224_e12, Q_X6_⟩ hb_ hon hoff
                          refine ⟨_, rfl, fun K hK => ?_⟩
                          have e24 : a.tmps[24]? = some (v241) := by rw [ha]; exact putSel_on (e := (3, 24, v241)) 1 rfl rfl (hon 3 (by kernel_rfl)) rfl
                          have e26 : a.tmps[26]? = some (.int .i64 t243) := by rw [ha]; exact putSel_on (e := (5, 26, .int .i64 t243)) 2 rfl rfl (hon 5 (by kernel_rfl)) rfl
                          replace ha := Aside0.mk ha
                          have HB := Aside0.mk Q_HB
                          have HO242 := Aside0.mk (Q_HO242 (hon 3 (by kernel_rfl)))
                          have HA_HO242 := Aside0.mk (Q_HA_HO242 (hon 3 (by kernel_rfl)))
                          obtain ⟨c_, hv_⟩ := HA_HO242.out
                          rw [hv_] at e24
                          refine value_ (w1 := w') (v := .pointer (some (adz_v241.add (t243).toNat))) (by rfl) rfl ?_ ?_
                          · go_simp
                            (try simp only [i64_w])
                            try rfl
                          refine hK.out _ _ ⟨v241, adz_v241, (.pointer (some (adz_v241.add (t243).toNat))), (by rw [ha.out]; exact putSel_upk 3 hb_ rfl rfl rfl), fun h0_ => absurd ((hon 5 (by kernel_rfl)).symm.trans h0_) (by decide), Q_HB, Q_HO242, Q_HA_HO242, Q_HI224_e5, Q_HI224_e12, fun _ => rfl⟩
                        refine steps_cons ?_ ?_
                        · rintro b a w' ⟨v241, adz_v241, m6_, ha, Q_HI224, Q_HB, Q_HO242, Q_HA_HO242, Q_HI224_e5, Q_HI224_e12, Q_X6_⟩ hb_ hon hoff
                          refine ⟨_, rfl, fun K hK => ?_⟩
                          have e27 : a.tmps[27]? = some (m6_) := by rw [ha]; exact putSel_on (e := (6, 27, m6_)) 3 rfl rfl (hon 6 (by kernel_rfl)) rfl
                          rw [Q_X6_ (hon 6 (by kernel_rfl))] at e27
                          replace ha := Aside0.mk ha
                          have HB := Aside0.mk Q_HB
                          have HO242 := Aside0.mk (Q_HO242 (hon 3 (by kernel_rfl)))
                          have HA_HO242 := Aside0.mk (Q_HA_HO242 (hon 3 (by kernel_rfl)))
                          obtain ⟨c_, hv_⟩ := HA_HO242.out
                          have hF_ := HO242.out
                          rw [hv_] at hF_
                          obtain ⟨ad_, ea_, hx_⟩ := Kd.at_string (Kd.R_reads' hF_).2.2 t243 (of_eq_true pi245) (of_eq_true qi245)
                          cases ea_
                          refine value_ (w1 := w') (v := .string (rdOf ByteArray.empty y240 t243)) (by rfl) rfl ?_ ?_
                          · go_simp
                            (try simp only [i64_w])
                            try rfl
                          refine hK.out _ _ ⟨v241, adz_v241, m6_, (by rw [ha.out]; exact putSel_upk 4 hb_ rfl rfl rfl), fun h0_ => absurd ((hon 5 (by kernel_rfl)).symm.trans h0_) (by decide), Q_HB, Q_HO242, Q_HA_HO242, Q_HI224_e5, Q_HI224_e12, Q_X6_⟩
                        refine steps_cons ?_ ?_
                        · rintro b a w' ⟨v241, adz_v241, m6_, ha, Q_HI224, Q_HB, Q_HO242, Q_HA_HO242, Q_HI224_e5, Q_HI224_e12, Q_X6_⟩ hb_ hon hoff
                          refine ⟨_, rfl, fun K hK => ?_⟩
                          have e23 : a.tmps[23]? = some (.string (t234.extract 0 (t238 : Int).toNat)) := by rw [ha]; exact putSel_on (e := (2, 23, .string (t234.extract 0 (t238 : Int).toNat))) 0 rfl rfl (hon 2 (by kernel_rfl)) rfl
                          have e28 : a.tmps[28]? = some (.string (rdOf ByteArray.empty y240 t243)) := by rw [ha]; exact putSel_on (e := (7, 28, .string (rdOf ByteArray.empty y240 t243))) 4 rfl rfl (hon 7 (by kernel_rfl)) rfl
                          replace ha := Aside0.mk ha
                          have HB := Aside0.mk Q_HB
                          have HO242 := Aside0.mk (Q_HO242 (hon 3 (by kernel_rfl)))
                          have HA_HO242 := Aside0.mk (Q_HA_HO242 (hon 3 (by kernel_rfl)))
                          refine value_ (w1 := w') (v := .string ((t234.extract 0 (t238 : Int).toNat) ++ (rdOf ByteArray.empty y240 t243))) (by rfl) rfl ?_ ?_
                          · go_simp
                            (try simp only [i64_w])
                            try rfl
                            all_goals (have h_ := c18; have g1_ := of_eq_true c13b0; have g2_ := of_eq_true c14b0; simp only [ByteArray.size_append, ByteArray.size_extract] at h_ ⊢; omega)
                          refine hK.out _ _ ⟨v241, adz_v241, m6_, (by rw [ha.out]; exact putSel_upk 5 hb_ rfl rfl rfl), fun h0_ => absurd ((hon 5 (by kernel_rfl)).symm.trans h0_) (by decide), Q_HB, Q_HO242, Q_HA_HO242, Q_HI224_e5, Q_HI224_e12, Q_X6_⟩
                        refine steps_cons ?_ ?_
                        · rintro b a w' ⟨v241, adz_v241, m6_, ha, Q_HI224, Q_HB, Q_HO242, Q_HA_HO242, Q_HI224_e5, Q_HI224_e12, Q_X6_⟩ hb_ hon hoff
                          refine ⟨_, rfl, fun K hK => ?_⟩
                          have e32 : a.tmps[32]? = some (.pointer (some ⟨g224, 0, none⟩)) := by rw [ha]; exact (putSel_off rfl).trans rfl
                          replace ha := Aside0.mk ha
                          have HB := Aside0.mk Q_HB
                          have HI224 := Aside0.mk (Q_HI224_e5 (hon 5 (by kernel_rfl)) hb_)
                          refine goes_ Tryd.func27 (by kernel_rfl) rfl #[.pointer (some ⟨g224, 0, none⟩), .int .i64 2] (by rfl) rfl rfl (by first | (simp only [List.map_toArray, List.map_cons, List.map_nil, Act.eval, Array.getD_eq_getD_getElem?, Option.getD_some, e32]; done) | (simp only [List.map_toArray, List.map_cons, List.map_nil, Act.eval, Array.getD_eq_getD_getElem?, Option.getD_some, e32]; rfl)) ?_
                          with_reducible refine (spec_l1Rd_below.calls g224 t222 t244 2 t246 t247 w _ ?side1 ?side2 A19.out).mono ?_
                          (case side1 => repeat (first | (with_reducible first | exact HI224.out | apply IsS59.alloc | apply IsS59.drewN | apply IsS59.drew | apply IsS59.set_1) | exact HI224.out))
                          (case side2 => repeat (first | (with_reducible first | exact HB.out | apply below_alloc | apply pw_below_drewN | apply below_drew1 | refine below_set ?_ (IsS59.ge HI224.out)) | exact HB.out))
                          rintro e w28 ⟨rfl, hi, hb, hk⟩
                          refine ⟨_, rfl, ?_⟩
                          have n0_ := Aside0.mk (hb)
                          have n1_ := Aside0.mk (hi)
                          have z_HO242 := fun (h0_ : b 3 = true) => (show Kd.R Kd.string 9 w28 w.heap.size (fun _ => True) v241 y240 from by first | exact (Kd.R_mono (Kd.R_keep (IsS59.apart (show IsS59 w _ g224 t222 t244 from by repeat (first | (with_reducible first | exact HI224.out | apply IsS59.alloc | apply IsS59.drewN | apply IsS59.drew | apply IsS59.set_1) | exact HI224.out)) (by (with_reducible repeat (first | apply Kd.R_alloc | apply Kd.R_drewN | apply Kd.R_drew)); exact (Q_HO242 h0_)) (by decide)) hk (fun _ h => h.2)) (fun _ h => h.1)) | exact Kd.R_mono (Kd.R_mono (Kd.R_keep (IsS59.apart (show IsS59 w _ g224 t222 t244 from by repeat (first | (with_reducible first | exact HI224.out | apply IsS59.alloc | apply IsS59.drewN | apply IsS59.drew | apply IsS59.set_1) | exact HI224.out)) (by (with_reducible repeat (first | apply Kd.R_alloc | apply Kd.R_drewN | apply Kd.R_drew)); exact (Q_HO242 h0_)) (by decide)) hk (fun _ h => h.2)) (fun _ h => h.1)) (fun _ h_ => by first | trivial | exact h_ | exact h_.1))
                          clear HB
                          clear HI224
                          have HB := n0_
                          have HI224 := n1_
                          clear n0_ n1_
                          (try clear hb)
                          (try clear hb2)
                          (try clear hk)
                          (try clear hi)
                          refine hK.out _ _ ⟨v241, adz_v241, m6_, (by rw [ha.out]; exact putSel_upk 6 hb_ rfl rfl rfl), fun h0_ => absurd ((hon 5 (by kernel_rfl)).symm.trans h0_) (by decide), (by repeat (first | (with_reducible first | exact HB.out | apply below_alloc | apply pw_below_drewN | apply below_drew1 | refine below_set ?_ (IsS59.ge HI224.out)) | exact HB.out)), z_HO242, Q_HA_HO242, fun _ h1_ => absurd ((up_self b 12).symm.trans h1_) (by decide), fun _ => (by repeat (first | (with_reducible first | exact HI224.out | apply IsS59.alloc | apply IsS59.drewN | apply IsS59.drew | apply IsS59.set_1) | exact HI224.out)), Q_X6_⟩
                        refine steps_cons ?_ ?_
                        · rintro b a w' ⟨v241, adz_v241, m6_, ha, Q_HI224, Q_HB, Q_HO242, Q_HA_HO242, Q_HI224_e5, Q_HI224_e12, Q_X6_⟩ hb_ hon hoff
                          refine ⟨_, rfl, fun K hK => ?_⟩
                          have e31 : a.tmps[31]? = some (.int .i64 t238) := by rw [ha]; exact (putSel_off rfl).trans rfl
                          have e33 : a.tmps[33]? = some (.int .i64 t246) := by rw [ha]; exact putSel_on (e := (12, 33, .int .i64 t246)) 6 rfl rfl (hon 12 (by kernel_rfl)) rfl
                          replace ha := Aside0.mk ha
                          have HB := Aside0.mk Q_HB
                          have HI224 := Aside0.mk (Q_HI224_e12 (hon 12 (by kernel_rfl)))
                          refine value_ (w1 := w') (v := .int .i64 ji20) (by rfl) rfl ?_ ?_
                          · go_simp
                            (try simp only [i64_w])
                            try rfl
                          refine hK.out _ _ ⟨v241, adz_v241, m6_, (by rw [ha.out]; exact putSel_upk 7 hb_ rfl rfl rfl), fun h0_ => absurd ((hon 5 (by kernel_rfl)).symm.trans h0_) (by decide), Q_HB, Q_HO242, Q_HA_HO242, fun _ h1_ => absurd ((hon 12 (by kernel_rfl)).symm.trans h1_) (by decide), Q_HI224_e12, Q_X6_⟩
                        refine steps_cons ?_ ?_
                        · rintro b a w' ⟨v241, adz_v241, m6_, ha, Q_HI224, Q_HB, Q_HO242, Q_HA_HO242, Q_HI224_e5, Q_HI224_e12, Q_X6_⟩ hb_ hon hoff
                          refine ⟨_, rfl, fun K hK => ?_⟩
                          have e30 : a.tmps[30]? = some (.string t234) := by rw [ha]; exact (putSel_off rfl).trans rfl
                          have e34 : a.tmps[34]? = some (.int .i64 ji20) := by rw [ha]; exact putSel_on (e := (13, 34, .int .i64 ji20)) 7 rfl rfl (hon 13 (by kernel_rfl)) rfl
                          replace ha := Aside0.mk ha
                          have HB := Aside0.mk Q_HB
                          have HI224 := Aside0.mk (Q_HI224_e12 (hon 12 (by kernel_rfl)))
                          refine value_ (w1 := w') (v := .string (t234.extract ((ji20) : Int).toNat t234.size)) (by rfl) rfl ?_ ?_
                          · go_simp
                            (try simp only [i64_w])
                            try rfl
                          refine hK.out _ _ ⟨v241, adz_v241, m6_, (by rw [ha.out]; exact putSel_upk 8 hb_ rfl rfl rfl), fun h0_ => absurd ((hon 5 (by kernel_rfl)).symm.trans h0_) (by decide), Q_HB, Q_HO242, Q_HA_HO242, fun _ h1_ => absurd ((hon 12 (by kernel_rfl)).symm.trans h1_) (by decide), Q_HI224_e12, Q_X6_⟩
                        refine steps_cons ?_ ?_
                        · rintro b a w' ⟨v241, adz_v241, m6_, ha, Q_HI224, Q_HB, Q_HO242, Q_HA_HO242, Q_HI224_e5, Q_HI224_e12, Q_X6_⟩ hb_ hon hoff
                          refine ⟨_, rfl, fun K hK => ?_⟩
                          have e29 : a.tmps[29]? = some (.string ((t234.extract 0 (t238 : Int).toNat) ++ (rdOf ByteArray.empty y240 t243))) := by rw [ha]; exact putSel_on (e := (8, 29, .string ((t234.extract 0 (t238 : Int).toNat) ++ (rdOf ByteArray.empty y240 t243)))) 5 rfl rfl (hon 8 (by kernel_rfl)) rfl
                          have e35 : a.tmps[35]? = some (.string (t234.extract ((ji20) : Int).toNat t234.size)) := by rw [ha]; exact putSel_on (e := (14, 35, .string (t234.extract ((ji20) : Int).toNat t234.size))) 8 rfl rfl (hon 14 (by kernel_rfl)) rfl
                          replace ha := Aside0.mk ha
                          have HB := Aside0.mk Q_HB
                          have HO242 := Aside0.mk (Q_HO242 (hon 3 (by kernel_rfl)))
                          have HA_HO242 := Aside0.mk (Q_HA_HO242 (hon 3 (by kernel_rfl)))
                          have HI224 := Aside0.mk (Q_HI224_e12 (hon 12 (by kernel_rfl)))
                          refine value_ (w1 := w') (v := .string (((t234.extract 0 (t238 : Int).toNat) ++ (rdOf ByteArray.empty y240 t243)) ++ (t234.extract ((ji20) : Int).toNat t234.size))) (by rfl) rfl ?_ ?_
                          · go_simp
                            (try simp only [i64_w])
                            try rfl
                            all_goals (have h_ := c23; have g1_ := of_eq_true c13b0; have g2_ := of_eq_true c14b0; simp only [ByteArray.size_append, ByteArray.size_extract] at h_ ⊢; omega)
                          refine hK.out _ _ ⟨v241, adz_v241, m6_, (by rw [ha.out]; exact putSel_upk 9 hb_ rfl rfl rfl), fun h0_ => absurd ((hon 5 (by kernel_rfl)).symm.trans h0_) (by decide), Q_HB, Q_HO242, Q_HA_HO242, fun _ h1_ => absurd ((hon 12 (by kernel_rfl)).symm.trans h1_) (by decide), Q_HI224_e12, Q_X6_⟩
                        refine steps_cons ?_ ?_
                        · rintro b a w' ⟨v241, adz_v241, m6_, ha, Q_HI224, Q_HB, Q_HO242, Q_HA_HO242, Q_HI224_e5, Q_HI224_e12, Q_X6_⟩ hb_ hon hoff
                          refine ⟨_, rfl, fun K hK => ?_⟩
                          have e36 : a.tmps[36]? = some (.string (((t234.extract 0 (t238 : Int).toNat) ++ (rdOf ByteArray.empty y240 t243)) ++ (t234.extract ((ji20) : Int).toNat t234.size))) := by rw [ha]; exact putSel_on (e := (15, 36, .string (((t234.extract 0 (t238 : Int).toNat) ++ (rdOf ByteArray.empty y240 t243)) ++ (t234.extract ((ji20) : Int).toNat t234.size)))) 9 rfl rfl (hon 15 (by kernel_rfl)) rfl
                          replace ha := Aside0.mk ha
                          have HB := Aside0.mk Q_HB
                          have HO242 := Aside0.mk (Q_HO242 (hon 3 (by kernel_rfl)))
                          have HA_HO242 := Aside0.mk (Q_HA_HO242 (hon 3 (by kernel_rfl)))
                          have HI224 := Aside0.mk (Q_HI224_e12 (hon 12 (by kernel_rfl)))
                          refine value_ (w1 := w') (v := .string (((t234.extract 0 (t238 : Int).toNat) ++ (rdOf ByteArray.empty y240 t243)) ++ (t234.extract ((ji20) : Int).toNat t234.size))) (by rfl) rfl ?_ ?_
                          · go_simp
                            (try simp only [i64_w])
                            try rfl
                          refine hK.out _ _ ⟨v241, adz_v241, m6_, (by rw [ha.out]; exact putSel_upk 10 hb_ rfl rfl rfl), fun h0_ => absurd ((hon 5 (by kernel_rfl)).symm.trans h0_) (by decide), Q_HB, Q_HO242, Q_HA_HO242, fun _ h1_ => absurd ((hon 12 (by kernel_rfl)).symm.trans h1_) (by decide), Q_HI224_e12, Q_X6_⟩
                        exact steps_nil
                      rintro b a w31 hall ⟨v241, adz_v241, m6_, ha, Q_HI224, Q_HB, Q_HO242, Q_HA_HO242, Q_HI224_e5, Q_HI224_e12, Q_X6_⟩
                      clear HB HI224
                      have hb2_ := hall 2 (by kernel_rfl)
                      have hb3_ := hall 3 (by kernel_rfl)
                      have hb5_ := hall 5 (by kernel_rfl)
                      have hb6_ := hall 6 (by kernel_rfl)
                      have hb7_ := hall 7 (by kernel_rfl)
                      have hb8_ := hall 8 (by kernel_rfl)
                      have hb12_ := hall 12 (by kernel_rfl)
                      have hb13_ := hall 13 (by kernel_rfl)
                      have hb14_ := hall 14 (by kernel_rfl)
                      have hb15_ := hall 15 (by kernel_rfl)
                      have hb16_ := hall 16 (by kernel_rfl)
                      subst ha
                      obtain rfl := Q_X6_ hb6_
                      simp only [putSel, hb2_, hb3_, hb5_, hb6_, hb7_, hb8_, hb12_, hb13_, hb14_, hb15_, hb16_, if_true, Act.put, List.setIfInBounds_toArray, List.set_cons_zero, List.set_cons_succ]
                      clear Q_HI224
                      have HB := Aside0.mk Q_HB
                      clear Q_HB
                      have HO242 := Aside0.mk (Q_HO242 hb3_)
                      clear Q_HO242
                      have HA_HO242 := Aside0.mk (Q_HA_HO242 hb3_)
                      clear Q_HA_HO242
                      clear Q_HI224_e5
                      have HI224 := Aside0.mk (Q_HI224_e12 hb12_)
                      clear Q_HI224_e12
                      clear hall hb2_ hb3_ hb5_ hb6_ hb7_ hb8_ hb12_ hb13_ hb14_ hb15_ hb16_
                      obtain ⟨co32, eo32⟩ := HA_HO242.out
                      clear HA_HO242
                      subst eo32
                      try go_wp2
                      go_meet
                      case rel => exact ⟨_, (((t234.extract 0 (t238 : Int).toNat) ++ (rdOf ByteArray.empty y240 t243)) ++ (t234.extract ((ji20) : Int).toNat t234.size)), (t247), (by first | rfl | (simp; done) | (simp only [← hji20] <;> (first | rfl | simp)) | (simp [*]; done)), H', ⟨by first | omega | exact Nat.le_refl _⟩, ⟨by repeat (first | (with_reducible first | exact HI224.out | apply IsS59.alloc | apply IsS59.drewN | apply IsS59.drew | apply IsS59.set_1) | exact HI224.out)⟩, ⟨by repeat (first | (with_reducible first | exact HB.out | apply below_alloc | apply pw_below_drewN | apply below_drew1 | refine below_set ?_ (IsS59.ge HI224.out)) | exact HB.out)⟩⟩
                    · rw [if_neg c23] at H
                      exact absurd H (by simp)
                  · rw [if_neg c22] at H
                    exact absurd H (by simp)
                · rw [if_neg c21] at H
                  exact absurd H (by simp)
              · rw [if_neg c18] at H
                exact absurd H (by simp)
            · rw [if_neg c17] at H
              exact absurd H (by simp)
          · rw [if_neg c16] at H
            exact absurd H (by simp)
        · rw [if_neg c14] at H
          exact absurd H (by simp)
      · rw [if_neg c13] at H
        exact absurd H (by simp)
    · replace c11 := Bool.eq_false_iff.mpr c11
      subst c11
      have H1 : (spec_DrawReadHeading.j0 k t234 t222 t237) = some r := by rw [if_neg (show ¬ (false = true) by decide)] at H; exact H
      clear H
      have H := H1
      clear H1
      have H' := Aside0.mk H
      clear H
      go_wp2
      go_meet
      case rel => exact ⟨_, (t234), (t237), (by first | rfl | (simp; done) | (simp [*]; done)), H', ⟨by first | omega | exact Nat.le_refl _⟩, ⟨by repeat (first | (with_reducible first | exact HI224.out | apply IsS59.alloc | apply IsS59.drewN | apply IsS59.drew | apply IsS59.set_1) | exact HI224.out)⟩, ⟨by repeat (first | (with_reducible first | exact HB.out | apply below_alloc | apply pw_below_drewN | apply below_drew1 | refine below_set ?_ (IsS59.ge HI224.out)) | exact HB.out)⟩⟩
  case rest =>
    clear HC6
    try clear c1
    try clear c2
    try clear p2
    try clear qi2
    try clear c3
    try clear p6
    try clear c10
    try clear c11
    try clear c12
    try clear c13
    try clear c13b0
    try clear c13b1
    try clear c14
    try clear c14b0
    try clear c14b1
    try clear c16
    try clear c16b0
    try clear c17
    try clear c17b0
    try clear c18
    try clear c18b0
    try clear c18b1
    try clear c18b2
    try clear c21
    try clear c21b0
    try clear c21b1
    try clear c22
    try clear c22b0
    try clear c22b1
    try clear c23
    try clear c23b0
    try clear c23b1
    try clear c23b2
    try clear qi24
    try clear c25
    try clear c26
    try clear c27
    try clear c31
    obtain ⟨kq, x4_5, x225001_5, rfl, HA, HJ5, HI224, HB⟩ := hcut
    cases kq with
    | zero => exact absurd HA.out (by simp [spec_DrawReadHeading.j0])
    | succ kj5 =>
      have H := HA.out
      clear HA
      simp only [spec_DrawReadHeading.j0] at H
      replace H := Option.bind_eq_some_iff.mp H
      obtain ⟨⟨t248, t249⟩, A330, H⟩ := H
      replace H : (if t248 = true then ((some (([(⟨#[]⟩ : ByteArray), (⟨#[32]⟩ : ByteArray), (⟨#[32, 32]⟩ : ByteArray), (⟨#[97, 32, 98, 32, 99]⟩ : ByteArray), (⟨#[83, 77, 68, 76, 48, 49, 32, 65, 77, 77, 67]⟩ : ByteArray), (⟨#[83, 77, 68, 76, 48, 49, 32, 65, 77, 77, 67, 32, 48, 49, 48, 48, 48, 48, 32, 82, 82, 65, 32, 88]⟩ : ByteArray), (⟨#[83, 77, 68, 76, 48, 49, 32, 65, 77, 77, 67, 32, 48, 49, 48, 48, 48, 48, 32]⟩ : ByteArray)] : List ByteArray) : List ByteArray)).bind fun y250 => ((spec_l1Rd_below.f t222 t249 7).bind fun bt253 => (if 0 ≤ bt253.1 then (if bt253.1 < (y250.length : Int) then (some (rdOf ByteArray.empty y250 bt253.1)) else (none)) else (none)))) else (some x4_5)) = some r := H
      have A33 := Aside0.mk A330
      clear A330
      by_cases c34 : t248 = true
      · subst c34
        have H1 : ((some (([(⟨#[]⟩ : ByteArray), (⟨#[32]⟩ : ByteArray), (⟨#[32, 32]⟩ : ByteArray), (⟨#[97, 32, 98, 32, 99]⟩ : ByteArray), (⟨#[83, 77, 68, 76, 48, 49, 32, 65, 77, 77, 67]⟩ : ByteArray), (⟨#[83, 77, 68, 76, 48, 49, 32, 65, 77, 77, 67, 32, 48, 49, 48, 48, 48, 48, 32, 82, 82, 65, 32, 88]⟩ : ByteArray), (⟨#[83, 77, 68, 76, 48, 49, 32, 65, 77, 77, 67, 32, 48, 49, 48, 48, 48, 48, 32]⟩ : ByteArray)] : List ByteArray) : List ByteArray)).bind fun y250 => ((spec_l1Rd_below.f t222 t249 7).bind fun bt253 => (if 0 ≤ bt253.1 then (if bt253.1 < (y250.length : Int) then (some (rdOf ByteArray.empty y250 bt253.1)) else (none)) else (none)))) = some r := by rw [if_pos rfl] at H; exact H
        clear H
        have H := H1
        clear H1
        obtain ⟨y250, hy250⟩ : ∃ y_ : List ByteArray, y_ = (([(⟨#[]⟩ : ByteArray), (⟨#[32]⟩ : ByteArray), (⟨#[32, 32]⟩ : ByteArray), (⟨#[97, 32, 98, 32, 99]⟩ : ByteArray), (⟨#[83, 77, 68, 76, 48, 49, 32, 65, 77, 77, 67]⟩ : ByteArray), (⟨#[83, 77, 68, 76, 48, 49, 32, 65, 77, 77, 67, 32, 48, 49, 48, 48, 48, 48, 32, 82, 82, 65, 32, 88]⟩ : ByteArray), (⟨#[83, 77, 68, 76, 48, 49, 32, 65, 77, 77, 67, 32, 48, 49, 48, 48, 48, 48, 32]⟩ : ByteArray)] : List ByteArray)) := ⟨_, rfl⟩
        replace H : ((spec_l1Rd_below.f t222 t249 7).bind fun bt253 => (if 0 ≤ bt253.1 then (if bt253.1 < (y250.length : Int) then (some (rdOf ByteArray.empty y250 bt253.1)) else (none)) else (none))) = some r := by first | (rw [hy250]; with_reducible exact H) | (have H2_ := (Option.bind_some _ _).symm.trans H; rw [hy250]; with_reducible exact H2_) | (have H2_ := (Option.bind_some _ _).symm.trans H; with_reducible exact H2_) | with_reducible exact H | (rw [hy250]; exact H) | exact H
        have Ny250 := Aside0.mk hy250
        clear hy250
        replace H := Option.bind_eq_some_iff.mp H
        obtain ⟨⟨t253, t254⟩, A350, H⟩ := H
        replace H : (if 0 ≤ t253 then (if t253 < (y250.length : Int) then (some (rdOf ByteArray.empty y250 t253)) else (none)) else (none)) = some r := H
        have A35 := Aside0.mk A350
        clear A350
        by_cases c36 : 0 ≤ t253
        · rw [if_pos c36] at H
          have c36b0 : decide (0 ≤ t253) = true := decide_eq_true c36
          clear c36
          by_cases c37 : t253 < (y250.length : Int)
          · rw [if_pos c37] at H
            have c37b0 : decide (t253 < (y250.length : Int)) = true := decide_eq_true c37
            clear c37
            obtain rfl := Option.some.inj H
            go_wp2_with (first | ((with_reducible refine gate_callee (f := 31) rfl ?_); refine goesL_ (some 38) rfl rfl Tryd.func31 (by kernel_rfl) rfl #[.pointer (some ⟨g224, 0, none⟩), .int .i64 12] rfl (by (try simp only [List.map_toArray, List.map_cons, List.map_nil]); first | done | rfl | (simp only [List.length_drop, List.length_take]; rfl)) ?_; (with_reducible refine (spec_l1Rd_once.calls g224 t222 x225001_5 12 true t249 w _ ?side1 ?side2 A33.out).mono ?_); (case side1 => repeat (first | (with_reducible first | exact HI224.out | apply IsS59.alloc | apply IsS59.drewN | apply IsS59.drew | apply IsS59.set_1) | exact HI224.out)); (case side2 => repeat (first | (with_reducible first | exact HB.out | apply below_alloc | apply pw_below_drewN | apply below_drew1 | refine below_set ?_ (IsS59.ge HI224.out)) | exact HB.out)); rintro e w38 ⟨rfl, hi, hb, hk⟩; refine ⟨_, rfl, ?_⟩; have n0_ := Aside0.mk (hb); have n1_ := Aside0.mk (hi); clear HB; clear HI224; have HB := n0_; have HI224 := n1_; clear n0_ n1_; (try clear hb); (try clear hb2); (try clear hk); (try clear hi)) | ((with_reducible refine gate_dst (N := 39) rfl ?_); refine Kd.R_lit Kd.string _ 9 ?hg (N := 39) ?hd (xs := ([(⟨#[]⟩ : ByteArray), (⟨#[32]⟩ : ByteArray), (⟨#[32, 32]⟩ : ByteArray), (⟨#[97, 32, 98, 32, 99]⟩ : ByteArray), (⟨#[83, 77, 68, 76, 48, 49, 32, 65, 77, 77, 67]⟩ : ByteArray), (⟨#[83, 77, 68, 76, 48, 49, 32, 65, 77, 77, 67, 32, 48, 49, 48, 48, 48, 48, 32, 82, 82, 65, 32, 88]⟩ : ByteArray), (⟨#[83, 77, 68, 76, 48, 49, 32, 65, 77, 77, 67, 32, 48, 49, 48, 48, 48, 48, 32]⟩ : ByteArray)] : List ByteArray)) (inner := [.string (⟨#[]⟩ : ByteArray), .string (⟨#[32]⟩ : ByteArray), .string (⟨#[32, 32]⟩ : ByteArray), .string (⟨#[97, 32, 98, 32, 99]⟩ : ByteArray), .string (⟨#[83, 77, 68, 76, 48, 49, 32, 65, 77, 77, 67]⟩ : ByteArray), .string (⟨#[83, 77, 68, 76, 48, 49, 32, 65, 77, 77, 67, 32, 48, 49, 48, 48, 48, 48, 32, 82, 82, 65, 32, 88]⟩ : ByteArray), .string (⟨#[83, 77, 68, 76, 48, 49, 32, 65, 77, 77, 67, 32, 48, 49, 48, 48, 48, 48, 32]⟩ : ByteArray)]) (ok := fun _ => True) (okp := fun _ => True) ?hr ?hp (fun _ hk => hk) trivial (Below.refl _ _) (Nat.le_refl _) (by simp) ?_; (case hd => rfl); (case hg => rfl); (case hr => first | (go_simp; done) | (go_simp; rfl)); (case hp => exact (Reps.one (show Kd.M Kd.string _ _ _ (⟨#[]⟩ : ByteArray) [.string (⟨#[]⟩ : ByteArray)] from rfl) (Reps.one (show Kd.M Kd.string _ _ _ (⟨#[32]⟩ : ByteArray) [.string (⟨#[32]⟩ : ByteArray)] from rfl) (Reps.one (show Kd.M Kd.string _ _ _ (⟨#[32, 32]⟩ : ByteArray) [.string (⟨#[32, 32]⟩ : ByteArray)] from rfl) (Reps.one (show Kd.M Kd.string _ _ _ (⟨#[97, 32, 98, 32, 99]⟩ : ByteArray) [.string (⟨#[97, 32, 98, 32, 99]⟩ : ByteArray)] from rfl) (Reps.one (show Kd.M Kd.string _ _ _ (⟨#[83, 77, 68, 76, 48, 49, 32, 65, 77, 77, 67]⟩ : ByteArray) [.string (⟨#[83, 77, 68, 76, 48, 49, 32, 65, 77, 77, 67]⟩ : ByteArray)] from rfl) (Reps.one (show Kd.M Kd.string _ _ _ (⟨#[83, 77, 68, 76, 48, 49, 32, 65, 77, 77, 67, 32, 48, 49, 48, 48, 48, 48, 32, 82, 82, 65, 32, 88]⟩ : ByteArray) [.string (⟨#[83, 77, 68, 76, 48, 49, 32, 65, 77, 77, 67, 32, 48, 49, 48, 48, 48, 48, 32, 82, 82, 65, 32, 88]⟩ : ByteArray)] from rfl) (Reps.one (show Kd.M Kd.string _ _ _ (⟨#[83, 77, 68, 76, 48, 49, 32, 65, 77, 77, 67, 32, 48, 49, 48, 48, 48, 48, 32]⟩ : ByteArray) [.string (⟨#[83, 77, 68, 76, 48, 49, 32, 65, 77, 77, 67, 32, 48, 49, 48, 48, 48, 48, 32]⟩ : ByteArray)] from rfl) (Reps.none _ _))))))))); intro v251 w39 ho40 hb hg_ hnew_; clear hg_ hnew_; (first | rw [← Ny250.out] at ho40 | (simp only [Int.reduceToNat] at ho40; rw [← Ny250.out] at ho40)); have n0_ := Aside0.mk (Kd.R_lower ho40 (below_size (by repeat (first | (with_reducible first | exact HB.out | apply below_alloc | apply pw_below_drewN | apply below_drew1 | refine below_set ?_ (IsS59.ge HI224.out)) | exact HB.out)))); have n1_ := Aside0.mk (IsS59.below (by repeat (first | (with_reducible first | exact HI224.out | apply IsS59.alloc | apply IsS59.drewN | apply IsS59.drew | apply IsS59.set_1) | exact HI224.out)) hb); have n2_ := Aside0.mk (below_step (by repeat (first | (with_reducible first | exact HB.out | apply below_alloc | apply pw_below_drewN | apply below_drew1 | refine below_set ?_ (IsS59.ge HI224.out)) | exact HB.out)) hb); clear HI224; clear HB; have HO252 := n0_; have HI224 := n1_; have HB := n2_; clear n0_ n1_ n2_; clear hb ho40) | ((with_reducible refine gate_callee (f := 27) rfl ?_); refine goesL_ (some 41) rfl rfl Tryd.func27 (by kernel_rfl) rfl #[.pointer (some ⟨g224, 0, none⟩), .int .i64 7] rfl (by (try simp only [List.map_toArray, List.map_cons, List.map_nil]); first | done | rfl | (simp only [List.length_drop, List.length_take]; rfl)) ?_; (with_reducible refine (spec_l1Rd_below.calls g224 t222 t249 7 t253 t254 w _ ?side1 ?side2 A35.out).mono ?_); (case side1 => repeat (first | (with_reducible first | exact HI224.out | apply IsS59.alloc | apply IsS59.drewN | apply IsS59.drew | apply IsS59.set_1) | exact HI224.out)); (case side2 => repeat (first | (with_reducible first | exact HB.out | apply below_alloc | apply pw_below_drewN | apply below_drew1 | refine below_set ?_ (IsS59.ge HI224.out)) | exact HB.out)); rintro e w41 ⟨rfl, hi, hb, hk⟩; refine ⟨_, rfl, ?_⟩; have n0_ := Aside0.mk (Kd.R_mono (Kd.R_keep (IsS59.apart (show IsS59 w _ g224 t222 t249 from by repeat (first | (with_reducible first | exact HI224.out | apply IsS59.alloc | apply IsS59.drewN | apply IsS59.drew | apply IsS59.set_1) | exact HI224.out)) (by (with_reducible repeat (first | apply Kd.R_alloc | apply Kd.R_drewN | apply Kd.R_drew)); exact HO252.out) (by decide)) hk (fun _ h => h.2)) (fun _ h => h.1)); have n1_ := Aside0.mk (hb); have n2_ := Aside0.mk (hi); clear HO252; clear HB; clear HI224; have HO252 := n0_; have HB := n1_; have HI224 := n2_; clear n0_ n1_ n2_; (try clear hb); (try clear hb2); (try clear hk); (try clear hi); obtain ⟨Ao42, co42, eo42⟩ := Kd.R_slice HO252.out; subst eo42; have p255 : 0 ≤ (t253 : Int) := of_decide_eq_true (by first | (with_reducible assumption) | assumption); have q255 : t253 < (y250.length : Int) := of_decide_eq_true (by first | (with_reducible assumption) | assumption); obtain ⟨ad255, e255, hx255_0⟩ := Kd.at_string (Kd.R_reads' HO252.out).2.2 t253 p255 q255; cases e255; replace p255 := eq_true p255; replace q255 := eq_true q255))
            go_ret
            exact ⟨by first | rfl | (simp [errW_none, errW_some] <;> rfl) | (simp [*, errW_none, errW_some] <;> rfl), by repeat (first | (with_reducible first | exact HB.out | apply below_alloc | apply pw_below_drewN | apply below_drew1 | refine below_set ?_ (IsS59.ge HI224.out)) | exact HB.out)⟩
          · rw [if_neg c37] at H
            exact absurd H (by simp)
        · rw [if_neg c36] at H
          exact absurd H (by simp)
      · replace c34 := Bool.eq_false_iff.mpr c34
        subst c34
        have H1 : (some x4_5) = some r := by rw [if_neg (show ¬ (false = true) by decide)] at H; exact H
        clear H
        have H := H1
        clear H1
        obtain rfl := Option.some.inj H
        go_wp2_with (first | ((with_reducible refine gate_callee (f := 31) rfl ?_); refine goesL_ (some 38) rfl rfl Tryd.func31 (by kernel_rfl) rfl #[.pointer (some ⟨g224, 0, none⟩), .int .i64 12] rfl (by (try simp only [List.map_toArray, List.map_cons, List.map_nil]); first | done | rfl | (simp only [List.length_drop, List.length_take]; rfl)) ?_; (with_reducible refine (spec_l1Rd_once.calls g224 t222 x225001_5 12 false t249 w _ ?side1 ?side2 A33.out).mono ?_); (case side1 => repeat (first | (with_reducible first | exact HI224.out | apply IsS59.alloc | apply IsS59.drewN | apply IsS59.drew | apply IsS59.set_1) | exact HI224.out)); (case side2 => repeat (first | (with_reducible first | exact HB.out | apply below_alloc | apply pw_below_drewN | apply below_drew1 | refine below_set ?_ (IsS59.ge HI224.out)) | exact HB.out)); rintro e w43 ⟨rfl, hi, hb, hk⟩; refine ⟨_, rfl, ?_⟩; have n0_ := Aside0.mk (hb); have n1_ := Aside0.mk (hi); clear HB; clear HI224; have HB := n0_; have HI224 := n1_; clear n0_ n1_; (try clear hb); (try clear hb2); (try clear hk); (try clear hi)))
        go_ret
        exact ⟨by first | rfl | (simp [errW_none, errW_some] <;> rfl) | (simp [*, errW_none, errW_some] <;> rfl), by repeat (first | (with_reducible first | exact HB.out | apply below_alloc | apply pw_below_drewN | apply below_drew1 | refine below_set ?_ (IsS59.ge HI224.out)) | exact HB.out)⟩

end Go.Proofs.YtfipjlcbnfcddaaDoor.F
