/-
  The walks of HeadingText, the reference's and the program's: a right heading's text.
-/
import Derived.Test.YtfipjlcbnfcddaaDoorR
import Derived.Test.YtfipjlcbnfcddaaDoorC
import Derived.Test.YtfipjlcbnfcddaaDoorV
import Derived.Test.YtfipjlcbnfcddaaDoorF5
import Derived.Test.YtfipjlcbnfcddaaDoorF7
import Derived.Outline
namespace Go.Proofs.YtfipjlcbnfcddaaDoor.K
open Go Go.RowKit Go.Proofs.YtfipjlcbnfcddaaDoorW.PrintWords Go.Proofs.YtfipjlcbnfcddaaDoorW.PrintLast Go.Proofs.YtfipjlcbnfcddaaDoor.F
open Go.Proofs.YtfipjlcbnfcddaaDoor.R (Weak weak_step weak_region apartB no_dst)
open Go.Proofs.YtfipjlcbnfcddaaDoor.B (hdVal hdCells cells8 far_set)
set_option linter.unusedVariables false
set_option linter.unusedSimpArgs false
theorem pad_all : ∀ n : Fin 100, spec_l2Pad.f 8 (n.val : Int) 2 = some (V.ddB n.val) := by decide +kernel
theorem pad_any (n : Int) (h0 : 0 ≤ n) (h1 : n ≤ 99) (w : World) : Calls Tryd.prog 28 #[.int .i64 n, .int .i64 2] w fun e w' => e = .returned (.string (V.ddB n)) ∧ Below w.heap.size w w' := by
  obtain ⟨m, rfl⟩ := Int.eq_ofNat_of_zero_le h0
  exact spec_l2Pad.calls 8 m 2 _ w (pad_all ⟨m, by omega⟩)
theorem dec_any (n : Nat) (h1 : n < 100) (w : World) : Calls Tryd.prog 40 #[.int .i64 n] w fun e w' => e = .returned (.string ⟨(Lib.decDigits n).toArray⟩) ∧ w' = w := by
  have HC := Lib.hid (fun W : World => Tryd.strconv_FormatInt_10_small n h1 W)
  clear h1
  go_enter Tryd.func40, Tryd.ntmps40
  go_wp2_with fail
  refine (HC.out _).mono ?_
  rintro e w' ⟨rfl, rfl⟩
  go_wp2_with fail
  go_ret
  exact ⟨rfl, rfl⟩
theorem fill_any (n : Int) (h0 : 0 ≤ n) (h1 : n ≤ 99) (w : World) : Calls Tryd.prog 30 #[.int .i64 n, .int .i64 2] w fun e w' => e = .returned (.string (V.ddB n)) ∧ Below w.heap.size w w' := by
  obtain ⟨m, rfl⟩ := Int.eq_ofNat_of_zero_le h0
  have HD := Lib.hid (fun W : World => dec_any m (by omega) W)
  by_cases c : m < 10
  · have hd := Lib.decDigits_one c
    rw [hd] at HD
    have hv : V.ddB (m : Int) = (⟨#[48]⟩ : ByteArray) ++ ⟨#[UInt8.ofNat (48 + m)]⟩ := by
      have e1 : m / 10 = 0 := by omega
      have e2 : m % 10 = m := by omega
      show (⟨#[UInt8.ofNat (48 + m / 10), UInt8.ofNat (48 + m % 10)]⟩ : ByteArray) = _
      rw [e1, e2]
      rfl
    have HV := Lib.hid hv
    clear hv hd h0 h1 c
    generalize UInt8.ofNat (48 + m) = x at *
    have HR := Lib.hid (fun W : World => Tryd.strings_Repeat_one ⟨#[48]⟩ W)
    go_enter Tryd.func30, Tryd.ntmps30
    go_wp2_with fail
    refine (HD.out _).mono ?_
    rintro e w' ⟨rfl, rfl⟩
    go_wp2_with fail
    refine (HR.out _).mono ?_
    rintro e w' ⟨rfl, rfl⟩
    go_wp2_with fail
    go_ret
    exact ⟨by rw [HV.out]; rfl, Below.refl _ _⟩
  · have hd := Lib.decDigits_two c (by omega : m < 100)
    rw [hd] at HD
    have hv : V.ddB (m : Int) = (⟨#[]⟩ : ByteArray) ++ ⟨#[UInt8.ofNat (48 + m / 10), UInt8.ofNat (48 + m % 10)]⟩ := rfl
    have HV := Lib.hid hv
    clear hv hd h0 h1 c
    generalize UInt8.ofNat (48 + m / 10) = x at *
    generalize UInt8.ofNat (48 + m % 10) = y at *
    have HR := Lib.hid (fun W : World => Tryd.strings_Repeat_zero ⟨#[48]⟩ W)
    go_enter Tryd.func30, Tryd.ntmps30
    go_wp2_with fail
    refine (HD.out _).mono ?_
    rintro e w' ⟨rfl, rfl⟩
    go_wp2_with fail
    refine (HR.out _).mono ?_
    rintro e w' ⟨rfl, rfl⟩
    go_wp2_with fail
    go_ret
    exact ⟨by rw [HV.out]; rfl, Below.refl _ _⟩
theorem in_f (n lo hi : Int) : impl_in.f n lo hi = some (U.inB n lo hi) := by
  unfold impl_in.f U.inB
  by_cases h : n ≥ lo
  · rw [if_pos h]
    congr 1
    exact decide_eq_decide.2 (by omega)
  · rw [if_neg h, decide_eq_false (by omega)]
theorem caps_app (a b : ByteArray) : U.capsB (a ++ b).data.toList = (U.capsB a.data.toList && U.capsB b.data.toList) := by
  unfold U.capsB
  rw [ByteArray.data_append, Array.toList_append, List.all_append]
theorem mark_dec (m : ByteArray) : ((U.markB m.data.toList).1 != (-1)) = decide (0 ≤ U.markK m) := by
  have h := C.mark_range m
  have e : U.markK m = (U.markB m.data.toList).1 := rfl
  rw [e] at h ⊢
  by_cases h0 : 0 ≤ (U.markB m.data.toList).1
  · rw [decide_eq_true h0]
    exact bne_iff_ne.2 (by omega)
  · rw [decide_eq_false h0]
    exact bne_eq_false_iff_eq.2 (by omega)
theorem sz_dec (a : ByteArray) : ((a.size : Int) == 2) = decide (a.size = 2) := by
  by_cases h : a.size = 2
  · rw [decide_eq_true h]
    exact beq_iff_eq.2 (by omega)
  · rw [decide_eq_false h]
    exact beq_eq_false_iff_ne.2 (by omega)
theorem iok_ev (h : U.Hd) (hk : h.kind.size ≤ 9223372036854775806) (ha : h.area.size ≤ 9223372036854775806) (hm : h.mark.size ≤ 9223372036854775806) : ∃ k, impl_headingOk.f k h.kind h.area h.no h.centre h.day h.hour h.minute h.mark = some (C.hokB h) := by
  obtain ⟨k1, h1⟩ := A.mark_ev h.mark hm
  obtain ⟨k2, h2⟩ := A.centreOk_ev h.centre
  refine ⟨k1 + k2 + h.kind.size + h.area.size + 5, ?_⟩
  have g1 := at_rounds (impl_MarkOf.mono h.mark) (show k1 ≤ k1 + k2 + h.kind.size + h.area.size + 5 by omega) h1
  have g2 := at_rounds (impl_centreOk.mono h.centre) (show k2 ≤ k1 + k2 + h.kind.size + h.area.size + 5 by omega) h2
  unfold impl_headingOk.f C.hokB
  rw [g1, g2, A.capitals_f _ _ hk _ (by omega), A.capitals_f _ _ ha _ (by omega), caps_app, ← mark_dec, sz_dec, sz_dec]
  simp only [Option.bind_some, in_f]
  have ec : U.cenK h.centre = U.centreB h.centre.data.toList := rfl
  rw [ec]
  cases U.capsB h.kind.data.toList <;> cases U.capsB h.area.data.toList <;> cases decide (h.kind.size = 2) <;> cases decide (h.area.size = 2) <;> simp
  cases U.inB h.no 0 99 <;> cases U.centreB h.centre.data.toList <;> cases U.inB h.day 1 31 <;> cases U.inB h.hour 0 23 <;> cases U.inB h.minute 0 59 <;> simp
theorem iok_any (h : U.Hd) (w : World) (hk : h.kind.size ≤ 9223372036854775806) (ha : h.area.size ≤ 9223372036854775806) (hm : h.mark.size ≤ 9223372036854775806) : Calls Tryd.prog 29 #[hdVal h] w fun e w' => e = .returned (.bool (C.hokB h)) ∧ Below w.heap.size w w' := by
  obtain ⟨k, hk'⟩ := iok_ev h hk ha hm
  exact impl_headingOk.calls k _ _ _ _ _ _ _ _ _ w hk'
def ptrTo (g i : Nat) : Value := .pointer (some ⟨g, i, none⟩)
def KV (gb : Nat) (h : U.Hd) : Nat → Value → World → Prop
  | 0, v, _ => v = ptrTo gb 0
  | 1, v, _ => v = .string h.kind
  | 2, v, _ => v = ptrTo gb 1
  | 3, v, _ => v = .string h.area
  | 4, v, _ => v = .string (h.kind ++ h.area)
  | 5, v, _ => v = ptrTo gb 2
  | 6, v, _ => v = .int .i64 h.no
  | 7, v, _ => v = .string (V.ddB h.no)
  | 8, v, _ => v = .string ((h.kind ++ h.area) ++ V.ddB h.no)
  | 9, v, _ => v = .string (((h.kind ++ h.area) ++ V.ddB h.no) ++ V.spB)
  | 10, v, _ => v = ptrTo gb 3
  | 11, v, _ => v = .string h.centre
  | 12, v, _ => v = .string ((((h.kind ++ h.area) ++ V.ddB h.no) ++ V.spB) ++ h.centre)
  | 13, v, _ => v = .string (((((h.kind ++ h.area) ++ V.ddB h.no) ++ V.spB) ++ h.centre) ++ V.spB)
  | 14, v, _ => v = ptrTo gb 4
  | 15, v, _ => v = .int .i64 h.day
  | 16, v, _ => v = .string (V.ddB h.day)
  | 17, v, _ => v = .string ((((((h.kind ++ h.area) ++ V.ddB h.no) ++ V.spB) ++ h.centre) ++ V.spB) ++ V.ddB h.day)
  | 18, v, _ => v = ptrTo gb 5
  | 19, v, _ => v = .int .i64 h.hour
  | 20, v, _ => v = .string (V.ddB h.hour)
  | 21, v, _ => v = .string (((((((h.kind ++ h.area) ++ V.ddB h.no) ++ V.spB) ++ h.centre) ++ V.spB) ++ V.ddB h.day) ++ V.ddB h.hour)
  | 22, v, _ => v = ptrTo gb 6
  | 23, v, _ => v = .int .i64 h.minute
  | 24, v, _ => v = .string (V.ddB h.minute)
  | 25, v, _ => v = .string (V.preB h)
  | 26, v, _ => v = .string (V.preB h)
  | _, _, _ => True
theorem kv_le (gb : Nat) (h : U.Hd) (j : Nat) (v : Value) (W W' : World) (hl : True) (q : KV gb h j v W) : KV gb h j v W' := by
  match j, q with
  | 0, q => exact q
  | 1, q => exact q
  | 2, q => exact q
  | 3, q => exact q
  | 4, q => exact q
  | 5, q => exact q
  | 6, q => exact q
  | 7, q => exact q
  | 8, q => exact q
  | 9, q => exact q
  | 10, q => exact q
  | 11, q => exact q
  | 12, q => exact q
  | 13, q => exact q
  | 14, q => exact q
  | 15, q => exact q
  | 16, q => exact q
  | 17, q => exact q
  | 18, q => exact q
  | 19, q => exact q
  | 20, q => exact q
  | 21, q => exact q
  | 22, q => exact q
  | 23, q => exact q
  | 24, q => exact q
  | 25, q => exact q
  | 26, q => exact q
  | n + 27, q => exact q
def KR (gb : Nat) (h : U.Hd) (w : World) (_ : Nat → Bool) (_ : Act) (W : World) : Prop := Below w.heap.size w W ∧ W.heap[gb]? = some (.cells (hdCells h) 23 (0, 0))
theorem cat_ok {x y : ByteArray} {a b : Nat} (hx : x.size ≤ a) (hy : y.size ≤ b) : (x ++ y).size ≤ a + b := by rw [ByteArray.size_append]; omega
def t10T : Bool × List (List Nat × List Nat) := (true, [([], []), ([0], [0]), ([], []), ([2], [2]), ([1, 3], [1, 3]), ([], []), ([5], [5]), ([6], [6]), ([4, 7], [4, 7]), ([8], [8]), ([], []), ([10], [10]), ([9, 11], [9, 11]), ([12], [12]), ([], []), ([14], [14]), ([15, 7], [15]), ([13, 16], [13, 16]), ([], []), ([18], [18]), ([19, 16], [19]), ([17, 20], [17, 20]), ([], []), ([22], [22]), ([23, 20], [23]), ([21, 24], [21, 24]), ([25, 24, 0, 1, 2, 3, 4, 5, 6, 7, 8, 9, 10, 11, 12, 13, 14, 15, 16, 17, 18, 19, 20, 21, 22, 23, 24, 25], [25])])
def t10B : List Nat := [0, 1, 0, 4, 15, 0, 32, 96, 255, 511, 0, 1024, 4095, 8191, 0, 16384, 49376, 131071, 0, 262144, 901344, 2097151, 0, 4194304, 14532832, 33554431, 67108863]
theorem t10_tab : rtab .any (opsOf Tryd.f10 3) = t10T := by kernel_rfl
theorem t10_bits : waitsOk t10T.2 t10B = true := by kernel_rfl
set_option maxRecDepth 100000 in
set_option maxHeartbeats 4000000 in
theorem t10_yes (h : U.Hd) (w : World) (hS : ∀ W : World, Calls Tryd.prog 17 #[hdVal h] W fun e w' => e = .returned (.bool true) ∧ Below W.heap.size W w') (lno : 0 ≤ h.no ∧ h.no ≤ 99) (lday : 0 ≤ h.day ∧ h.day ≤ 99) (lhour : 0 ≤ h.hour ∧ h.hour ≤ 99) (lminute : 0 ≤ h.minute ∧ h.minute ≤ 99)
    (hk2 : h.kind.size ≤ 2) (ha2 : h.area.size ≤ 2) (hc4 : h.centre.size ≤ 4) (hm4 : h.mark.size ≤ 4) : Calls Tryd.prog 10 #[hdVal h] w fun e w' => e = .returned (.tuple #[.string (V.textB h), .bool true]) ∧ Below w.heap.size w w' := by
  have z4 := cat_ok hk2 ha2
  have z8 := cat_ok z4 (Nat.le_of_eq (V.dd_size h.no))
  have z9 := cat_ok z8 (Nat.le_refl V.spB.size)
  have z12 := cat_ok z9 hc4
  have z13 := cat_ok z12 (Nat.le_refl V.spB.size)
  have z17 := cat_ok z13 (Nat.le_of_eq (V.dd_size h.day))
  have z21 := cat_ok z17 (Nat.le_of_eq (V.dd_size h.hour))
  have z25 := cat_ok z21 (Nat.le_of_eq (V.dd_size h.minute))
  have HS := Lib.hid hS
  clear hS
  unfold hdVal
  unfold hdVal at HS
  go_enter Tryd.func10, Tryd.ntmps10
  go_wp2_with fail
  refine (HS.out _).mono ?_
  rintro e w1 ⟨rfl, hb1⟩
  have hX : w1.heap[w.heap.size]? = some (.cells (hdCells h) 23 (0, 0)) := blk_below (blk_new w (.cells (hdCells h) 23)) hb1
  have hB : Below w.heap.size w w1 := below_then (below_alloc (Below.refl _ w) (.cells (hdCells h) 23)) (by simp) hb1
  go_upto_region 3 with (fail)
  refine weak_region (T := t10T) (B := t10B) (n := 27) (KV w.heap.size h) (KR w.heap.size h w) #[false, false, false, false, false, false, false, false, false, false, false, false, false, false, false, false, false, false, false, false, false, false, false, false, false, false, false] (by kernel_rfl) rfl rfl t10_tab t10_bits (by kernel_rfl) (by kernel_rfl) ?start ?steps ?fin
  case start => exact ⟨below_drew1 hB, blk_drew hX⟩
  case steps =>
    show ∀ i ∈ [0, 1, 2, 3, 4, 5, 6, 7, 8, 9, 10, 11, 12, 13, 14, 15, 16, 17, 18, 19, 20, 21, 22, 23, 24, 25, 26], StepAt _ _ _ _ _ _ i
    refine steps_cons (i := 0) (weak_step (i := 0) (le := fun _ _ => True) rfl (by kernel_rfl) (fun j v W W' hl q => kv_le w.heap.size h j v W W' hl q) ?_) ?_
    · rintro b a W ⟨hBl, hG⟩ hb hon hoff hsz hfr hall K hK_
      have e0 : a.tmps[1]? = some (.pointer (some ⟨w.heap.size, 0, none⟩)) := (hfr 1 (no_dst (by kernel_rfl))).trans rfl
      refine value_ (w1 := W) (v := ptrTo w.heap.size 0) (by rfl) rfl ?_ ?_
      · clear hoff hon hall hfr hsz hBl
        try unfold ptrTo at *
        try unfold ptrTo
        go_simp
      · exact hK_.out _ _ trivial ⟨hBl, hG⟩ (fun t ht => rfl)
    refine steps_cons (i := 1) (weak_step (i := 1) (le := fun _ _ => True) rfl (by kernel_rfl) (fun j v W W' hl q => kv_le w.heap.size h j v W W' hl q) ?_) ?_
    · rintro b a W ⟨hBl, hG⟩ hb hon hoff hsz hfr hall K hK_
      obtain ⟨v0, e0, q0⟩ := hall 0 _ 8 rfl rfl (by kernel_rfl)
      change v0 = ptrTo w.heap.size 0 at q0
      subst q0
      have hc := blk_cell hG 0
      simp only [hdCells] at hc
      refine value_ (w1 := W) (v := .string h.kind) (by rfl) rfl ?_ ?_
      · clear hoff hon hall hfr hsz hBl
        try unfold ptrTo at *
        try unfold ptrTo
        go_simp
      · exact hK_.out _ _ trivial ⟨hBl, hG⟩ (fun t ht => rfl)
    refine steps_cons (i := 2) (weak_step (i := 2) (le := fun _ _ => True) rfl (by kernel_rfl) (fun j v W W' hl q => kv_le w.heap.size h j v W W' hl q) ?_) ?_
    · rintro b a W ⟨hBl, hG⟩ hb hon hoff hsz hfr hall K hK_
      have e0 : a.tmps[1]? = some (.pointer (some ⟨w.heap.size, 0, none⟩)) := (hfr 1 (no_dst (by kernel_rfl))).trans rfl
      refine value_ (w1 := W) (v := ptrTo w.heap.size 1) (by rfl) rfl ?_ ?_
      · clear hoff hon hall hfr hsz hBl
        try unfold ptrTo at *
        try unfold ptrTo
        go_simp
      · exact hK_.out _ _ trivial ⟨hBl, hG⟩ (fun t ht => rfl)
    refine steps_cons (i := 3) (weak_step (i := 3) (le := fun _ _ => True) rfl (by kernel_rfl) (fun j v W W' hl q => kv_le w.heap.size h j v W W' hl q) ?_) ?_
    · rintro b a W ⟨hBl, hG⟩ hb hon hoff hsz hfr hall K hK_
      obtain ⟨v2, e2, q2⟩ := hall 2 _ 10 rfl rfl (by kernel_rfl)
      change v2 = ptrTo w.heap.size 1 at q2
      subst q2
      have hc := blk_cell hG 1
      simp only [hdCells] at hc
      refine value_ (w1 := W) (v := .string h.area) (by rfl) rfl ?_ ?_
      · clear hoff hon hall hfr hsz hBl
        try unfold ptrTo at *
        try unfold ptrTo
        go_simp
      · exact hK_.out _ _ trivial ⟨hBl, hG⟩ (fun t ht => rfl)
    refine steps_cons (i := 4) (weak_step (i := 4) (le := fun _ _ => True) rfl (by kernel_rfl) (fun j v W W' hl q => kv_le w.heap.size h j v W W' hl q) ?_) ?_
    · rintro b a W ⟨hBl, hG⟩ hb hon hoff hsz hfr hall K hK_
      obtain ⟨v1, e1, q1⟩ := hall 1 _ 9 rfl rfl (by kernel_rfl)
      change v1 = .string h.kind at q1
      subst q1
      obtain ⟨v3, e3, q3⟩ := hall 3 _ 11 rfl rfl (by kernel_rfl)
      change v3 = .string h.area at q3
      subst q3
      refine value_ (w1 := W) (v := .string (h.kind ++ h.area)) (by rfl) rfl ?_ ?_
      · clear hoff hon hall hfr hsz hBl
        try unfold ptrTo at *
        try unfold ptrTo
        go_simp
        have d1 := V.dd_size h.no
        have d2 := V.dd_size h.day
        have d3 := V.dd_size h.hour
        have d4 := V.dd_size h.minute
        have d5 : V.spB.size = 1 := rfl
        first | omega | (rw [if_neg (by omega)]; rfl)
      · exact hK_.out _ _ trivial ⟨hBl, hG⟩ (fun t ht => rfl)
    refine steps_cons (i := 5) (weak_step (i := 5) (le := fun _ _ => True) rfl (by kernel_rfl) (fun j v W W' hl q => kv_le w.heap.size h j v W W' hl q) ?_) ?_
    · rintro b a W ⟨hBl, hG⟩ hb hon hoff hsz hfr hall K hK_
      have e0 : a.tmps[1]? = some (.pointer (some ⟨w.heap.size, 0, none⟩)) := (hfr 1 (no_dst (by kernel_rfl))).trans rfl
      refine value_ (w1 := W) (v := ptrTo w.heap.size 2) (by rfl) rfl ?_ ?_
      · clear hoff hon hall hfr hsz hBl
        try unfold ptrTo at *
        try unfold ptrTo
        go_simp
      · exact hK_.out _ _ trivial ⟨hBl, hG⟩ (fun t ht => rfl)
    refine steps_cons (i := 6) (weak_step (i := 6) (le := fun _ _ => True) rfl (by kernel_rfl) (fun j v W W' hl q => kv_le w.heap.size h j v W W' hl q) ?_) ?_
    · rintro b a W ⟨hBl, hG⟩ hb hon hoff hsz hfr hall K hK_
      obtain ⟨v5, e5, q5⟩ := hall 5 _ 13 rfl rfl (by kernel_rfl)
      change v5 = ptrTo w.heap.size 2 at q5
      subst q5
      have hc := blk_cell hG 2
      simp only [hdCells] at hc
      refine value_ (w1 := W) (v := .int .i64 h.no) (by rfl) rfl ?_ ?_
      · clear hoff hon hall hfr hsz hBl
        try unfold ptrTo at *
        try unfold ptrTo
        go_simp
      · exact hK_.out _ _ trivial ⟨hBl, hG⟩ (fun t ht => rfl)
    refine steps_cons (i := 7) (weak_step (i := 7) (le := fun _ _ => True) rfl (by kernel_rfl) (fun j v W W' hl q => kv_le w.heap.size h j v W W' hl q) ?_) ?_
    · rintro b a W ⟨hBl, hG⟩ hb hon hoff hsz hfr hall K hK_
      obtain ⟨v6, e6, q6⟩ := hall 6 _ 14 rfl rfl (by kernel_rfl)
      change v6 = .int .i64 h.no at q6
      subst q6
      refine goes_ Tryd.func28 (by kernel_rfl) rfl #[.int .i64 h.no, .int .i64 2] (by rfl) rfl rfl (by first | (simp only [List.map_toArray, List.map_cons, List.map_nil, Act.eval, Array.getD_eq_getD_getElem?, Option.getD_some, e6]; done) | (simp only [List.map_toArray, List.map_cons, List.map_nil, Act.eval, Array.getD_eq_getD_getElem?, Option.getD_some, e6]; rfl)) ?_
      with_reducible refine (pad_any h.no lno.1 lno.2 _).mono ?_
      rintro e w2 ⟨rfl, hb2⟩
      exact ⟨_, rfl, hK_.out _ _ trivial ⟨below_step hBl hb2, blk_below hG hb2⟩ (fun t ht => rfl)⟩
    refine steps_cons (i := 8) (weak_step (i := 8) (le := fun _ _ => True) rfl (by kernel_rfl) (fun j v W W' hl q => kv_le w.heap.size h j v W W' hl q) ?_) ?_
    · rintro b a W ⟨hBl, hG⟩ hb hon hoff hsz hfr hall K hK_
      obtain ⟨v4, e4, q4⟩ := hall 4 _ 12 rfl rfl (by kernel_rfl)
      change v4 = .string (h.kind ++ h.area) at q4
      subst q4
      obtain ⟨v7, e7, q7⟩ := hall 7 _ 15 rfl rfl (by kernel_rfl)
      change v7 = .string (V.ddB h.no) at q7
      subst q7
      refine value_ (w1 := W) (v := .string ((h.kind ++ h.area) ++ V.ddB h.no)) (by rfl) rfl ?_ ?_
      · clear hoff hon hall hfr hsz hBl
        try unfold ptrTo at *
        try unfold ptrTo
        go_simp
        have d1 := V.dd_size h.no
        have d2 := V.dd_size h.day
        have d3 := V.dd_size h.hour
        have d4 := V.dd_size h.minute
        have d5 : V.spB.size = 1 := rfl
        first | omega | (rw [if_neg (by omega)]; rfl)
      · exact hK_.out _ _ trivial ⟨hBl, hG⟩ (fun t ht => rfl)
    refine steps_cons (i := 9) (weak_step (i := 9) (le := fun _ _ => True) rfl (by kernel_rfl) (fun j v W W' hl q => kv_le w.heap.size h j v W W' hl q) ?_) ?_
    · rintro b a W ⟨hBl, hG⟩ hb hon hoff hsz hfr hall K hK_
      obtain ⟨v8, e8, q8⟩ := hall 8 _ 16 rfl rfl (by kernel_rfl)
      change v8 = .string ((h.kind ++ h.area) ++ V.ddB h.no) at q8
      subst q8
      refine value_ (w1 := W) (v := .string (((h.kind ++ h.area) ++ V.ddB h.no) ++ V.spB)) (by rfl) rfl ?_ ?_
      · clear hoff hon hall hfr hsz hBl
        try unfold ptrTo at *
        try unfold ptrTo
        go_simp
        have d1 := V.dd_size h.no
        have d2 := V.dd_size h.day
        have d3 := V.dd_size h.hour
        have d4 := V.dd_size h.minute
        have d5 : V.spB.size = 1 := rfl
        first | omega | (rw [if_neg (by omega)]; rfl)
      · exact hK_.out _ _ trivial ⟨hBl, hG⟩ (fun t ht => rfl)
    refine steps_cons (i := 10) (weak_step (i := 10) (le := fun _ _ => True) rfl (by kernel_rfl) (fun j v W W' hl q => kv_le w.heap.size h j v W W' hl q) ?_) ?_
    · rintro b a W ⟨hBl, hG⟩ hb hon hoff hsz hfr hall K hK_
      have e0 : a.tmps[1]? = some (.pointer (some ⟨w.heap.size, 0, none⟩)) := (hfr 1 (no_dst (by kernel_rfl))).trans rfl
      refine value_ (w1 := W) (v := ptrTo w.heap.size 3) (by rfl) rfl ?_ ?_
      · clear hoff hon hall hfr hsz hBl
        try unfold ptrTo at *
        try unfold ptrTo
        go_simp
      · exact hK_.out _ _ trivial ⟨hBl, hG⟩ (fun t ht => rfl)
    refine steps_cons (i := 11) (weak_step (i := 11) (le := fun _ _ => True) rfl (by kernel_rfl) (fun j v W W' hl q => kv_le w.heap.size h j v W W' hl q) ?_) ?_
    · rintro b a W ⟨hBl, hG⟩ hb hon hoff hsz hfr hall K hK_
      obtain ⟨v10, e10, q10⟩ := hall 10 _ 18 rfl rfl (by kernel_rfl)
      change v10 = ptrTo w.heap.size 3 at q10
      subst q10
      have hc := blk_cell hG 3
      simp only [hdCells] at hc
      refine value_ (w1 := W) (v := .string h.centre) (by rfl) rfl ?_ ?_
      · clear hoff hon hall hfr hsz hBl
        try unfold ptrTo at *
        try unfold ptrTo
        go_simp
      · exact hK_.out _ _ trivial ⟨hBl, hG⟩ (fun t ht => rfl)
    refine steps_cons (i := 12) (weak_step (i := 12) (le := fun _ _ => True) rfl (by kernel_rfl) (fun j v W W' hl q => kv_le w.heap.size h j v W W' hl q) ?_) ?_
    · rintro b a W ⟨hBl, hG⟩ hb hon hoff hsz hfr hall K hK_
      obtain ⟨v9, e9, q9⟩ := hall 9 _ 17 rfl rfl (by kernel_rfl)
      change v9 = .string (((h.kind ++ h.area) ++ V.ddB h.no) ++ V.spB) at q9
      subst q9
      obtain ⟨v11, e11, q11⟩ := hall 11 _ 19 rfl rfl (by kernel_rfl)
      change v11 = .string h.centre at q11
      subst q11
      refine value_ (w1 := W) (v := .string ((((h.kind ++ h.area) ++ V.ddB h.no) ++ V.spB) ++ h.centre)) (by rfl) rfl ?_ ?_
      · clear hoff hon hall hfr hsz hBl
        try unfold ptrTo at *
        try unfold ptrTo
        go_simp
        have d1 := V.dd_size h.no
        have d2 := V.dd_size h.day
        have d3 := V.dd_size h.hour
        have d4 := V.dd_size h.minute
        have d5 : V.spB.size = 1 := rfl
        first | omega | (rw [if_neg (by omega)]; rfl)
      · exact hK_.out _ _ trivial ⟨hBl, hG⟩ (fun t ht => rfl)
    refine steps_cons (i := 13) (weak_step (i := 13) (le := fun _ _ => True) rfl (by kernel_rfl) (fun j v W W' hl q => kv_le w.heap.size h j v W W' hl q) ?_) ?_
    · rintro b a W ⟨hBl, hG⟩ hb hon hoff hsz hfr hall K hK_
      obtain ⟨v12, e12, q12⟩ := hall 12 _ 20 rfl rfl (by kernel_rfl)
      change v12 = .string ((((h.kind ++ h.area) ++ V.ddB h.no) ++ V.spB) ++ h.centre) at q12
      subst q12
      refine value_ (w1 := W) (v := .string (((((h.kind ++ h.area) ++ V.ddB h.no) ++ V.spB) ++ h.centre) ++ V.spB)) (by rfl) rfl ?_ ?_
      · clear hoff hon hall hfr hsz hBl
        try unfold ptrTo at *
        try unfold ptrTo
        go_simp
        have d1 := V.dd_size h.no
        have d2 := V.dd_size h.day
        have d3 := V.dd_size h.hour
        have d4 := V.dd_size h.minute
        have d5 : V.spB.size = 1 := rfl
        first | omega | (rw [if_neg (by omega)]; rfl)
      · exact hK_.out _ _ trivial ⟨hBl, hG⟩ (fun t ht => rfl)
    refine steps_cons (i := 14) (weak_step (i := 14) (le := fun _ _ => True) rfl (by kernel_rfl) (fun j v W W' hl q => kv_le w.heap.size h j v W W' hl q) ?_) ?_
    · rintro b a W ⟨hBl, hG⟩ hb hon hoff hsz hfr hall K hK_
      have e0 : a.tmps[1]? = some (.pointer (some ⟨w.heap.size, 0, none⟩)) := (hfr 1 (no_dst (by kernel_rfl))).trans rfl
      refine value_ (w1 := W) (v := ptrTo w.heap.size 4) (by rfl) rfl ?_ ?_
      · clear hoff hon hall hfr hsz hBl
        try unfold ptrTo at *
        try unfold ptrTo
        go_simp
      · exact hK_.out _ _ trivial ⟨hBl, hG⟩ (fun t ht => rfl)
    refine steps_cons (i := 15) (weak_step (i := 15) (le := fun _ _ => True) rfl (by kernel_rfl) (fun j v W W' hl q => kv_le w.heap.size h j v W W' hl q) ?_) ?_
    · rintro b a W ⟨hBl, hG⟩ hb hon hoff hsz hfr hall K hK_
      obtain ⟨v14, e14, q14⟩ := hall 14 _ 22 rfl rfl (by kernel_rfl)
      change v14 = ptrTo w.heap.size 4 at q14
      subst q14
      have hc := blk_cell hG 4
      simp only [hdCells] at hc
      refine value_ (w1 := W) (v := .int .i64 h.day) (by rfl) rfl ?_ ?_
      · clear hoff hon hall hfr hsz hBl
        try unfold ptrTo at *
        try unfold ptrTo
        go_simp
      · exact hK_.out _ _ trivial ⟨hBl, hG⟩ (fun t ht => rfl)
    refine steps_cons (i := 16) (weak_step (i := 16) (le := fun _ _ => True) rfl (by kernel_rfl) (fun j v W W' hl q => kv_le w.heap.size h j v W W' hl q) ?_) ?_
    · rintro b a W ⟨hBl, hG⟩ hb hon hoff hsz hfr hall K hK_
      obtain ⟨v15, e15, q15⟩ := hall 15 _ 23 rfl rfl (by kernel_rfl)
      change v15 = .int .i64 h.day at q15
      subst q15
      refine goes_ Tryd.func28 (by kernel_rfl) rfl #[.int .i64 h.day, .int .i64 2] (by rfl) rfl rfl (by first | (simp only [List.map_toArray, List.map_cons, List.map_nil, Act.eval, Array.getD_eq_getD_getElem?, Option.getD_some, e15]; done) | (simp only [List.map_toArray, List.map_cons, List.map_nil, Act.eval, Array.getD_eq_getD_getElem?, Option.getD_some, e15]; rfl)) ?_
      with_reducible refine (pad_any h.day lday.1 lday.2 _).mono ?_
      rintro e w2 ⟨rfl, hb2⟩
      exact ⟨_, rfl, hK_.out _ _ trivial ⟨below_step hBl hb2, blk_below hG hb2⟩ (fun t ht => rfl)⟩
    refine steps_cons (i := 17) (weak_step (i := 17) (le := fun _ _ => True) rfl (by kernel_rfl) (fun j v W W' hl q => kv_le w.heap.size h j v W W' hl q) ?_) ?_
    · rintro b a W ⟨hBl, hG⟩ hb hon hoff hsz hfr hall K hK_
      obtain ⟨v13, e13, q13⟩ := hall 13 _ 21 rfl rfl (by kernel_rfl)
      change v13 = .string (((((h.kind ++ h.area) ++ V.ddB h.no) ++ V.spB) ++ h.centre) ++ V.spB) at q13
      subst q13
      obtain ⟨v16, e16, q16⟩ := hall 16 _ 24 rfl rfl (by kernel_rfl)
      change v16 = .string (V.ddB h.day) at q16
      subst q16
      refine value_ (w1 := W) (v := .string ((((((h.kind ++ h.area) ++ V.ddB h.no) ++ V.spB) ++ h.centre) ++ V.spB) ++ V.ddB h.day)) (by rfl) rfl ?_ ?_
      · clear hoff hon hall hfr hsz hBl
        try unfold ptrTo at *
        try unfold ptrTo
        go_simp
        have d1 := V.dd_size h.no
        have d2 := V.dd_size h.day
        have d3 := V.dd_size h.hour
        have d4 := V.dd_size h.minute
        have d5 : V.spB.size = 1 := rfl
        first | omega | (rw [if_neg (by omega)]; rfl)
      · exact hK_.out _ _ trivial ⟨hBl, hG⟩ (fun t ht => rfl)
    refine steps_cons (i := 18) (weak_step (i := 18) (le := fun _ _ => True) rfl (by kernel_rfl) (fun j v W W' hl q => kv_le w.heap.size h j v W W' hl q) ?_) ?_
    · rintro b a W ⟨hBl, hG⟩ hb hon hoff hsz hfr hall K hK_
      have e0 : a.tmps[1]? = some (.pointer (some ⟨w.heap.size, 0, none⟩)) := (hfr 1 (no_dst (by kernel_rfl))).trans rfl
      refine value_ (w1 := W) (v := ptrTo w.heap.size 5) (by rfl) rfl ?_ ?_
      · clear hoff hon hall hfr hsz hBl
        try unfold ptrTo at *
        try unfold ptrTo
        go_simp
      · exact hK_.out _ _ trivial ⟨hBl, hG⟩ (fun t ht => rfl)
    refine steps_cons (i := 19) (weak_step (i := 19) (le := fun _ _ => True) rfl (by kernel_rfl) (fun j v W W' hl q => kv_le w.heap.size h j v W W' hl q) ?_) ?_
    · rintro b a W ⟨hBl, hG⟩ hb hon hoff hsz hfr hall K hK_
      obtain ⟨v18, e18, q18⟩ := hall 18 _ 26 rfl rfl (by kernel_rfl)
      change v18 = ptrTo w.heap.size 5 at q18
      subst q18
      have hc := blk_cell hG 5
      simp only [hdCells] at hc
      refine value_ (w1 := W) (v := .int .i64 h.hour) (by rfl) rfl ?_ ?_
      · clear hoff hon hall hfr hsz hBl
        try unfold ptrTo at *
        try unfold ptrTo
        go_simp
      · exact hK_.out _ _ trivial ⟨hBl, hG⟩ (fun t ht => rfl)
    refine steps_cons (i := 20) (weak_step (i := 20) (le := fun _ _ => True) rfl (by kernel_rfl) (fun j v W W' hl q => kv_le w.heap.size h j v W W' hl q) ?_) ?_
    · rintro b a W ⟨hBl, hG⟩ hb hon hoff hsz hfr hall K hK_
      obtain ⟨v19, e19, q19⟩ := hall 19 _ 27 rfl rfl (by kernel_rfl)
      change v19 = .int .i64 h.hour at q19
      subst q19
      refine goes_ Tryd.func28 (by kernel_rfl) rfl #[.int .i64 h.hour, .int .i64 2] (by rfl) rfl rfl (by first | (simp only [List.map_toArray, List.map_cons, List.map_nil, Act.eval, Array.getD_eq_getD_getElem?, Option.getD_some, e19]; done) | (simp only [List.map_toArray, List.map_cons, List.map_nil, Act.eval, Array.getD_eq_getD_getElem?, Option.getD_some, e19]; rfl)) ?_
      with_reducible refine (pad_any h.hour lhour.1 lhour.2 _).mono ?_
      rintro e w2 ⟨rfl, hb2⟩
      exact ⟨_, rfl, hK_.out _ _ trivial ⟨below_step hBl hb2, blk_below hG hb2⟩ (fun t ht => rfl)⟩
    refine steps_cons (i := 21) (weak_step (i := 21) (le := fun _ _ => True) rfl (by kernel_rfl) (fun j v W W' hl q => kv_le w.heap.size h j v W W' hl q) ?_) ?_
    · rintro b a W ⟨hBl, hG⟩ hb hon hoff hsz hfr hall K hK_
      obtain ⟨v17, e17, q17⟩ := hall 17 _ 25 rfl rfl (by kernel_rfl)
      change v17 = .string ((((((h.kind ++ h.area) ++ V.ddB h.no) ++ V.spB) ++ h.centre) ++ V.spB) ++ V.ddB h.day) at q17
      subst q17
      obtain ⟨v20, e20, q20⟩ := hall 20 _ 28 rfl rfl (by kernel_rfl)
      change v20 = .string (V.ddB h.hour) at q20
      subst q20
      refine value_ (w1 := W) (v := .string (((((((h.kind ++ h.area) ++ V.ddB h.no) ++ V.spB) ++ h.centre) ++ V.spB) ++ V.ddB h.day) ++ V.ddB h.hour)) (by rfl) rfl ?_ ?_
      · clear hoff hon hall hfr hsz hBl
        try unfold ptrTo at *
        try unfold ptrTo
        go_simp
        have d1 := V.dd_size h.no
        have d2 := V.dd_size h.day
        have d3 := V.dd_size h.hour
        have d4 := V.dd_size h.minute
        have d5 : V.spB.size = 1 := rfl
        first | omega | (rw [if_neg (by omega)]; rfl)
      · exact hK_.out _ _ trivial ⟨hBl, hG⟩ (fun t ht => rfl)
    refine steps_cons (i := 22) (weak_step (i := 22) (le := fun _ _ => True) rfl (by kernel_rfl) (fun j v W W' hl q => kv_le w.heap.size h j v W W' hl q) ?_) ?_
    · rintro b a W ⟨hBl, hG⟩ hb hon hoff hsz hfr hall K hK_
      have e0 : a.tmps[1]? = some (.pointer (some ⟨w.heap.size, 0, none⟩)) := (hfr 1 (no_dst (by kernel_rfl))).trans rfl
      refine value_ (w1 := W) (v := ptrTo w.heap.size 6) (by rfl) rfl ?_ ?_
      · clear hoff hon hall hfr hsz hBl
        try unfold ptrTo at *
        try unfold ptrTo
        go_simp
      · exact hK_.out _ _ trivial ⟨hBl, hG⟩ (fun t ht => rfl)
    refine steps_cons (i := 23) (weak_step (i := 23) (le := fun _ _ => True) rfl (by kernel_rfl) (fun j v W W' hl q => kv_le w.heap.size h j v W W' hl q) ?_) ?_
    · rintro b a W ⟨hBl, hG⟩ hb hon hoff hsz hfr hall K hK_
      obtain ⟨v22, e22, q22⟩ := hall 22 _ 30 rfl rfl (by kernel_rfl)
      change v22 = ptrTo w.heap.size 6 at q22
      subst q22
      have hc := blk_cell hG 6
      simp only [hdCells] at hc
      refine value_ (w1 := W) (v := .int .i64 h.minute) (by rfl) rfl ?_ ?_
      · clear hoff hon hall hfr hsz hBl
        try unfold ptrTo at *
        try unfold ptrTo
        go_simp
      · exact hK_.out _ _ trivial ⟨hBl, hG⟩ (fun t ht => rfl)
    refine steps_cons (i := 24) (weak_step (i := 24) (le := fun _ _ => True) rfl (by kernel_rfl) (fun j v W W' hl q => kv_le w.heap.size h j v W W' hl q) ?_) ?_
    · rintro b a W ⟨hBl, hG⟩ hb hon hoff hsz hfr hall K hK_
      obtain ⟨v23, e23, q23⟩ := hall 23 _ 31 rfl rfl (by kernel_rfl)
      change v23 = .int .i64 h.minute at q23
      subst q23
      refine goes_ Tryd.func28 (by kernel_rfl) rfl #[.int .i64 h.minute, .int .i64 2] (by rfl) rfl rfl (by first | (simp only [List.map_toArray, List.map_cons, List.map_nil, Act.eval, Array.getD_eq_getD_getElem?, Option.getD_some, e23]; done) | (simp only [List.map_toArray, List.map_cons, List.map_nil, Act.eval, Array.getD_eq_getD_getElem?, Option.getD_some, e23]; rfl)) ?_
      with_reducible refine (pad_any h.minute lminute.1 lminute.2 _).mono ?_
      rintro e w2 ⟨rfl, hb2⟩
      exact ⟨_, rfl, hK_.out _ _ trivial ⟨below_step hBl hb2, blk_below hG hb2⟩ (fun t ht => rfl)⟩
    refine steps_cons (i := 25) (weak_step (i := 25) (le := fun _ _ => True) rfl (by kernel_rfl) (fun j v W W' hl q => kv_le w.heap.size h j v W W' hl q) ?_) ?_
    · rintro b a W ⟨hBl, hG⟩ hb hon hoff hsz hfr hall K hK_
      obtain ⟨v21, e21, q21⟩ := hall 21 _ 29 rfl rfl (by kernel_rfl)
      change v21 = .string (((((((h.kind ++ h.area) ++ V.ddB h.no) ++ V.spB) ++ h.centre) ++ V.spB) ++ V.ddB h.day) ++ V.ddB h.hour) at q21
      subst q21
      obtain ⟨v24, e24, q24⟩ := hall 24 _ 32 rfl rfl (by kernel_rfl)
      change v24 = .string (V.ddB h.minute) at q24
      subst q24
      refine value_ (w1 := W) (v := .string (V.preB h)) (by rfl) rfl ?_ ?_
      · clear hoff hon hall hfr hsz hBl
        try unfold ptrTo at *
        try unfold ptrTo
        go_simp
        have d1 := V.dd_size h.no
        have d2 := V.dd_size h.day
        have d3 := V.dd_size h.hour
        have d4 := V.dd_size h.minute
        have d5 : V.spB.size = 1 := rfl
        first | omega | (rw [if_neg (by omega)]; rfl)
      · exact hK_.out _ _ trivial ⟨hBl, hG⟩ (fun t ht => rfl)
    refine steps_cons (i := 26) (weak_step (i := 26) (le := fun _ _ => True) rfl (by kernel_rfl) (fun j v W W' hl q => kv_le w.heap.size h j v W W' hl q) ?_) ?_
    · rintro b a W ⟨hBl, hG⟩ hb hon hoff hsz hfr hall K hK_
      obtain ⟨v25, e25, q25⟩ := hall 25 _ 33 rfl rfl (by kernel_rfl)
      change v25 = .string (V.preB h) at q25
      subst q25
      refine value_ (w1 := W) (v := .string (V.preB h)) (by rfl) rfl ?_ ?_
      · clear hoff hon hall hfr hsz hBl
        try unfold ptrTo at *
        try unfold ptrTo
        go_simp
      · exact hK_.out _ _ trivial ⟨hBl, hG⟩ (fun t ht => rfl)
    exact steps_nil
  case fin =>
    intro b a W hall ⟨hB', hG'⟩ hsz hdf hfr hv
    obtain ⟨v4, e4, q4⟩ := hv 26 _ 4 rfl rfl
    change v4 = .string (V.preB h) at q4
    subst q4
    have e1 : a.tmps[1]? = some (ptrTo w.heap.size 0) := (hfr 1 (no_dst (by kernel_rfl))).trans rfl
    obtain ⟨u, hu⟩ : ∃ u : Nat → Value, ∀ i, a.tmps.getD i undef = u i := ⟨fun i => a.tmps.getD i undef, fun _ => rfl⟩
    have s1 : u 1 = ptrTo w.heap.size 0 := by rw [← hu, Array.getD_eq_getD_getElem?, e1]; rfl
    have s4 : u 4 = .string (V.preB h) := by rw [← hu, Array.getD_eq_getD_getElem?, e4]; rfl
    have ht : a.tmps = #[u 0, ptrTo w.heap.size 0, u 2, u 3, .string (V.preB h), u 5, u 6, u 7, u 8, u 9, u 10, u 11, u 12, u 13, u 14, u 15, u 16, u 17, u 18, u 19, u 20, u 21, u 22, u 23, u 24, u 25, u 26, u 27, u 28, u 29, u 30, u 31, u 32, u 33, u 34, u 35, u 36, u 37, u 38, u 39, u 40, u 41, u 42] := by
      rw [R.lit_of_size (hsz.trans (by rfl : _ = 43)), ← s1, ← s4]
      simp only [hu]
      rfl
    have ha : a = ⟨#[u 0, ptrTo w.heap.size 0, u 2, u 3, .string (V.preB h), u 5, u 6, u 7, u 8, u 9, u 10, u 11, u 12, u 13, u 14, u 15, u 16, u 17, u 18, u 19, u 20, u 21, u 22, u 23, u 24, u 25, u 26, u 27, u 28, u 29, u 30, u 31, u 32, u 33, u 34, u 35, u 36, u 37, u 38, u 39, u 40, u 41, u 42], []⟩ := by
      cases a
      simp only at ht hdf
      rw [ht, hdf]
    subst ha
    clear ht hu s1 s4 e1 e4 hsz hdf hfr hv hall
    obtain ⟨x0, x1, x2, x3, x4, x5, x6, x7, xf⟩ := cells8 hG'
    unfold ptrTo
    have hp : (V.preB h).size ≤ 18 := by
      have d1 := V.dd_size h.no
      have d2 := V.dd_size h.day
      have d3 := V.dd_size h.hour
      have d4 := V.dd_size h.minute
      have d5 : V.spB.size = 1 := rfl
      unfold V.preB
      simp only [ByteArray.size_append]
      omega
    have HB := Lib.hid hB'
    clear z4 z8 z9 z12 z13 z17 z21 z25 hX hB hB' hb1 hG'
    by_cases hm : h.mark.size = 0
    · have ht : V.textB h = V.preB h := if_pos hm
      have HT := Lib.hid ht
      have hm' : h.mark.toList = [] := (A.toList_nil _).2 hm
      clear hm ht
      go_wp2_with fail
      all_goals
        go_ret2
        exact ⟨by rw [HT.out]; rfl, HB.out⟩
    · have ht : V.textB h = V.preB h ++ V.spB ++ h.mark := if_neg hm
      have HT := Lib.hid ht
      have hm1 : h.mark.toList.isEmpty = false := by
        cases h0 : h.mark.toList.isEmpty with
        | false => rfl
        | true => exact absurd ((A.toList_nil _).1 (List.isEmpty_iff.1 h0)) hm
      have hm2 : (!h.mark.toList.isEmpty) = true := by rw [hm1]; rfl
      clear hm ht
      go_wp2_with fail
      all_goals
        go_ret2
        exact ⟨by rw [HT.out]; first | rfl | (rw [ByteArray.append_assoc]; rfl), HB.out⟩
def t11T : Bool × List (List Nat × List Nat) := (true, [([], []), ([0], [0]), ([], []), ([2], [2]), ([1, 3], [1, 3]), ([], []), ([5], [5]), ([6], [6]), ([4, 7], [4, 7]), ([8], [8]), ([], []), ([10], [10]), ([9, 11], [9, 11]), ([12], [12]), ([], []), ([14], [14]), ([15, 7], [15]), ([13, 16], [13, 16]), ([], []), ([18], [18]), ([19, 16], [19]), ([17, 20], [17, 20]), ([], []), ([22], [22]), ([23, 20], [23]), ([21, 24], [21, 24]), ([25, 24, 0, 1, 2, 3, 4, 5, 6, 7, 8, 9, 10, 11, 12, 13, 14, 15, 16, 17, 18, 19, 20, 21, 22, 23, 24, 25], [25])])
def t11B : List Nat := [0, 1, 0, 4, 15, 0, 32, 96, 255, 511, 0, 1024, 4095, 8191, 0, 16384, 49376, 131071, 0, 262144, 901344, 2097151, 0, 4194304, 14532832, 33554431, 67108863]
theorem t11_tab : rtab .any (opsOf Tryd.f11 3) = t11T := by kernel_rfl
theorem t11_bits : waitsOk t11T.2 t11B = true := by kernel_rfl
set_option maxRecDepth 100000 in
set_option maxHeartbeats 4000000 in
theorem t11_yes (h : U.Hd) (w : World) (hS : ∀ W : World, Calls Tryd.prog 29 #[hdVal h] W fun e w' => e = .returned (.bool true) ∧ Below W.heap.size W w') (lno : 0 ≤ h.no ∧ h.no ≤ 99) (lday : 0 ≤ h.day ∧ h.day ≤ 99) (lhour : 0 ≤ h.hour ∧ h.hour ≤ 99) (lminute : 0 ≤ h.minute ∧ h.minute ≤ 99)
    (hk2 : h.kind.size ≤ 2) (ha2 : h.area.size ≤ 2) (hc4 : h.centre.size ≤ 4) (hm4 : h.mark.size ≤ 4) : Calls Tryd.prog 11 #[hdVal h] w fun e w' => e = .returned (.tuple #[.string (V.textB h), .bool true]) ∧ Below w.heap.size w w' := by
  have z4 := cat_ok hk2 ha2
  have z8 := cat_ok z4 (Nat.le_of_eq (V.dd_size h.no))
  have z9 := cat_ok z8 (Nat.le_refl V.spB.size)
  have z12 := cat_ok z9 hc4
  have z13 := cat_ok z12 (Nat.le_refl V.spB.size)
  have z17 := cat_ok z13 (Nat.le_of_eq (V.dd_size h.day))
  have z21 := cat_ok z17 (Nat.le_of_eq (V.dd_size h.hour))
  have z25 := cat_ok z21 (Nat.le_of_eq (V.dd_size h.minute))
  have HS := Lib.hid hS
  clear hS
  unfold hdVal
  unfold hdVal at HS
  go_enter Tryd.func11, Tryd.ntmps11
  go_wp2_with fail
  refine (HS.out _).mono ?_
  rintro e w1 ⟨rfl, hb1⟩
  have hX : w1.heap[w.heap.size]? = some (.cells (hdCells h) 23 (0, 0)) := blk_below (blk_new w (.cells (hdCells h) 23)) hb1
  have hB : Below w.heap.size w w1 := below_then (below_alloc (Below.refl _ w) (.cells (hdCells h) 23)) (by simp) hb1
  go_upto_region 3 with (fail)
  refine weak_region (T := t11T) (B := t11B) (n := 27) (KV w.heap.size h) (KR w.heap.size h w) #[false, false, false, false, false, false, false, false, false, false, false, false, false, false, false, false, false, false, false, false, false, false, false, false, false, false, false] (by kernel_rfl) rfl rfl t11_tab t11_bits (by kernel_rfl) (by kernel_rfl) ?start ?steps ?fin
  case start => exact ⟨below_drew1 hB, blk_drew hX⟩
  case steps =>
    show ∀ i ∈ [0, 1, 2, 3, 4, 5, 6, 7, 8, 9, 10, 11, 12, 13, 14, 15, 16, 17, 18, 19, 20, 21, 22, 23, 24, 25, 26], StepAt _ _ _ _ _ _ i
    refine steps_cons (i := 0) (weak_step (i := 0) (le := fun _ _ => True) rfl (by kernel_rfl) (fun j v W W' hl q => kv_le w.heap.size h j v W W' hl q) ?_) ?_
    · rintro b a W ⟨hBl, hG⟩ hb hon hoff hsz hfr hall K hK_
      have e0 : a.tmps[1]? = some (.pointer (some ⟨w.heap.size, 0, none⟩)) := (hfr 1 (no_dst (by kernel_rfl))).trans rfl
      refine value_ (w1 := W) (v := ptrTo w.heap.size 0) (by rfl) rfl ?_ ?_
      · clear hoff hon hall hfr hsz hBl
        try unfold ptrTo at *
        try unfold ptrTo
        go_simp
      · exact hK_.out _ _ trivial ⟨hBl, hG⟩ (fun t ht => rfl)
    refine steps_cons (i := 1) (weak_step (i := 1) (le := fun _ _ => True) rfl (by kernel_rfl) (fun j v W W' hl q => kv_le w.heap.size h j v W W' hl q) ?_) ?_
    · rintro b a W ⟨hBl, hG⟩ hb hon hoff hsz hfr hall K hK_
      obtain ⟨v0, e0, q0⟩ := hall 0 _ 8 rfl rfl (by kernel_rfl)
      change v0 = ptrTo w.heap.size 0 at q0
      subst q0
      have hc := blk_cell hG 0
      simp only [hdCells] at hc
      refine value_ (w1 := W) (v := .string h.kind) (by rfl) rfl ?_ ?_
      · clear hoff hon hall hfr hsz hBl
        try unfold ptrTo at *
        try unfold ptrTo
        go_simp
      · exact hK_.out _ _ trivial ⟨hBl, hG⟩ (fun t ht => rfl)
    refine steps_cons (i := 2) (weak_step (i := 2) (le := fun _ _ => True) rfl (by kernel_rfl) (fun j v W W' hl q => kv_le w.heap.size h j v W W' hl q) ?_) ?_
    · rintro b a W ⟨hBl, hG⟩ hb hon hoff hsz hfr hall K hK_
      have e0 : a.tmps[1]? = some (.pointer (some ⟨w.heap.size, 0, none⟩)) := (hfr 1 (no_dst (by kernel_rfl))).trans rfl
      refine value_ (w1 := W) (v := ptrTo w.heap.size 1) (by rfl) rfl ?_ ?_
      · clear hoff hon hall hfr hsz hBl
        try unfold ptrTo at *
        try unfold ptrTo
        go_simp
      · exact hK_.out _ _ trivial ⟨hBl, hG⟩ (fun t ht => rfl)
    refine steps_cons (i := 3) (weak_step (i := 3) (le := fun _ _ => True) rfl (by kernel_rfl) (fun j v W W' hl q => kv_le w.heap.size h j v W W' hl q) ?_) ?_
    · rintro b a W ⟨hBl, hG⟩ hb hon hoff hsz hfr hall K hK_
      obtain ⟨v2, e2, q2⟩ := hall 2 _ 10 rfl rfl (by kernel_rfl)
      change v2 = ptrTo w.heap.size 1 at q2
      subst q2
      have hc := blk_cell hG 1
      simp only [hdCells] at hc
      refine value_ (w1 := W) (v := .string h.area) (by rfl) rfl ?_ ?_
      · clear hoff hon hall hfr hsz hBl
        try unfold ptrTo at *
        try unfold ptrTo
        go_simp
      · exact hK_.out _ _ trivial ⟨hBl, hG⟩ (fun t ht => rfl)
    refine steps_cons (i := 4) (weak_step (i := 4) (le := fun _ _ => True) rfl (by kernel_rfl) (fun j v W W' hl q => kv_le w.heap.size h j v W W' hl q) ?_) ?_
    · rintro b a W ⟨hBl, hG⟩ hb hon hoff hsz hfr hall K hK_
      obtain ⟨v1, e1, q1⟩ := hall 1 _ 9 rfl rfl (by kernel_rfl)
      change v1 = .string h.kind at q1
      subst q1
      obtain ⟨v3, e3, q3⟩ := hall 3 _ 11 rfl rfl (by kernel_rfl)
      change v3 = .string h.area at q3
      subst q3
      refine value_ (w1 := W) (v := .string (h.kind ++ h.area)) (by rfl) rfl ?_ ?_
      · clear hoff hon hall hfr hsz hBl
        try unfold ptrTo at *
        try unfold ptrTo
        go_simp
        have d1 := V.dd_size h.no
        have d2 := V.dd_size h.day
        have d3 := V.dd_size h.hour
        have d4 := V.dd_size h.minute
        have d5 : V.spB.size = 1 := rfl
        first | omega | (rw [if_neg (by omega)]; rfl)
      · exact hK_.out _ _ trivial ⟨hBl, hG⟩ (fun t ht => rfl)
    refine steps_cons (i := 5) (weak_step (i := 5) (le := fun _ _ => True) rfl (by kernel_rfl) (fun j v W W' hl q => kv_le w.heap.size h j v W W' hl q) ?_) ?_
    · rintro b a W ⟨hBl, hG⟩ hb hon hoff hsz hfr hall K hK_
      have e0 : a.tmps[1]? = some (.pointer (some ⟨w.heap.size, 0, none⟩)) := (hfr 1 (no_dst (by kernel_rfl))).trans rfl
      refine value_ (w1 := W) (v := ptrTo w.heap.size 2) (by rfl) rfl ?_ ?_
      · clear hoff hon hall hfr hsz hBl
        try unfold ptrTo at *
        try unfold ptrTo
        go_simp
      · exact hK_.out _ _ trivial ⟨hBl, hG⟩ (fun t ht => rfl)
    refine steps_cons (i := 6) (weak_step (i := 6) (le := fun _ _ => True) rfl (by kernel_rfl) (fun j v W W' hl q => kv_le w.heap.size h j v W W' hl q) ?_) ?_
    · rintro b a W ⟨hBl, hG⟩ hb hon hoff hsz hfr hall K hK_
      obtain ⟨v5, e5, q5⟩ := hall 5 _ 13 rfl rfl (by kernel_rfl)
      change v5 = ptrTo w.heap.size 2 at q5
      subst q5
      have hc := blk_cell hG 2
      simp only [hdCells] at hc
      refine value_ (w1 := W) (v := .int .i64 h.no) (by rfl) rfl ?_ ?_
      · clear hoff hon hall hfr hsz hBl
        try unfold ptrTo at *
        try unfold ptrTo
        go_simp
      · exact hK_.out _ _ trivial ⟨hBl, hG⟩ (fun t ht => rfl)
    refine steps_cons (i := 7) (weak_step (i := 7) (le := fun _ _ => True) rfl (by kernel_rfl) (fun j v W W' hl q => kv_le w.heap.size h j v W W' hl q) ?_) ?_
    · rintro b a W ⟨hBl, hG⟩ hb hon hoff hsz hfr hall K hK_
      obtain ⟨v6, e6, q6⟩ := hall 6 _ 14 rfl rfl (by kernel_rfl)
      change v6 = .int .i64 h.no at q6
      subst q6
      refine goes_ Tryd.func30 (by kernel_rfl) rfl #[.int .i64 h.no, .int .i64 2] (by rfl) rfl rfl (by first | (simp only [List.map_toArray, List.map_cons, List.map_nil, Act.eval, Array.getD_eq_getD_getElem?, Option.getD_some, e6]; done) | (simp only [List.map_toArray, List.map_cons, List.map_nil, Act.eval, Array.getD_eq_getD_getElem?, Option.getD_some, e6]; rfl)) ?_
      with_reducible refine (fill_any h.no lno.1 lno.2 _).mono ?_
      rintro e w2 ⟨rfl, hb2⟩
      exact ⟨_, rfl, hK_.out _ _ trivial ⟨below_step hBl hb2, blk_below hG hb2⟩ (fun t ht => rfl)⟩
    refine steps_cons (i := 8) (weak_step (i := 8) (le := fun _ _ => True) rfl (by kernel_rfl) (fun j v W W' hl q => kv_le w.heap.size h j v W W' hl q) ?_) ?_
    · rintro b a W ⟨hBl, hG⟩ hb hon hoff hsz hfr hall K hK_
      obtain ⟨v4, e4, q4⟩ := hall 4 _ 12 rfl rfl (by kernel_rfl)
      change v4 = .string (h.kind ++ h.area) at q4
      subst q4
      obtain ⟨v7, e7, q7⟩ := hall 7 _ 15 rfl rfl (by kernel_rfl)
      change v7 = .string (V.ddB h.no) at q7
      subst q7
      refine value_ (w1 := W) (v := .string ((h.kind ++ h.area) ++ V.ddB h.no)) (by rfl) rfl ?_ ?_
      · clear hoff hon hall hfr hsz hBl
        try unfold ptrTo at *
        try unfold ptrTo
        go_simp
        have d1 := V.dd_size h.no
        have d2 := V.dd_size h.day
        have d3 := V.dd_size h.hour
        have d4 := V.dd_size h.minute
        have d5 : V.spB.size = 1 := rfl
        first | omega | (rw [if_neg (by omega)]; rfl)
      · exact hK_.out _ _ trivial ⟨hBl, hG⟩ (fun t ht => rfl)
    refine steps_cons (i := 9) (weak_step (i := 9) (le := fun _ _ => True) rfl (by kernel_rfl) (fun j v W W' hl q => kv_le w.heap.size h j v W W' hl q) ?_) ?_
    · rintro b a W ⟨hBl, hG⟩ hb hon hoff hsz hfr hall K hK_
      obtain ⟨v8, e8, q8⟩ := hall 8 _ 16 rfl rfl (by kernel_rfl)
      change v8 = .string ((h.kind ++ h.area) ++ V.ddB h.no) at q8
      subst q8
      refine value_ (w1 := W) (v := .string (((h.kind ++ h.area) ++ V.ddB h.no) ++ V.spB)) (by rfl) rfl ?_ ?_
      · clear hoff hon hall hfr hsz hBl
        try unfold ptrTo at *
        try unfold ptrTo
        go_simp
        have d1 := V.dd_size h.no
        have d2 := V.dd_size h.day
        have d3 := V.dd_size h.hour
        have d4 := V.dd_size h.minute
        have d5 : V.spB.size = 1 := rfl
        first | omega | (rw [if_neg (by omega)]; rfl)
      · exact hK_.out _ _ trivial ⟨hBl, hG⟩ (fun t ht => rfl)
    refine steps_cons (i := 10) (weak_step (i := 10) (le := fun _ _ => True) rfl (by kernel_rfl) (fun j v W W' hl q => kv_le w.heap.size h j v W W' hl q) ?_) ?_
    · rintro b a W ⟨hBl, hG⟩ hb hon hoff hsz hfr hall K hK_
      have e0 : a.tmps[1]? = some (.pointer (some ⟨w.heap.size, 0, none⟩)) := (hfr 1 (no_dst (by kernel_rfl))).trans rfl
      refine value_ (w1 := W) (v := ptrTo w.heap.size 3) (by rfl) rfl ?_ ?_
      · clear hoff hon hall hfr hsz hBl
        try unfold ptrTo at *
        try unfold ptrTo
        go_simp
      · exact hK_.out _ _ trivial ⟨hBl, hG⟩ (fun t ht => rfl)
    refine steps_cons (i := 11) (weak_step (i := 11) (le := fun _ _ => True) rfl (by kernel_rfl) (fun j v W W' hl q => kv_le w.heap.size h j v W W' hl q) ?_) ?_
    · rintro b a W ⟨hBl, hG⟩ hb hon hoff hsz hfr hall K hK_
      obtain ⟨v10, e10, q10⟩ := hall 10 _ 18 rfl rfl (by kernel_rfl)
      change v10 = ptrTo w.heap.size 3 at q10
      subst q10
      have hc := blk_cell hG 3
      simp only [hdCells] at hc
      refine value_ (w1 := W) (v := .string h.centre) (by rfl) rfl ?_ ?_
      · clear hoff hon hall hfr hsz hBl
        try unfold ptrTo at *
        try unfold ptrTo
        go_simp
      · exact hK_.out _ _ trivial ⟨hBl, hG⟩ (fun t ht => rfl)
    refine steps_cons (i := 12) (weak_step (i := 12) (le := fun _ _ => True) rfl (by kernel_rfl) (fun j v W W' hl q => kv_le w.heap.size h j v W W' hl q) ?_) ?_
    · rintro b a W ⟨hBl, hG⟩ hb hon hoff hsz hfr hall K hK_
      obtain ⟨v9, e9, q9⟩ := hall 9 _ 17 rfl rfl (by kernel_rfl)
      change v9 = .string (((h.kind ++ h.area) ++ V.ddB h.no) ++ V.spB) at q9
      subst q9
      obtain ⟨v11, e11, q11⟩ := hall 11 _ 19 rfl rfl (by kernel_rfl)
      change v11 = .string h.centre at q11
      subst q11
      refine value_ (w1 := W) (v := .string ((((h.kind ++ h.area) ++ V.ddB h.no) ++ V.spB) ++ h.centre)) (by rfl) rfl ?_ ?_
      · clear hoff hon hall hfr hsz hBl
        try unfold ptrTo at *
        try unfold ptrTo
        go_simp
        have d1 := V.dd_size h.no
        have d2 := V.dd_size h.day
        have d3 := V.dd_size h.hour
        have d4 := V.dd_size h.minute
        have d5 : V.spB.size = 1 := rfl
        first | omega | (rw [if_neg (by omega)]; rfl)
      · exact hK_.out _ _ trivial ⟨hBl, hG⟩ (fun t ht => rfl)
    refine steps_cons (i := 13) (weak_step (i := 13) (le := fun _ _ => True) rfl (by kernel_rfl) (fun j v W W' hl q => kv_le w.heap.size h j v W W' hl q) ?_) ?_
    · rintro b a W ⟨hBl, hG⟩ hb hon hoff hsz hfr hall K hK_
      obtain ⟨v12, e12, q12⟩ := hall 12 _ 20 rfl rfl (by kernel_rfl)
      change v12 = .string ((((h.kind ++ h.area) ++ V.ddB h.no) ++ V.spB) ++ h.centre) at q12
      subst q12
      refine value_ (w1 := W) (v := .string (((((h.kind ++ h.area) ++ V.ddB h.no) ++ V.spB) ++ h.centre) ++ V.spB)) (by rfl) rfl ?_ ?_
      · clear hoff hon hall hfr hsz hBl
        try unfold ptrTo at *
        try unfold ptrTo
        go_simp
        have d1 := V.dd_size h.no
        have d2 := V.dd_size h.day
        have d3 := V.dd_size h.hour
        have d4 := V.dd_size h.minute
        have d5 : V.spB.size = 1 := rfl
        first | omega | (rw [if_neg (by omega)]; rfl)
      · exact hK_.out _ _ trivial ⟨hBl, hG⟩ (fun t ht => rfl)
    refine steps_cons (i := 14) (weak_step (i := 14) (le := fun _ _ => True) rfl (by kernel_rfl) (fun j v W W' hl q => kv_le w.heap.size h j v W W' hl q) ?_) ?_
    · rintro b a W ⟨hBl, hG⟩ hb hon hoff hsz hfr hall K hK_
      have e0 : a.tmps[1]? = some (.pointer (some ⟨w.heap.size, 0, none⟩)) := (hfr 1 (no_dst (by kernel_rfl))).trans rfl
      refine value_ (w1 := W) (v := ptrTo w.heap.size 4) (by rfl) rfl ?_ ?_
      · clear hoff hon hall hfr hsz hBl
        try unfold ptrTo at *
        try unfold ptrTo
        go_simp
      · exact hK_.out _ _ trivial ⟨hBl, hG⟩ (fun t ht => rfl)
    refine steps_cons (i := 15) (weak_step (i := 15) (le := fun _ _ => True) rfl (by kernel_rfl) (fun j v W W' hl q => kv_le w.heap.size h j v W W' hl q) ?_) ?_
    · rintro b a W ⟨hBl, hG⟩ hb hon hoff hsz hfr hall K hK_
      obtain ⟨v14, e14, q14⟩ := hall 14 _ 22 rfl rfl (by kernel_rfl)
      change v14 = ptrTo w.heap.size 4 at q14
      subst q14
      have hc := blk_cell hG 4
      simp only [hdCells] at hc
      refine value_ (w1 := W) (v := .int .i64 h.day) (by rfl) rfl ?_ ?_
      · clear hoff hon hall hfr hsz hBl
        try unfold ptrTo at *
        try unfold ptrTo
        go_simp
      · exact hK_.out _ _ trivial ⟨hBl, hG⟩ (fun t ht => rfl)
    refine steps_cons (i := 16) (weak_step (i := 16) (le := fun _ _ => True) rfl (by kernel_rfl) (fun j v W W' hl q => kv_le w.heap.size h j v W W' hl q) ?_) ?_
    · rintro b a W ⟨hBl, hG⟩ hb hon hoff hsz hfr hall K hK_
      obtain ⟨v15, e15, q15⟩ := hall 15 _ 23 rfl rfl (by kernel_rfl)
      change v15 = .int .i64 h.day at q15
      subst q15
      refine goes_ Tryd.func30 (by kernel_rfl) rfl #[.int .i64 h.day, .int .i64 2] (by rfl) rfl rfl (by first | (simp only [List.map_toArray, List.map_cons, List.map_nil, Act.eval, Array.getD_eq_getD_getElem?, Option.getD_some, e15]; done) | (simp only [List.map_toArray, List.map_cons, List.map_nil, Act.eval, Array.getD_eq_getD_getElem?, Option.getD_some, e15]; rfl)) ?_
      with_reducible refine (fill_any h.day lday.1 lday.2 _).mono ?_
      rintro e w2 ⟨rfl, hb2⟩
      exact ⟨_, rfl, hK_.out _ _ trivial ⟨below_step hBl hb2, blk_below hG hb2⟩ (fun t ht => rfl)⟩
    refine steps_cons (i := 17) (weak_step (i := 17) (le := fun _ _ => True) rfl (by kernel_rfl) (fun j v W W' hl q => kv_le w.heap.size h j v W W' hl q) ?_) ?_
    · rintro b a W ⟨hBl, hG⟩ hb hon hoff hsz hfr hall K hK_
      obtain ⟨v13, e13, q13⟩ := hall 13 _ 21 rfl rfl (by kernel_rfl)
      change v13 = .string (((((h.kind ++ h.area) ++ V.ddB h.no) ++ V.spB) ++ h.centre) ++ V.spB) at q13
      subst q13
      obtain ⟨v16, e16, q16⟩ := hall 16 _ 24 rfl rfl (by kernel_rfl)
      change v16 = .string (V.ddB h.day) at q16
      subst q16
      refine value_ (w1 := W) (v := .string ((((((h.kind ++ h.area) ++ V.ddB h.no) ++ V.spB) ++ h.centre) ++ V.spB) ++ V.ddB h.day)) (by rfl) rfl ?_ ?_
      · clear hoff hon hall hfr hsz hBl
        try unfold ptrTo at *
        try unfold ptrTo
        go_simp
        have d1 := V.dd_size h.no
        have d2 := V.dd_size h.day
        have d3 := V.dd_size h.hour
        have d4 := V.dd_size h.minute
        have d5 : V.spB.size = 1 := rfl
        first | omega | (rw [if_neg (by omega)]; rfl)
      · exact hK_.out _ _ trivial ⟨hBl, hG⟩ (fun t ht => rfl)
    refine steps_cons (i := 18) (weak_step (i := 18) (le := fun _ _ => True) rfl (by kernel_rfl) (fun j v W W' hl q => kv_le w.heap.size h j v W W' hl q) ?_) ?_
    · rintro b a W ⟨hBl, hG⟩ hb hon hoff hsz hfr hall K hK_
      have e0 : a.tmps[1]? = some (.pointer (some ⟨w.heap.size, 0, none⟩)) := (hfr 1 (no_dst (by kernel_rfl))).trans rfl
      refine value_ (w1 := W) (v := ptrTo w.heap.size 5) (by rfl) rfl ?_ ?_
      · clear hoff hon hall hfr hsz hBl
        try unfold ptrTo at *
        try unfold ptrTo
        go_simp
      · exact hK_.out _ _ trivial ⟨hBl, hG⟩ (fun t ht => rfl)
    refine steps_cons (i := 19) (weak_step (i := 19) (le := fun _ _ => True) rfl (by kernel_rfl) (fun j v W W' hl q => kv_le w.heap.size h j v W W' hl q) ?_) ?_
    · rintro b a W ⟨hBl, hG⟩ hb hon hoff hsz hfr hall K hK_
      obtain ⟨v18, e18, q18⟩ := hall 18 _ 26 rfl rfl (by kernel_rfl)
      change v18 = ptrTo w.heap.size 5 at q18
      subst q18
      have hc := blk_cell hG 5
      simp only [hdCells] at hc
      refine value_ (w1 := W) (v := .int .i64 h.hour) (by rfl) rfl ?_ ?_
      · clear hoff hon hall hfr hsz hBl
        try unfold ptrTo at *
        try unfold ptrTo
        go_simp
      · exact hK_.out _ _ trivial ⟨hBl, hG⟩ (fun t ht => rfl)
    refine steps_cons (i := 20) (weak_step (i := 20) (le := fun _ _ => True) rfl (by kernel_rfl) (fun j v W W' hl q => kv_le w.heap.size h j v W W' hl q) ?_) ?_
    · rintro b a W ⟨hBl, hG⟩ hb hon hoff hsz hfr hall K hK_
      obtain ⟨v19, e19, q19⟩ := hall 19 _ 27 rfl rfl (by kernel_rfl)
      change v19 = .int .i64 h.hour at q19
      subst q19
      refine goes_ Tryd.func30 (by kernel_rfl) rfl #[.int .i64 h.hour, .int .i64 2] (by rfl) rfl rfl (by first | (simp only [List.map_toArray, List.map_cons, List.map_nil, Act.eval, Array.getD_eq_getD_getElem?, Option.getD_some, e19]; done) | (simp only [List.map_toArray, List.map_cons, List.map_nil, Act.eval, Array.getD_eq_getD_getElem?, Option.getD_some, e19]; rfl)) ?_
      with_reducible refine (fill_any h.hour lhour.1 lhour.2 _).mono ?_
      rintro e w2 ⟨rfl, hb2⟩
      exact ⟨_, rfl, hK_.out _ _ trivial ⟨below_step hBl hb2, blk_below hG hb2⟩ (fun t ht => rfl)⟩
    refine steps_cons (i := 21) (weak_step (i := 21) (le := fun _ _ => True) rfl (by kernel_rfl) (fun j v W W' hl q => kv_le w.heap.size h j v W W' hl q) ?_) ?_
    · rintro b a W ⟨hBl, hG⟩ hb hon hoff hsz hfr hall K hK_
      obtain ⟨v17, e17, q17⟩ := hall 17 _ 25 rfl rfl (by kernel_rfl)
      change v17 = .string ((((((h.kind ++ h.area) ++ V.ddB h.no) ++ V.spB) ++ h.centre) ++ V.spB) ++ V.ddB h.day) at q17
      subst q17
      obtain ⟨v20, e20, q20⟩ := hall 20 _ 28 rfl rfl (by kernel_rfl)
      change v20 = .string (V.ddB h.hour) at q20
      subst q20
      refine value_ (w1 := W) (v := .string (((((((h.kind ++ h.area) ++ V.ddB h.no) ++ V.spB) ++ h.centre) ++ V.spB) ++ V.ddB h.day) ++ V.ddB h.hour)) (by rfl) rfl ?_ ?_
      · clear hoff hon hall hfr hsz hBl
        try unfold ptrTo at *
        try unfold ptrTo
        go_simp
        have d1 := V.dd_size h.no
        have d2 := V.dd_size h.day
        have d3 := V.dd_size h.hour
        have d4 := V.dd_size h.minute
        have d5 : V.spB.size = 1 := rfl
        first | omega | (rw [if_neg (by omega)]; rfl)
      · exact hK_.out _ _ trivial ⟨hBl, hG⟩ (fun t ht => rfl)
    refine steps_cons (i := 22) (weak_step (i := 22) (le := fun _ _ => True) rfl (by kernel_rfl) (fun j v W W' hl q => kv_le w.heap.size h j v W W' hl q) ?_) ?_
    · rintro b a W ⟨hBl, hG⟩ hb hon hoff hsz hfr hall K hK_
      have e0 : a.tmps[1]? = some (.pointer (some ⟨w.heap.size, 0, none⟩)) := (hfr 1 (no_dst (by kernel_rfl))).trans rfl
      refine value_ (w1 := W) (v := ptrTo w.heap.size 6) (by rfl) rfl ?_ ?_
      · clear hoff hon hall hfr hsz hBl
        try unfold ptrTo at *
        try unfold ptrTo
        go_simp
      · exact hK_.out _ _ trivial ⟨hBl, hG⟩ (fun t ht => rfl)
    refine steps_cons (i := 23) (weak_step (i := 23) (le := fun _ _ => True) rfl (by kernel_rfl) (fun j v W W' hl q => kv_le w.heap.size h j v W W' hl q) ?_) ?_
    · rintro b a W ⟨hBl, hG⟩ hb hon hoff hsz hfr hall K hK_
      obtain ⟨v22, e22, q22⟩ := hall 22 _ 30 rfl rfl (by kernel_rfl)
      change v22 = ptrTo w.heap.size 6 at q22
      subst q22
      have hc := blk_cell hG 6
      simp only [hdCells] at hc
      refine value_ (w1 := W) (v := .int .i64 h.minute) (by rfl) rfl ?_ ?_
      · clear hoff hon hall hfr hsz hBl
        try unfold ptrTo at *
        try unfold ptrTo
        go_simp
      · exact hK_.out _ _ trivial ⟨hBl, hG⟩ (fun t ht => rfl)
    refine steps_cons (i := 24) (weak_step (i := 24) (le := fun _ _ => True) rfl (by kernel_rfl) (fun j v W W' hl q => kv_le w.heap.size h j v W W' hl q) ?_) ?_
    · rintro b a W ⟨hBl, hG⟩ hb hon hoff hsz hfr hall K hK_
      obtain ⟨v23, e23, q23⟩ := hall 23 _ 31 rfl rfl (by kernel_rfl)
      change v23 = .int .i64 h.minute at q23
      subst q23
      refine goes_ Tryd.func30 (by kernel_rfl) rfl #[.int .i64 h.minute, .int .i64 2] (by rfl) rfl rfl (by first | (simp only [List.map_toArray, List.map_cons, List.map_nil, Act.eval, Array.getD_eq_getD_getElem?, Option.getD_some, e23]; done) | (simp only [List.map_toArray, List.map_cons, List.map_nil, Act.eval, Array.getD_eq_getD_getElem?, Option.getD_some, e23]; rfl)) ?_
      with_reducible refine (fill_any h.minute lminute.1 lminute.2 _).mono ?_
      rintro e w2 ⟨rfl, hb2⟩
      exact ⟨_, rfl, hK_.out _ _ trivial ⟨below_step hBl hb2, blk_below hG hb2⟩ (fun t ht => rfl)⟩
    refine steps_cons (i := 25) (weak_step (i := 25) (le := fun _ _ => True) rfl (by kernel_rfl) (fun j v W W' hl q => kv_le w.heap.size h j v W W' hl q) ?_) ?_
    · rintro b a W ⟨hBl, hG⟩ hb hon hoff hsz hfr hall K hK_
      obtain ⟨v21, e21, q21⟩ := hall 21 _ 29 rfl rfl (by kernel_rfl)
      change v21 = .string (((((((h.kind ++ h.area) ++ V.ddB h.no) ++ V.spB) ++ h.centre) ++ V.spB) ++ V.ddB h.day) ++ V.ddB h.hour) at q21
      subst q21
      obtain ⟨v24, e24, q24⟩ := hall 24 _ 32 rfl rfl (by kernel_rfl)
      change v24 = .string (V.ddB h.minute) at q24
      subst q24
      refine value_ (w1 := W) (v := .string (V.preB h)) (by rfl) rfl ?_ ?_
      · clear hoff hon hall hfr hsz hBl
        try unfold ptrTo at *
        try unfold ptrTo
        go_simp
        have d1 := V.dd_size h.no
        have d2 := V.dd_size h.day
        have d3 := V.dd_size h.hour
        have d4 := V.dd_size h.minute
        have d5 : V.spB.size = 1 := rfl
        first | omega | (rw [if_neg (by omega)]; rfl)
      · exact hK_.out _ _ trivial ⟨hBl, hG⟩ (fun t ht => rfl)
    refine steps_cons (i := 26) (weak_step (i := 26) (le := fun _ _ => True) rfl (by kernel_rfl) (fun j v W W' hl q => kv_le w.heap.size h j v W W' hl q) ?_) ?_
    · rintro b a W ⟨hBl, hG⟩ hb hon hoff hsz hfr hall K hK_
      obtain ⟨v25, e25, q25⟩ := hall 25 _ 33 rfl rfl (by kernel_rfl)
      change v25 = .string (V.preB h) at q25
      subst q25
      refine value_ (w1 := W) (v := .string (V.preB h)) (by rfl) rfl ?_ ?_
      · clear hoff hon hall hfr hsz hBl
        try unfold ptrTo at *
        try unfold ptrTo
        go_simp
      · exact hK_.out _ _ trivial ⟨hBl, hG⟩ (fun t ht => rfl)
    exact steps_nil
  case fin =>
    intro b a W hall ⟨hB', hG'⟩ hsz hdf hfr hv
    obtain ⟨v4, e4, q4⟩ := hv 26 _ 4 rfl rfl
    change v4 = .string (V.preB h) at q4
    subst q4
    have e1 : a.tmps[1]? = some (ptrTo w.heap.size 0) := (hfr 1 (no_dst (by kernel_rfl))).trans rfl
    obtain ⟨u, hu⟩ : ∃ u : Nat → Value, ∀ i, a.tmps.getD i undef = u i := ⟨fun i => a.tmps.getD i undef, fun _ => rfl⟩
    have s1 : u 1 = ptrTo w.heap.size 0 := by rw [← hu, Array.getD_eq_getD_getElem?, e1]; rfl
    have s4 : u 4 = .string (V.preB h) := by rw [← hu, Array.getD_eq_getD_getElem?, e4]; rfl
    have ht : a.tmps = #[u 0, ptrTo w.heap.size 0, u 2, u 3, .string (V.preB h), u 5, u 6, u 7, u 8, u 9, u 10, u 11, u 12, u 13, u 14, u 15, u 16, u 17, u 18, u 19, u 20, u 21, u 22, u 23, u 24, u 25, u 26, u 27, u 28, u 29, u 30, u 31, u 32, u 33, u 34, u 35, u 36, u 37, u 38, u 39, u 40, u 41, u 42] := by
      rw [R.lit_of_size (hsz.trans (by rfl : _ = 43)), ← s1, ← s4]
      simp only [hu]
      rfl
    have ha : a = ⟨#[u 0, ptrTo w.heap.size 0, u 2, u 3, .string (V.preB h), u 5, u 6, u 7, u 8, u 9, u 10, u 11, u 12, u 13, u 14, u 15, u 16, u 17, u 18, u 19, u 20, u 21, u 22, u 23, u 24, u 25, u 26, u 27, u 28, u 29, u 30, u 31, u 32, u 33, u 34, u 35, u 36, u 37, u 38, u 39, u 40, u 41, u 42], []⟩ := by
      cases a
      simp only at ht hdf
      rw [ht, hdf]
    subst ha
    clear ht hu s1 s4 e1 e4 hsz hdf hfr hv hall
    obtain ⟨x0, x1, x2, x3, x4, x5, x6, x7, xf⟩ := cells8 hG'
    unfold ptrTo
    have hp : (V.preB h).size ≤ 18 := by
      have d1 := V.dd_size h.no
      have d2 := V.dd_size h.day
      have d3 := V.dd_size h.hour
      have d4 := V.dd_size h.minute
      have d5 : V.spB.size = 1 := rfl
      unfold V.preB
      simp only [ByteArray.size_append]
      omega
    have HB := Lib.hid hB'
    clear z4 z8 z9 z12 z13 z17 z21 z25 hX hB hB' hb1 hG'
    by_cases hm : h.mark.size = 0
    · have ht : V.textB h = V.preB h := if_pos hm
      have HT := Lib.hid ht
      have hm' : h.mark.toList = [] := (A.toList_nil _).2 hm
      clear hm ht
      go_wp2_with fail
      all_goals
        go_ret2
        exact ⟨by rw [HT.out]; rfl, HB.out⟩
    · have ht : V.textB h = V.preB h ++ V.spB ++ h.mark := if_neg hm
      have HT := Lib.hid ht
      have hm1 : h.mark.toList.isEmpty = false := by
        cases h0 : h.mark.toList.isEmpty with
        | false => rfl
        | true => exact absurd ((A.toList_nil _).1 (List.isEmpty_iff.1 h0)) hm
      have hm2 : (!h.mark.toList.isEmpty) = true := by rw [hm1]; rfl
      clear hm ht
      go_wp2_with fail
      all_goals
        go_ret2
        exact ⟨by rw [HT.out]; first | rfl | (rw [ByteArray.append_assoc]; rfl), HB.out⟩
end Go.Proofs.YtfipjlcbnfcddaaDoor.K
