/-
  The walks of the program's writer and reader of numbers and of soils.
-/
import Derived.Test.YtjkhmjnigjfnmaaDoorShelf
import Derived.Test.YtjkhmjnigjfnmaaDoorF4
import Derived.Test.YtjkhmjnigjfnmaaDoorV
import Derived.Test.YtjkhmjnigjfnmaaDoorS
import Derived.WalkKit
import Derived.WalkSpells
import Derived.WalkLawsBesides
import Derived.OwnWalk
import Derived.Deep.RegionHeld3
import Derived.BigQuiet
import Derived.Outline
import Derived.Deep.DeepCutAuto
import Derived.Lib.Hide
import Derived.Lib.AppendIntMem
import Derived.KernelRfl
namespace Go.Proofs.YtjkhmjnigjfnmaaDoor.A
open Go Go.RowKit Go.Proofs.YtjkhmjnigjfnmaaDoorW.PrintWords Go.Proofs.YtjkhmjnigjfnmaaDoor.F
set_option linter.unusedVariables false
set_option linter.unusedSimpArgs false
/-- The table of powers of ten, as it is laid. -/
def Tab (w : World) : Prop := Lib.TabIs Tryd.prog w "internal/strconv.uint64pow10" .u64 Lib.pow10Tab
theorem tab_below {w w' : World} (h : Tab w) (hb : Below w.heap.size w w') : Tab w' := by
  have hgn : Tryd.prog.globalNamed "internal/strconv.uint64pow10" = some 1 := by kernel_rfl
  unfold Tab Lib.TabIs World.var? at h ⊢
  rw [hgn] at h ⊢
  simp only [Option.bind_some] at h ⊢
  have hlt : 1 < w.heap.size := by
    rcases Nat.lt_or_ge 1 w.heap.size with h' | h'
    · exact h'
    · rw [Array.getElem?_eq_none h'] at h; cases h
  rw [hb.block 1 hlt]
  exact h
theorem tab_alloc {w : World} (h : Tab w) (o : Obj) : Tab (w.alloc o) := tab_below h (below_alloc (Below.refl _ _) o)
theorem tab_drewN {w : World} (h : Tab w) (n : Nat) : Tab (w.drewN n) := tab_below h (pw_below_drewN (Below.refl _ _) n)
theorem tab_drew {w : World} (h : Tab w) : Tab w.drew := tab_drewN h 1
theorem dec_any (n : Nat) (hn : n ≤ 9223372036854775807) (w : World) (ht : Tab w) :
    Calls Tryd.prog 20 #[.int .i64 n] w fun e w' => e = .returned (.string (V.decB n)) ∧ Below w.heap.size w w' := by
  have HC := Lib.hid (fun (W : World) (h : Tab W) => Tryd.strconv_FormatInt_10 (n : Int) (by omega) (by omega) W h)
  have HT := Lib.hid ht
  clear ht
  have hv : (Lib.itoa (n : Int)) = Lib.decDigits n := Lib.itoa_nonneg n
  have HV := Lib.hid hv
  clear hv hn
  go_enter Tryd.func20, Tryd.ntmps20
  go_wp2_with fail
  refine (HC.out _ HT.out).mono ?_
  rintro e w' ⟨rfl, k, os, rfl⟩
  rw [HV.out]
  go_wp2_with fail
  go_ret
  exact ⟨rfl, Lib.below_grow _ _ (Nat.le_refl _) _ _⟩
theorem whole_any (s : ByteArray) (w : World) (hd : U.digsB s.data.toList = true) (hn : s.size ≤ 18) :
    Calls Tryd.prog 25 #[.string s] w fun e w' => e = .returned (.int .i64 (U.num s.data.toList)) ∧ Below w.heap.size w w' := by
  have hl : s.data.toList.length ≤ 18 := by rw [Array.length_toList]; exact hn
  have hp := U.parse_of_digits hd hl
  have HC := Lib.hid (fun W : World => Tryd.strconv_ParseInt_10_at64_ok s (by omega) _ hp W)
  clear hp hd hl
  go_enter Tryd.func25, Tryd.ntmps25
  go_wp2_with (go_at_call 33; refine (HC.out _).mono ?_; rintro e w' ⟨rfl, hw⟩)
  go_ret
  refine ⟨rfl, ?_⟩
  rcases hw with rfl | ⟨t, rfl⟩
  · exact Below.refl _ _
  · exact bytes_below (Below.refl _ _) (Nat.le_refl _) 5 t
theorem wrap_nat {i n : Nat} (h : i < n) (hn : n ≤ 9223372036854775806) : wrap64 ((i : Int) + 1) = ((i + 1 : Nat) : Int) := by
  unfold wrap64
  omega
theorem data_length (s : ByteArray) : s.data.toList.length = s.size := by rw [Array.length_toList]; rfl
theorem bt_nat (s : ByteArray) (i : Nat) (h : i < s.size) : bt s (i : Int) = ((s.data.toList[i]'(by rw [data_length]; exact h)).toNat : Int) := by
  unfold bt
  rw [dif_pos (by simpa using h)]
  rfl
theorem digits_loop (s : ByteArray) (hs : s.size ≤ 9223372036854775806) (d : Nat) : ∀ (i k : Nat), i + d = s.size → d < k →
    impl_digits.l0 k s (i : Int) = some (decide (0 < s.size) && (s.data.toList.drop i).all fun c => decide (48 ≤ c.toNat ∧ c.toNat ≤ 57)) := by
  induction d with
  | zero =>
    intro i k hi hk
    obtain ⟨k, rfl⟩ : ∃ m, k = m + 1 := ⟨k - 1, by omega⟩
    simp only [impl_digits.l0]
    rw [if_neg (by omega), List.drop_of_length_le (by rw [data_length]; omega)]
    simp
  | succ d ih =>
    intro i k hi hk
    obtain ⟨k, rfl⟩ : ∃ m, k = m + 1 := ⟨k - 1, by omega⟩
    have hlt : i < s.size := by omega
    have hl : i < s.data.toList.length := by rw [data_length]; exact hlt
    have hd : s.data.toList.drop i = s.data.toList[i] :: s.data.toList.drop (i + 1) := List.drop_eq_getElem_cons hl
    simp only [impl_digits.l0]
    rw [if_pos (by omega), if_pos (by omega), bt_nat s i hlt, wrap_nat hlt hs, ih (i + 1) k (by omega) (by omega), hd]
    rw [List.all_cons]
    by_cases h1 : ((s.data.toList[i]).toNat : Int) < 48
    · rw [if_pos h1, decide_eq_false (p := 48 ≤ _ ∧ _) (by omega)]
      simp
    · rw [if_neg h1]
      by_cases h2 : ((s.data.toList[i]).toNat : Int) > 57
      · rw [if_pos h2, decide_eq_false (p := 48 ≤ _ ∧ _) (by omega)]
        simp
      · rw [if_neg h2, decide_eq_true (p := 48 ≤ _ ∧ _) (by omega)]
        simp
theorem digits_any (s : ByteArray) (w : World) (hs : s.size ≤ 9223372036854775806) (hd : U.digsB s.data.toList = true) :
    Calls Tryd.prog 24 #[.string s] w fun e w' => e = .returned (.bool true) ∧ Drawn0 w w' := by
  refine impl_digits.calls (s.size + 1) s _ w ?_
  have h := digits_loop s hs s.size 0 (s.size + 1) (by omega) (by omega)
  unfold impl_digits.f
  refine h.trans ?_
  rw [← hd]
  unfold U.digsB
  rw [data_length]
  rfl
theorem decB_size (n : Nat) : (V.decB n).size = (Lib.decDigits n).length := by rw [← data_length, V.decB_list]
set_option maxHeartbeats 1600000 in
theorem decimal_at (c : UInt8) (r : List UInt8) (v : Int) (w : World) (hl : r.length ≤ 17) (hh : r.length = 0 ∨ c.toNat ≠ 48) (HD : Hid (∀ W : World, Calls Tryd.prog 24 #[.string ⟨(c :: r).toArray⟩] W fun e w' => e = .returned (.bool true) ∧ Drawn0 W w'))
    (HW : Hid (∀ W : World, Calls Tryd.prog 25 #[.string ⟨(c :: r).toArray⟩] W fun e w' => e = .returned (.int .i64 v) ∧ Below W.heap.size W w')) :
    Calls Tryd.prog 18 #[.string ⟨(c :: r).toArray⟩] w fun e w' => e = .returned (.tuple #[.int .i64 v, .bool true]) ∧ Below w.heap.size w w' := by
  have hz : (⟨(c :: r).toArray⟩ : ByteArray).size = r.length + 1 := by simp [ByteArray.size]
  rcases hh with hh | hh
  · have hr : r = [] := List.length_eq_zero_iff.1 hh
    subst hr
    clear hz hh hl
    go_enter Tryd.func18, Tryd.ntmps18
    go_wp2_with fail
    refine (HD.out _).mono ?_
    rintro e w1 ⟨rfl, n1, rfl⟩
    go_wp2_with fail
    refine (HW.out _).mono ?_
    rintro e w2 ⟨rfl, hb2⟩
    go_wp2_with fail
    go_ret2
    exact ⟨rfl, below_then (pw_below_drewN (Below.refl _ _) _) (Nat.le_refl _) hb2⟩
  · have hc : (((((⟨(c :: r).toArray⟩ : ByteArray)[0]'(by omega)).toNat : Nat) : Int) == 48) = false := beq_eq_false_iff_ne.2 (by show ((c.toNat : Int)) ≠ 48; omega)
    have hsz : (r.length : Int) + 1 ≤ 18 := by omega
    clear hh
    go_enter Tryd.func18, Tryd.ntmps18
    go_wp2_with fail
    refine (HD.out _).mono ?_
    rintro e w1 ⟨rfl, n1, rfl⟩
    go_wp2_with fail
    all_goals
      refine (HW.out _).mono ?_
      rintro e w2 ⟨rfl, hb2⟩
      go_wp2_with fail
      go_ret2
      exact ⟨rfl, below_then (pw_below_drewN (Below.refl _ _) _) (Nat.le_refl _) hb2⟩
theorem decimal_any (n : Nat) (hn : n < 10 ^ 18) (w : World) :
    Calls Tryd.prog 18 #[.string (V.decB n)] w fun e w' => e = .returned (.tuple #[.int .i64 n, .bool true]) ∧ Below w.heap.size w w' := by
  have hl := V.dec_len (k := 17) hn
  have hz := decB_size n
  have hw := fun W : World => whole_any (V.decB n) W (by rw [V.decB_list]; exact V.dec_digs n) (by omega)
  rw [V.decB_list, V.dec_num] at hw
  have hd := fun W : World => digits_any (V.decB n) W (by omega) (by rw [V.decB_list]; exact V.dec_digs n)
  obtain ⟨c, r, hcr⟩ : ∃ c r, Lib.decDigits n = c :: r := by
    cases h : Lib.decDigits n with
    | nil => have := V.dec_pos n; rw [h] at this; simp at this
    | cons c r => exact ⟨c, r, rfl⟩
  have he : V.decB n = ⟨(c :: r).toArray⟩ := by unfold V.decB; rw [hcr]
  have hh : r.length = 0 ∨ c.toNat ≠ 48 := by
    by_cases h0 : r.length = 0
    · exact .inl h0
    · obtain ⟨c', r', h1, h2⟩ := V.dec_head (n := n) (by rw [hcr, List.length_cons]; omega)
      rw [hcr] at h1
      obtain ⟨rfl, rfl⟩ := List.cons.inj h1
      exact .inr h2
  rw [he] at hw hd ⊢
  exact decimal_at c r n w (by rw [hcr, List.length_cons] at hl; omega) hh (Lib.hid hd) (Lib.hid hw)
theorem acell {w : World} {p : Addr} {v : Value} (h : w.cell? p = some v) (o : Obj) : (w.alloc o).cell? p = some v := (World.cell?_alloc_some w p o (by rw [h]; rfl)).trans h
theorem bcell {W w1 : World} (hb : Below W.heap.size W w1) : (∀ b o, b < W.heap.size → w1.cell? ⟨b, o, none⟩ = W.cell? ⟨b, o, none⟩) ∧ (∀ b o, b < W.heap.size → w1.frozen? ⟨b, o, none⟩ = W.frozen? ⟨b, o, none⟩) :=
  ⟨fun b o h => hb.cell (p := ⟨b, o, none⟩) h, fun b o h => hb.frozen (p := ⟨b, o, none⟩) h⟩
theorem five_cells {w : World} {g : Nat} {t : TypeId} {a b c d e : ByteArray} (h : w.heap[g]? = some (.cells #[.string a, .string b, .string c, .string d, .string e] t (0, 0))) :
    ∀ (j : Nat) x, [a, b, c, d, e][j]? = some x → w.cell? ⟨g, 0 + j, none⟩ = some (.string x) := by
  intro j x hx
  rw [Nat.zero_add]
  match j, hx with
  | 0, hx => cases hx; exact blk_cell h 0
  | 1, hx => cases hx; exact blk_cell h 1
  | 2, hx => cases hx; exact blk_cell h 2
  | 3, hx => cases hx; exact blk_cell h 3
  | 4, hx => cases hx; exact blk_cell h 4
  | n + 5, hx => simp at hx
theorem join_any (a b c d e : Nat) (g : Nat) (t : TypeId) (w : World) (hL : (V.soilL a b c d e).length ≤ 94) (h : w.heap[g]? = some (.cells #[.string (V.decB a), .string (V.decB b), .string (V.decB c), .string (V.decB d), .string (V.decB e)] t (0, 0))) :
    Calls Tryd.prog 19 #[.slice (some ⟨g, 0, none⟩) 5 5, .string ⟨#[32]⟩] w fun r w' => r = .returned (.string (V.soilS a b c d e)) ∧ Below w.heap.size w w' := by
  have hj : (Lib.join ([V.decB a, V.decB b, V.decB c, V.decB d, V.decB e].map (·.data.toList)) (⟨#[32]⟩ : ByteArray).data.toList) = V.soilL a b c d e := by
    simp only [List.map_cons, List.map_nil, V.decB_list]
    rfl
  have := Tryd.strings_Join g 0 5 [V.decB a, V.decB b, V.decB c, V.decB d, V.decB e] ⟨#[32]⟩ w (five_cells h) (blk_lt h) (by simp) (by simp) (by rw [hj]; omega)
  rw [hj] at this
  exact this
set_option maxRecDepth 100000 in
set_option maxHeartbeats 1600000 in
theorem text_any (a b c d e : Nat) (w : World) (ht : Tab w) (ha : a < 10 ^ 18) (hb : b < 10 ^ 18) (hc : c < 10 ^ 18) (hd : d < 10 ^ 18) (he : e < 10 ^ 18) (hS : ∀ W : World, Calls Tryd.prog 15 #[.agg #[.int .i64 a, .int .i64 b, .int .i64 c, .int .i64 d, .int .i64 e]] W fun e w' => e = .returned (.bool true) ∧ Below W.heap.size W w') :
    Calls Tryd.prog 9 #[.agg #[.int .i64 a, .int .i64 b, .int .i64 c, .int .i64 d, .int .i64 e]] w fun r w' => r = .returned (.string (V.soilS a b c d e)) ∧ Below w.heap.size w w' := by
  have HS := Lib.hid hS
  have HT := Lib.hid (tab_alloc ht (.cells #[.int .i64 a, .int .i64 b, .int .i64 c, .int .i64 d, .int .i64 e] 25))
  have A1 := Lib.hid (fun (W : World) (h : Tab W) => dec_any a (by omega) W h)
  have A2 := Lib.hid (fun (W : World) (h : Tab W) => dec_any b (by omega) W h)
  have A3 := Lib.hid (fun (W : World) (h : Tab W) => dec_any c (by omega) W h)
  have A4 := Lib.hid (fun (W : World) (h : Tab W) => dec_any d (by omega) W h)
  have A5 := Lib.hid (fun (W : World) (h : Tab W) => dec_any e (by omega) W h)
  have HL := Lib.hid (V.soilL_len ha hb hc hd he)
  clear ht hS ha hb hc hd he
  go_enter Tryd.func9, Tryd.ntmps9
  go_wp2_with fail
  refine (HS.out _).mono ?_
  rintro r w1 ⟨rfl, hb1⟩
  have hX := blk_below (blk_new w (.cells #[.int .i64 a, .int .i64 b, .int .i64 c, .int .i64 d, .int .i64 e] 25)) hb1
  have hT1 := tab_below HT.out hb1
  have HT1 := Lib.hid hT1
  have hB := below_then (below_alloc (Below.refl _ w) (.cells #[.int .i64 a, .int .i64 b, .int .i64 c, .int .i64 d, .int .i64 e] 25)) (by simp) hb1
  have HB := Lib.hid hB
  obtain ⟨x0, x1, x2, x3, x4, xf⟩ := cells5 hX
  clear hX hT1 hB hb1
  go_upto_region 3 with (fail)
  go_region_held3 (fun w' => w'.cell? ⟨w.heap.size, 0, none⟩ = some (.int .i64 a) ∧ w'.cell? ⟨w.heap.size, 1, none⟩ = some (.int .i64 b) ∧ w'.cell? ⟨w.heap.size, 2, none⟩ = some (.int .i64 c) ∧ w'.cell? ⟨w.heap.size, 3, none⟩ = some (.int .i64 d) ∧ w'.cell? ⟨w.heap.size, 4, none⟩ = some (.int .i64 e)) (first | go_keep | (refine ⟨pw_cell_below hb7 ?_, pw_cell_below hb7 ?_, pw_cell_below hb7 ?_, pw_cell_below hb7 ?_, pw_cell_below hb7 ?_⟩ <;> go_keep; done) | (refine ⟨acell (pw_cell_below hb6 ?_) _, acell (pw_cell_below hb6 ?_) _, acell (pw_cell_below hb6 ?_) _, acell (pw_cell_below hb6 ?_) _, acell (pw_cell_below hb6 ?_) _⟩ <;> go_keep; done) | (refine ⟨pw_cell_below hb2 ?_, pw_cell_below hb2 ?_, pw_cell_below hb2 ?_, pw_cell_below hb2 ?_, pw_cell_below hb2 ?_⟩ <;> go_keep; done) | (refine ⟨pw_cell_below hb3 ?_, pw_cell_below hb3 ?_, pw_cell_below hb3 ?_, pw_cell_below hb3 ?_, pw_cell_below hb3 ?_⟩ <;> go_keep; done) | (refine ⟨pw_cell_below hb4 ?_, pw_cell_below hb4 ?_, pw_cell_below hb4 ?_, pw_cell_below hb4 ?_, pw_cell_below hb4 ?_⟩ <;> go_keep; done) | (refine ⟨pw_cell_below hb5 ?_, pw_cell_below hb5 ?_, pw_cell_below hb5 ?_, pw_cell_below hb5 ?_, pw_cell_below hb5 ?_⟩ <;> go_keep; done) | (refine ⟨pw_cell_below hb6 ?_, pw_cell_below hb6 ?_, pw_cell_below hb6 ?_, pw_cell_below hb6 ?_, pw_cell_below hb6 ?_⟩ <;> go_keep; done)) (first
      | (go_at_call 19; refine (join_any a b c d e _ _ _ HL.out (blk_new _ _)).mono ?_; rintro r w7 ⟨rfl, hb7⟩)
      | (go_at_call_of 20 (Value.int .i64 ↑a); refine (A1.out _ (by first | exact HT1.out | exact tab_drew HT1.out)).mono ?_; rintro r w2 ⟨rfl, hb2⟩; have HT2 := Lib.hid (tab_below (by first | exact HT1.out | exact tab_drew HT1.out) hb2))
      | (go_at_call_of 20 (Value.int .i64 ↑b); refine (A2.out _ (by first | exact HT2.out | exact tab_drew HT2.out)).mono ?_; rintro r w3 ⟨rfl, hb3⟩; have HT3 := Lib.hid (tab_below (by first | exact HT2.out | exact tab_drew HT2.out) hb3))
      | (go_at_call_of 20 (Value.int .i64 ↑c); refine (A3.out _ (by first | exact HT3.out | exact tab_drew HT3.out)).mono ?_; rintro r w4 ⟨rfl, hb4⟩; have HT4 := Lib.hid (tab_below (by first | exact HT3.out | exact tab_drew HT3.out) hb4))
      | (go_at_call_of 20 (Value.int .i64 ↑d); refine (A4.out _ (by first | exact HT4.out | exact tab_drew HT4.out)).mono ?_; rintro r w5 ⟨rfl, hb5⟩; have HT5 := Lib.hid (tab_below (by first | exact HT4.out | exact tab_drew HT4.out) hb5))
      | (go_at_call_of 20 (Value.int .i64 ↑e); refine (A5.out _ (by first | exact HT5.out | exact tab_drew HT5.out)).mono ?_; rintro r w6 ⟨rfl, hb6⟩; have HT6 := Lib.hid (tab_below (by first | exact HT5.out | exact tab_drew HT5.out) hb6)))
  all_goals
    go_wp2_with fail
    go_ret
    have h1 := HB.out
    have h2 := below_then (pw_below_drewN h1 1) h1.size hb2
    have h3 := below_then h2 h2.size hb3
    have h4 := below_then h3 h3.size hb4
    have h5 := below_then h4 h4.size hb5
    have h6 := below_then h5 h5.size hb6
    exact ⟨rfl, below_then (below_alloc h6 _) (by simp; have := h6.size; omega) hb7⟩
end Go.Proofs.YtjkhmjnigjfnmaaDoor.A
