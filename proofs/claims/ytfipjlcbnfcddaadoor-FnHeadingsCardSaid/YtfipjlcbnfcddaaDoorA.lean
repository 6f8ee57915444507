/-
  The walks of the program's readers of headings: what each function comes to.
-/
import Derived.Test.YtfipjlcbnfcddaaDoorProg
import Derived.Test.YtfipjlcbnfcddaaDoorShelf
import Derived.Test.YtfipjlcbnfcddaaDoorU
import Derived.Test.YtfipjlcbnfcddaaDoorF1
import Derived.Test.YtfipjlcbnfcddaaDoorF2
import Derived.Test.YtfipjlcbnfcddaaDoorF3
import Derived.Test.YtfipjlcbnfcddaaDoorF4
import Derived.WalkKit
import Derived.WalkSpells
import Derived.WalkLawsBesides
import Derived.OwnWalk
import Derived.Deep.RegionHeld3
import Derived.BigQuiet
import Derived.Outline
import Derived.Deep.DeepCutAuto
import Derived.Lib.Hide
import Derived.KernelRfl
namespace Go.Proofs.YtfipjlcbnfcddaaDoor.A
open Go Go.RowKit Go.Proofs.YtfipjlcbnfcddaaDoorW.PrintWords Go.Proofs.YtfipjlcbnfcddaaDoor.F
set_option linter.unusedVariables false
set_option linter.unusedSimpArgs false

set_option maxHeartbeats 400000 in
theorem whole_any (s : ByteArray) (w : World) (hd : U.digsB s.data.toList = true) (hn : s.size ≤ 18) :
    Calls Tryd.prog 21 #[.string s] w fun e w' => e = .returned (.int .i64 (U.num s.data.toList)) ∧ Below w.heap.size w w' := by
  have hl : s.data.toList.length ≤ 18 := by rw [Array.length_toList]; exact hn
  have hp := U.parse_of_digits hd hl
  have HC := Lib.hid (fun W : World => Tryd.strconv_ParseInt_10_at64_ok s (by omega) _ hp W)
  clear hp hd hl
  go_enter Tryd.func21, Tryd.ntmps21
  go_wp2_with (go_at_call 36; refine (HC.out _).mono ?_; rintro e w' ⟨rfl, hw⟩)
  go_ret
  refine ⟨rfl, ?_⟩
  rcases hw with rfl | ⟨t, rfl⟩
  · exact Below.refl _ _
  · exact bytes_below (Below.refl _ _) (Nat.le_refl _) 5 t

/-! ### what the printed functions come to -/
theorem wrap_nat {i n : Nat} (h : i < n) (hn : n ≤ 9223372036854775806) : wrap64 ((i : Int) + 1) = ((i + 1 : Nat) : Int) := by
  unfold wrap64
  omega
theorem bt_nat (s : ByteArray) (i : Nat) (h : i < s.size) : bt s (i : Int) = ((s.data.toList[i]'(by rw [data_length]; exact h)).toNat : Int) := by
  unfold bt
  rw [dif_pos (by simpa using h)]
  rfl
theorem capitals_loop (s : ByteArray) (n : Int) (hs : s.size ≤ 9223372036854775806) (d : Nat) : ∀ (i k : Nat), i + d = s.size → d < k →
    impl_capitals.l0 k s n (i : Int) = some (U.capsB (s.data.toList.drop i) && ((s.size : Int) == n)) := by
  induction d with
  | zero =>
    intro i k hi hk
    obtain ⟨k, rfl⟩ : ∃ m, k = m + 1 := ⟨k - 1, by omega⟩
    simp only [impl_capitals.l0]
    rw [if_neg (by omega), List.drop_of_length_le (by rw [data_length]; omega)]
    simp [U.capsB]
  | succ d ih =>
    intro i k hi hk
    obtain ⟨k, rfl⟩ : ∃ m, k = m + 1 := ⟨k - 1, by omega⟩
    have hlt : i < s.size := by omega
    have hl : i < s.data.toList.length := by rw [data_length]; exact hlt
    have hd : s.data.toList.drop i = s.data.toList[i] :: s.data.toList.drop (i + 1) := List.drop_eq_getElem_cons hl
    simp only [impl_capitals.l0]
    rw [if_pos (by omega), if_pos (by omega), bt_nat s i hlt, wrap_nat hlt hs, ih (i + 1) k (by omega) (by omega), hd]
    unfold U.capsB
    rw [List.all_cons]
    by_cases h1 : ((s.data.toList[i]).toNat : Int) < 65
    · rw [if_pos h1, decide_eq_false (by omega)]
      simp
    · rw [if_neg h1]
      by_cases h2 : ((s.data.toList[i]).toNat : Int) > 90
      · rw [if_pos h2, decide_eq_false (by omega)]
        simp
      · rw [if_neg h2, decide_eq_true (by omega)]
        simp
theorem capitals_any (s : ByteArray) (n : Int) (w : World) (hs : s.size ≤ 9223372036854775806) :
    Calls Tryd.prog 19 #[.string s, .int .i64 n] w fun e w' => e = .returned (.bool (U.capsB s.data.toList && ((s.size : Int) == n))) ∧ Drawn0 w w' :=
  impl_capitals.calls (s.size + 1) s n _ w (capitals_loop s n hs s.size 0 (s.size + 1) (by omega) (by omega))
theorem digits_loop (s : ByteArray) (hs : s.size ≤ 9223372036854775806) (d : Nat) : ∀ (i k : Nat), i + d = s.size → d < k →
    impl_digits.l0 k s (i : Int) = some (decide (0 < s.size) && (s.data.toList.drop i).all fun c => decide (48 ≤ c.toNat ∧ c.toNat ≤ 57)) := by
  induction d with
  | zero =>
    intro i k hi hk
    obtain ⟨k, rfl⟩ : ∃ m, k = m + 1 := ⟨k - 1, by omega⟩
    simp only [impl_digits.l0]
    rw [if_neg (by omega), List.drop_of_length_le (by rw [data_length]; omega)]
    simp
  | succ d ih =>
    intro i k hi hk
    obtain ⟨k, rfl⟩ : ∃ m, k = m + 1 := ⟨k - 1, by omega⟩
    have hlt : i < s.size := by omega
    have hl : i < s.data.toList.length := by rw [data_length]; exact hlt
    have hd : s.data.toList.drop i = s.data.toList[i] :: s.data.toList.drop (i + 1) := List.drop_eq_getElem_cons hl
    simp only [impl_digits.l0]
    rw [if_pos (by omega), if_pos (by omega), bt_nat s i hlt, wrap_nat hlt hs, ih (i + 1) k (by omega) (by omega), hd]
    rw [List.all_cons]
    by_cases h1 : ((s.data.toList[i]).toNat : Int) < 48
    · rw [if_pos h1, decide_eq_false (p := 48 ≤ _ ∧ _) (by omega)]
      simp
    · rw [if_neg h1]
      by_cases h2 : ((s.data.toList[i]).toNat : Int) > 57
      · rw [if_pos h2, decide_eq_false (p := 48 ≤ _ ∧ _) (by omega)]
        simp
      · rw [if_neg h2, decide_eq_true (p := 48 ≤ _ ∧ _) (by omega)]
        simp
theorem digits_f (s : ByteArray) (hs : s.size ≤ 9223372036854775806) (k : Nat) (hk : s.size < k) : impl_digits.f k s = some (U.digsB s.data.toList) := by
  have h := digits_loop s hs s.size 0 k (by omega) hk
  unfold impl_digits.f
  unfold U.digsB
  rw [data_length]
  exact h
theorem capitals_f (s : ByteArray) (n : Int) (hs : s.size ≤ 9223372036854775806) (k : Nat) (hk : s.size < k) : impl_capitals.f k s n = some (U.capsB s.data.toList && ((s.size : Int) == n)) :=
  capitals_loop s n hs s.size 0 k (by omega) hk
theorem digits_any (s : ByteArray) (w : World) (hs : s.size ≤ 9223372036854775806) :
    Calls Tryd.prog 20 #[.string s] w fun e w' => e = .returned (.bool (U.digsB s.data.toList)) ∧ Drawn0 w w' :=
  impl_digits.calls (s.size + 1) s _ w (digits_f s hs _ (by omega))
theorem cap1_f (x : UInt8) (k : Nat) (hk : 1 < k) : impl_capitals.f k ⟨#[x]⟩ 1 = some (U.capsB [x]) := by
  have h := capitals_f ⟨#[x]⟩ 1 (Nat.le_of_ble_eq_true rfl) k hk
  rw [h]
  simp [ByteArray.size]
theorem dig1_f (x : UInt8) (k : Nat) (hk : 1 < k) : impl_digits.f k ⟨#[x]⟩ = some (U.digsB [x]) := digits_f ⟨#[x]⟩ (Nat.le_of_ble_eq_true rfl) k hk
theorem wrap_lit {n m : Int} (h : n + 1 = m) (h0 : 0 ≤ n) (h1 : n ≤ 100) : wrap64 (n + 1) = m := by
  unfold wrap64
  omega
theorem centre_step (s : ByteArray) (hz : s.size = 4) (i : Nat) (hi : i < 4) (x : UInt8) (he : s.extract i (i + 1) = ⟨#[x]⟩) (b : Bool) (k : Nat) (hk : 1 < k) (h : impl_centreOk.l0 k s ((i + 1 : Nat) : Int) = some b) :
    impl_centreOk.l0 (k + 1) s (i : Int) = some ((U.capsB [x] || U.digsB [x]) && b) := by
  have hw : wrap64 ((i : Int) + 1) = ((i + 1 : Nat) : Int) := wrap_nat hi (by omega)
  simp only [impl_centreOk.l0]
  rw [hw, if_pos (by omega), if_pos (by omega), if_pos (by omega), if_pos (by omega), show ((i : Int)).toNat = i from rfl, show (((i + 1 : Nat) : Int)).toNat = i + 1 from rfl, he, cap1_f x k hk, h, dig1_f x k hk]
  cases U.capsB [x] <;> cases U.digsB [x] <;> simp
theorem centreOk_f (a b c d : UInt8) : ∃ k, impl_centreOk.f k ⟨#[a, b, c, d]⟩ = some (U.centreB [a, b, c, d]) := by
  refine ⟨10, ?_⟩
  have hz : (⟨#[a, b, c, d]⟩ : ByteArray).size = 4 := rfl
  have h4 : impl_centreOk.l0 6 ⟨#[a, b, c, d]⟩ ((3 + 1 : Nat) : Int) = some true := by
    simp only [impl_centreOk.l0]
    rw [if_neg (by omega)]
  have h3 := centre_step ⟨#[a, b, c, d]⟩ hz 3 (by omega) d rfl _ 6 (by omega) h4
  have h2 := centre_step ⟨#[a, b, c, d]⟩ hz 2 (by omega) c rfl _ 7 (by omega) h3
  have h1 := centre_step ⟨#[a, b, c, d]⟩ hz 1 (by omega) b rfl _ 8 (by omega) h2
  unfold impl_centreOk.f U.centreB
  rw [if_pos (by rw [hz]; rfl), if_pos (by omega), if_pos (by rw [hz]; omega), show (⟨#[a, b, c, d]⟩ : ByteArray).extract 0 1 = ⟨#[a]⟩ from rfl, cap1_f a 10 (by omega)]
  simp only [Option.bind_some, impl_centreOk.j0]
  cases U.capsB [a] with
  | false => simp
  | true =>
    rw [Bool.not_true, if_neg (by decide)]
    refine h1.trans ?_
    simp [Bool.and_assoc]
theorem centreOk_no (s : ByteArray) (h : s.size ≠ 4) : impl_centreOk.f 1 s = some (U.centreB s.data.toList) := by
  unfold impl_centreOk.f
  rw [if_neg (by omega)]
  simp only [impl_centreOk.j0]
  rw [if_pos trivial]
  congr 1
  have hl : s.data.toList.length ≠ 4 := by rw [data_length]; exact h
  unfold U.centreB
  split
  · rename_i e
    rw [e] at hl
    simp at hl
  · rfl
theorem four (s : ByteArray) (h : s.size = 4) : ∃ a b c d : UInt8, s = ⟨#[a, b, c, d]⟩ := by
  obtain ⟨⟨l⟩⟩ := s
  match l, h with
  | [a, b, c, d], _ => exact ⟨a, b, c, d, rfl⟩
theorem three (s : ByteArray) (h : s.size = 3) : ∃ a b c : UInt8, s = ⟨#[a, b, c]⟩ := by
  obtain ⟨⟨l⟩⟩ := s
  match l, h with
  | [a, b, c], _ => exact ⟨a, b, c, rfl⟩
theorem centreOk_ev (s : ByteArray) : ∃ k, impl_centreOk.f k s = some (U.centreB s.data.toList) := by
  by_cases h : s.size = 4
  · obtain ⟨a, b, c, d, rfl⟩ := four s h
    exact centreOk_f a b c d
  · exact ⟨1, centreOk_no s h⟩
theorem centreOk_any (s : ByteArray) (w : World) : Calls Tryd.prog 22 #[.string s] w fun e w' => e = .returned (.bool (U.centreB s.data.toList)) ∧ Drawn0 w w' := by
  obtain ⟨k, h⟩ := centreOk_ev s
  exact impl_centreOk.calls k s _ w h
theorem mark_loop (a b c : UInt8) (ha : 65 ≤ a.toNat ∧ a.toNat ≤ 90) (hb : 65 ≤ b.toNat ∧ b.toNat ≤ 90) (hc : 65 ≤ c.toNat ∧ c.toNat ≤ 90) (h80 : ¬ a.toNat = 80) :
    impl_MarkOf.l0 4 ⟨#[a, b, c]⟩ [(⟨#[82, 82]⟩ : ByteArray), (⟨#[67, 67]⟩ : ByteArray), (⟨#[65, 65]⟩ : ByteArray)] 3 0 = some (U.markB [a, b, c]) := by
  have hz : (⟨#[a, b, c]⟩ : ByteArray).size = 3 := rfl
  have he : ((⟨#[a, b, c]⟩ : ByteArray).extract 0 2).toList = [a, b] := by
    rw [Lib.toList_data]
    rfl
  have b2 : bt ⟨#[a, b, c]⟩ 2 = (c.toNat : Int) := rfl
  have t0 : (rdOf ByteArray.empty [(⟨#[82, 82]⟩ : ByteArray), (⟨#[67, 67]⟩ : ByteArray), (⟨#[65, 65]⟩ : ByteArray)] 0).toList = [82, 82] := by rw [Lib.toList_data]; rfl
  have t1 : (rdOf ByteArray.empty [(⟨#[82, 82]⟩ : ByteArray), (⟨#[67, 67]⟩ : ByteArray), (⟨#[65, 65]⟩ : ByteArray)] 1).toList = [67, 67] := by rw [Lib.toList_data]; rfl
  have t2 : (rdOf ByteArray.empty [(⟨#[82, 82]⟩ : ByteArray), (⟨#[67, 67]⟩ : ByteArray), (⟨#[65, 65]⟩ : ByteArray)] 2).toList = [65, 65] := by rw [Lib.toList_data]; rfl
  have w1 : wrap64 (0 + 1) = 1 := wrap_lit (by omega) (by omega) (by omega)
  have w2 : wrap64 (1 + 1) = 2 := wrap_lit (by omega) (by omega) (by omega)
  have w3 : wrap64 (2 + 1) = 3 := wrap_lit (by omega) (by omega) (by omega)
  have hm : ((c.toNat : Int) - 65) % 256 + 1 = (c.toNat : Int) - 64 := by omega
  have hcap : U.capsB [a, b, c] = true := by simp [U.capsB, ha, hb, hc]
  have key : ∀ x : UInt8, (([a, b] : List UInt8) = [x, x]) ↔ (a.toNat = x.toNat ∧ b.toNat = x.toNat) := fun x => by
    simp [← UInt8.toNat_inj]
  simp only [impl_MarkOf.l0, hz, he, b2, t0, t1, t2, w1, w2, w3, key, hm]
  unfold U.markB
  simp only [hcap, if_true]
  rw [if_neg h80]
  have n82 : (82 : UInt8).toNat = 82 := rfl
  have n67 : (67 : UInt8).toNat = 67 := rfl
  have n65 : (65 : UInt8).toNat = 65 := rfl
  rw [n82, n67, n65]
  simp
  by_cases e : a.toNat = b.toNat
  · rw [← e]
    by_cases e1 : a.toNat = 82 <;> by_cases e2 : a.toNat = 67 <;> by_cases e3 : a.toNat = 65 <;> by_cases e4 : c.toNat ≤ 88 <;> simp [e1, e2, e3, e4] <;> omega
  · have n1 : ¬ (a.toNat = 82 ∧ b.toNat = 82) := by omega
    have n2 : ¬ (a.toNat = 67 ∧ b.toNat = 67) := by omega
    have n3 : ¬ (a.toNat = 65 ∧ b.toNat = 65) := by omega
    simp [n1, n2, n3, e]
theorem caps3 {a b c : UInt8} (h : U.capsB [a, b, c] = true) : (65 ≤ a.toNat ∧ a.toNat ≤ 90) ∧ (65 ≤ b.toNat ∧ b.toNat ≤ 90) ∧ (65 ≤ c.toNat ∧ c.toNat ≤ 90) := by
  simpa [U.capsB] using h
theorem toList_nil (s : ByteArray) : s.toList = ([] : List UInt8) ↔ s.size = 0 := by
  rw [Lib.toList_data, ← data_length]
  exact List.length_eq_zero_iff.symm
theorem mark_ev (s : ByteArray) (hs : s.size ≤ 9223372036854775806) : ∃ k, impl_MarkOf.f k s = some (U.markB s.data.toList) := by
  by_cases h0 : s.size = 0
  · refine ⟨0, ?_⟩
    unfold impl_MarkOf.f
    rw [if_pos ((toList_nil s).2 h0)]
    have : s.data.toList = [] := List.length_eq_zero_iff.1 (by rw [data_length]; exact h0)
    rw [this]
    rfl
  · by_cases h3 : s.size = 3
    · obtain ⟨a, b, c, rfl⟩ := three s h3
      refine ⟨4, ?_⟩
      unfold impl_MarkOf.f
      rw [if_neg (fun h => h0 ((toList_nil _).1 h)), capitals_f _ _ hs 4 (by rw [h3]; omega), h3]
      have e0 : bt ⟨#[a, b, c]⟩ 0 = (a.toNat : Int) := rfl
      have e1 : bt ⟨#[a, b, c]⟩ 1 = (b.toNat : Int) := rfl
      have e2 : bt ⟨#[a, b, c]⟩ 2 = (c.toNat : Int) := rfl
      cases hc : U.capsB [a, b, c] with
      | false => simp [U.markB, hc]
      | true =>
        obtain ⟨ha, hb, hc'⟩ := caps3 hc
        simp only [Option.bind_some, hc, e0, e1, e2, if_true]
        rw [if_pos (by simp), if_pos (by omega)]
        by_cases h80 : a.toNat = 80
        · rw [if_pos (by omega), if_pos (by omega), if_pos (by omega)]
          unfold U.markB
          dsimp only
          rw [if_pos hc, if_pos h80]
          congr 2
          omega
        · rw [if_neg (by omega)]
          exact mark_loop a b c ha hb hc' h80
    · refine ⟨s.size + 1, ?_⟩
      unfold impl_MarkOf.f
      rw [if_neg (fun h => h0 ((toList_nil _).1 h)), capitals_f _ _ hs _ (by omega)]
      have : ((s.size : Int) == 3) = false := beq_eq_false_iff_ne.2 (by omega)
      rw [this]
      simp only [Option.bind_some, Bool.and_false]
      rw [if_neg (by decide)]
      congr 1
      unfold U.markB
      split
      · rename_i e
        rw [← data_length, e] at h0
        simp at h0
      · rename_i e
        rw [← data_length, e] at h3
        simp at h3
      · rfl
theorem mark_any (s : ByteArray) (w : World) (hs : s.size ≤ 9223372036854775806) :
    Calls Tryd.prog 24 #[.string s] w fun e w' => e = .returned (.tuple #[.int .i64 (U.markB s.data.toList).1, .int .i64 (U.markB s.data.toList).2]) ∧ Below w.heap.size w w' := by
  obtain ⟨k, h⟩ := mark_ev s hs
  exact impl_MarkOf.calls k s _ _ w h

/-! ### the reference's -/
theorem letters_loop (s : ByteArray) (hs : s.size ≤ 9223372036854775806) (d : Nat) : ∀ (i k : Nat), i + d = s.size → d < k →
    spec_l4Letters.l0 k s (i : Int) = some (U.capsB (s.data.toList.drop i)) := by
  induction d with
  | zero =>
    intro i k hi hk
    obtain ⟨k, rfl⟩ : ∃ m, k = m + 1 := ⟨k - 1, by omega⟩
    simp only [spec_l4Letters.l0]
    rw [if_neg (by omega), List.drop_of_length_le (by rw [data_length]; omega)]
    simp [U.capsB]
  | succ d ih =>
    intro i k hi hk
    obtain ⟨k, rfl⟩ : ∃ m, k = m + 1 := ⟨k - 1, by omega⟩
    have hlt : i < s.size := by omega
    have hl : i < s.data.toList.length := by rw [data_length]; exact hlt
    have hd : s.data.toList.drop i = s.data.toList[i] :: s.data.toList.drop (i + 1) := List.drop_eq_getElem_cons hl
    simp only [spec_l4Letters.l0]
    rw [if_pos (by omega), if_pos (by omega), bt_nat s i hlt, wrap_nat hlt hs, ih (i + 1) k (by omega) (by omega), hd]
    unfold U.capsB
    rw [List.all_cons]
    by_cases h1 : ((s.data.toList[i]).toNat : Int) < 65
    · rw [if_pos h1, decide_eq_false (by omega)]
      simp
    · rw [if_neg h1]
      by_cases h2 : ((s.data.toList[i]).toNat : Int) > 90
      · rw [if_pos h2, decide_eq_false (by omega)]
        simp
      · rw [if_neg h2, decide_eq_true (by omega)]
        simp
theorem letters_f (s : ByteArray) (hs : s.size ≤ 9223372036854775806) (k : Nat) (hk : s.size < k) : spec_l4Letters.f k s = some (U.capsB s.data.toList) := letters_loop s hs s.size 0 k (by omega) hk
theorem letters_any (s : ByteArray) (w : World) (hs : s.size ≤ 9223372036854775806) :
    Calls Tryd.prog 14 #[.string s] w fun e w' => e = .returned (.bool (U.capsB s.data.toList)) ∧ Drawn0 w w' := spec_l4Letters.calls (s.size + 1) s _ w (letters_f s hs _ (by omega))
theorem digit_f (x : UInt8) : spec_l1Digit.f (x.toNat : Int) = some (decide (48 ≤ x.toNat ∧ x.toNat ≤ 57)) := by
  unfold spec_l1Digit.f
  by_cases h : (x.toNat : Int) ≥ 48
  · rw [if_pos h]
    congr 1
    exact decide_eq_decide.2 (by omega)
  · rw [if_neg h, decide_eq_false (by omega)]
/-- What the reference's reader of numbers gives: the number of at most 15 digits; -1 of others. -/
def numOr (l : List UInt8) : Int := if U.digsB l = true ∧ l.length ≤ 15 then U.num l else -1
theorem number_loop (s : ByteArray) (hs : s.size ≤ 15) (d : Nat) : ∀ (i k : Nat) (acc : Int), i + d = s.size → d < k → 0 ≤ acc → acc < 10 ^ i →
    spec_l2Number.l0 k s acc (i : Int) = some (if (s.data.toList.drop i).all (fun c => decide (48 ≤ c.toNat ∧ c.toNat ≤ 57)) = true then U.numA acc (s.data.toList.drop i) else -1) := by
  induction d with
  | zero =>
    intro i k acc hi hk _ _
    obtain ⟨k, rfl⟩ : ∃ m, k = m + 1 := ⟨k - 1, by omega⟩
    simp only [spec_l2Number.l0]
    rw [if_neg (by omega), List.drop_of_length_le (by rw [data_length]; omega)]
    simp [U.numA]
  | succ d ih =>
    intro i k acc hi hk h0 hb
    obtain ⟨k, rfl⟩ : ∃ m, k = m + 1 := ⟨k - 1, by omega⟩
    have hlt : i < s.size := by omega
    have hl : i < s.data.toList.length := by rw [data_length]; exact hlt
    have hd : s.data.toList.drop i = s.data.toList[i] :: s.data.toList.drop (i + 1) := List.drop_eq_getElem_cons hl
    simp only [spec_l2Number.l0]
    rw [if_pos (by omega), if_pos (by omega), bt_nat s i hlt, wrap_nat hlt (by omega), digit_f, hd]
    simp only [Option.bind_some]
    rw [List.all_cons]
    by_cases h1 : 48 ≤ (s.data.toList[i]).toNat ∧ (s.data.toList[i]).toNat ≤ 57
    · have hp : (10 : Int) ^ i ≤ 10 ^ 15 := by
        have := Nat.pow_le_pow_right (n := 10) (by omega) (show i ≤ 15 by omega)
        exact_mod_cast this
      have e : wrap64 (wrap64 (acc * 10) + ((((s.data.toList[i]).toNat : Int) - 48) % 256)) = acc * 10 + (((s.data.toList[i]).toNat : Int) - 48) := by
        have : (10 : Int) ^ 15 = 1000000000000000 := by decide
        unfold wrap64
        omega
      rw [decide_eq_true h1, if_pos rfl, e, ih (i + 1) k _ (by omega) (by omega) (by omega) (by rw [Int.pow_succ]; omega)]
      simp [U.numA]
    · rw [decide_eq_false h1]
      simp
theorem number_f (s : ByteArray) : spec_l2Number.f (s.size + 2) s = some (numOr s.data.toList) := by
  unfold spec_l2Number.f numOr
  rw [data_length]
  by_cases h0 : (s.size : Int) = 0
  · rw [if_pos h0]
    have : s.data.toList = [] := List.length_eq_zero_iff.1 (by rw [data_length]; omega)
    simp [spec_l2Number.j0, this, U.digsB]
  · rw [if_neg h0]
    simp only [spec_l2Number.j0]
    by_cases h15 : (s.size : Int) > 15
    · rw [if_pos (by simpa using h15), if_neg (by omega)]
    · rw [if_neg (by simpa using h15)]
      have h := number_loop s (by omega) s.size 0 (s.size + 1) 0 (by omega) (by omega) (by omega) (by decide)
      rw [show ((0 : Nat) : Int) = 0 from rfl, List.drop_zero] at h
      rw [h]
      congr 1
      unfold U.digsB U.num
      rw [data_length, decide_eq_true (show 0 < s.size by omega), Bool.true_and]
      by_cases ha : (s.data.toList.all fun c => decide (48 ≤ c.toNat ∧ c.toNat ≤ 57)) = true
      · rw [if_pos ha, if_pos ⟨ha, by omega⟩]
      · rw [if_neg ha, if_neg (fun h => ha h.1)]
theorem number_any (s : ByteArray) (w : World) : Calls Tryd.prog 15 #[.string s] w fun e w' => e = .returned (.int .i64 (numOr s.data.toList)) ∧ Drawn0 w w' := spec_l2Number.calls _ s _ w (number_f s)
theorem let1_f (x : UInt8) (k : Nat) (hk : 1 < k) : spec_l4Letters.f k ⟨#[x]⟩ = some (U.capsB [x]) := letters_f ⟨#[x]⟩ (Nat.le_of_ble_eq_true rfl) k hk
theorem dig_one (x : UInt8) : U.digsB [x] = decide (48 ≤ x.toNat ∧ x.toNat ≤ 57) := by simp [U.digsB]
theorem l4centre_step (s : ByteArray) (hz : s.size = 4) (i : Nat) (hi : i < 4) (x : UInt8) (he : s.extract i (i + 1) = ⟨#[x]⟩) (hx : bt s (i : Int) = (x.toNat : Int)) (b : Bool) (k : Nat) (hk : 1 < k) (h : spec_l4CentreOk.l0 k s ((i + 1 : Nat) : Int) = some b) :
    spec_l4CentreOk.l0 (k + 1) s (i : Int) = some ((U.capsB [x] || U.digsB [x]) && b) := by
  have hw : wrap64 ((i : Int) + 1) = ((i + 1 : Nat) : Int) := wrap_nat hi (by omega)
  simp only [spec_l4CentreOk.l0]
  rw [hw, if_pos (by omega), if_pos (by omega), if_pos (by omega), hx, digit_f, ← dig_one, if_pos (by omega), if_pos (by omega), show ((i : Int)).toNat = i from rfl, show (((i + 1 : Nat) : Int)).toNat = i + 1 from rfl, he, let1_f x k hk, h]
  cases U.capsB [x] <;> cases U.digsB [x] <;> simp
theorem l4centre_ev (s : ByteArray) : ∃ k, spec_l4CentreOk.f k s = some (U.centreB s.data.toList) := by
  by_cases h : s.size = 4
  · obtain ⟨a, b, c, d, rfl⟩ := four s h
    refine ⟨10, ?_⟩
    have h4 : spec_l4CentreOk.l0 6 ⟨#[a, b, c, d]⟩ ((3 + 1 : Nat) : Int) = some true := by
      simp only [spec_l4CentreOk.l0]
      rw [if_neg (by omega)]
    have h3 := l4centre_step ⟨#[a, b, c, d]⟩ h 3 (by omega) d rfl rfl _ 6 (by omega) h4
    have h2 := l4centre_step ⟨#[a, b, c, d]⟩ h 2 (by omega) c rfl rfl _ 7 (by omega) h3
    have h1 := l4centre_step ⟨#[a, b, c, d]⟩ h 1 (by omega) b rfl rfl _ 8 (by omega) h2
    unfold spec_l4CentreOk.f
    rw [if_pos (by rw [h]; rfl), if_pos (by omega), if_pos (by rw [h]; omega), show (⟨#[a, b, c, d]⟩ : ByteArray).extract 0 1 = ⟨#[a]⟩ from rfl, let1_f a 10 (by omega)]
    simp only [Option.bind_some, spec_l4CentreOk.j0]
    cases hc : U.capsB [a] with
    | false => simp [U.centreB, hc]
    | true =>
      rw [Bool.not_true, if_neg (by decide)]
      refine h1.trans ?_
      simp [U.centreB, hc, Bool.and_assoc]
  · refine ⟨1, ?_⟩
    unfold spec_l4CentreOk.f
    rw [if_neg (by omega)]
    simp only [spec_l4CentreOk.j0]
    rw [if_pos trivial]
    congr 1
    have hl : s.data.toList.length ≠ 4 := by rw [data_length]; exact h
    unfold U.centreB
    split
    · rename_i e
      rw [e] at hl
      simp at hl
    · rfl
theorem l4centre_any (s : ByteArray) (w : World) : Calls Tryd.prog 16 #[.string s] w fun e w' => e = .returned (.bool (U.centreB s.data.toList)) ∧ Drawn0 w w' := by
  obtain ⟨k, h⟩ := l4centre_ev s
  exact spec_l4CentreOk.calls k s _ w h
theorem l4mark_ev (s : ByteArray) (hs : s.size ≤ 9223372036854775806) : ∃ k, spec_MarkOf.f k s = some (U.markB s.data.toList) := by
  by_cases h0 : s.size = 0
  · refine ⟨0, ?_⟩
    unfold spec_MarkOf.f
    rw [if_pos ((toList_nil s).2 h0)]
    have : s.data.toList = [] := List.length_eq_zero_iff.1 (by rw [data_length]; exact h0)
    rw [this]
    rfl
  · by_cases h3 : s.size = 3
    · obtain ⟨a, b, c, rfl⟩ := three s h3
      refine ⟨4, ?_⟩
      unfold spec_MarkOf.f
      rw [if_neg (fun h => h0 ((toList_nil _).1 h)), if_pos (by rw [h3]; rfl), letters_f _ hs 4 (by rw [h3]; omega)]
      have e0 : bt ⟨#[a, b, c]⟩ 0 = (a.toNat : Int) := rfl
      have e1 : bt ⟨#[a, b, c]⟩ 1 = (b.toNat : Int) := rfl
      have e2 : bt ⟨#[a, b, c]⟩ 2 = (c.toNat : Int) := rfl
      simp only [Option.bind_some, spec_MarkOf.j0, spec_MarkOf.j1, h3, e0, e1, e2]
      cases hc : U.capsB [a, b, c] with
      | false => simp [U.markB, hc]
      | true =>
        obtain ⟨ha, hb, hc'⟩ := caps3 hc
        have hm : ((c.toNat : Int) - 65) % 256 + 1 = (c.toNat : Int) - 64 := by omega
        unfold U.markB
        dsimp only
        rw [if_pos hc, hm]
        simp
        by_cases h80 : a.toNat = 80
        · rw [if_pos (by omega), if_pos h80]
          congr 2
          omega
        · rw [if_neg (by omega), if_neg h80]
          by_cases hab : a.toNat = b.toNat
          · have n82 : ((a.toNat : Int) = 82) ↔ a.toNat = 82 := by omega
            have n67 : ((a.toNat : Int) = 67) ↔ a.toNat = 67 := by omega
            have n65 : ((a.toNat : Int) = 65) ↔ a.toNat = 65 := by omega
            rw [if_pos (by omega)]
            by_cases e1 : a.toNat = 82 <;> by_cases e2 : a.toNat = 67 <;> by_cases e3 : a.toNat = 65 <;> by_cases e4 : c.toNat ≤ 88 <;> simp [e1, e2, e3, e4, ← hab, n82, n67, n65] <;> omega
          · rw [if_neg (by omega)]
            simp [hab]
    · refine ⟨s.size + 1, ?_⟩
      unfold spec_MarkOf.f
      rw [if_neg (fun h => h0 ((toList_nil _).1 h)), if_neg (by omega)]
      simp only [spec_MarkOf.j0]
      rw [if_pos trivial]
      congr 1
      unfold U.markB
      split
      · rename_i e
        rw [← data_length, e] at h0
        simp at h0
      · rename_i e
        rw [← data_length, e] at h3
        simp at h3
      · rfl
theorem l4mark_any (s : ByteArray) (w : World) (hs : s.size ≤ 9223372036854775806) :
    Calls Tryd.prog 33 #[.string s] w fun e w' => e = .returned (.tuple #[.int .i64 (U.markB s.data.toList).1, .int .i64 (U.markB s.data.toList).2]) ∧ Drawn0 w w' := by
  obtain ⟨k, h⟩ := l4mark_ev s hs
  exact spec_MarkOf.calls k s _ _ w h
/-- A loop over the text: what lies behind 'from', cut into its pieces. -/
theorem pieces_cons (c : UInt8) (l : List UInt8) : ∃ p ps, U.pieces c l = p :: ps := by
  cases h : U.pieces c l with
  | nil => exact absurd h (U.pieces_ne c l)
  | cons p ps => exact ⟨p, ps, rfl⟩
/-- l's pieces, the first with x ahead of it. -/
def ahead (x : List UInt8) : List (List UInt8) → List (List UInt8)
  | p :: ps => (x ++ p) :: ps
  | [] => [x]
theorem l4pieces_loop (s : ByteArray) (hs : s.size ≤ 8000000000000) (d : Nat) : ∀ (i j k : Nat) (out : List ByteArray), i + d = s.size → j ≤ i → d + 1 < k → out.length ≤ i →
    ∃ r, spec_l4Pieces.l0 k s out (j : Int) (i : Int) = some (out ++ r) ∧ r.map (·.data.toList) = ahead ((s.data.toList.drop j).take (i - j)) (U.pieces 32 (s.data.toList.drop i)) := by
  induction d with
  | zero =>
    intro i j k out hi hj hk ho
    obtain ⟨k, rfl⟩ : ∃ m, k = m + 1 := ⟨k - 1, by omega⟩
    obtain ⟨k, rfl⟩ : ∃ m, k = m + 1 := ⟨k - 1, by omega⟩
    refine ⟨[s.extract j i], ?_, ?_⟩
    · simp only [spec_l4Pieces.l0]
      have hw : wrap64 ((i : Int) + 1) = ((i + 1 : Nat) : Int) := by unfold wrap64; omega
      rw [if_pos (by omega), if_pos (by omega), if_pos (by omega), if_pos (by omega), if_pos (by omega), hw, if_neg (by omega)]
      rfl
    · rw [List.drop_of_length_le (i := i) (by rw [data_length]; omega)]
      simp [U.pieces, ahead, Lib.extract_data]
  | succ d ih =>
    intro i j k out hi hj hk ho
    obtain ⟨k, rfl⟩ : ∃ m, k = m + 1 := ⟨k - 1, by omega⟩
    have hlt : i < s.size := by omega
    have hl : i < s.data.toList.length := by rw [data_length]; exact hlt
    have hd : s.data.toList.drop i = s.data.toList[i] :: s.data.toList.drop (i + 1) := List.drop_eq_getElem_cons hl
    have hw : wrap64 ((i : Int) + 1) = ((i + 1 : Nat) : Int) := wrap_nat hlt (by omega)
    simp only [spec_l4Pieces.l0]
    rw [if_pos (by omega), if_neg (by omega), if_pos (by omega), if_pos (by omega), bt_nat s i hlt, hw, hd]
    by_cases h32 : s.data.toList[i] = 32
    · rw [if_pos (by rw [h32]; rfl), if_pos (by omega), if_pos (by omega), if_pos (by omega)]
      obtain ⟨r, hr, hm⟩ := ih (i + 1) (i + 1) k (out ++ [s.extract j i]) (by omega) (by omega) (by omega) (by simp; omega)
      refine ⟨s.extract j i :: r, ?_, ?_⟩
      · refine hr.trans ?_
        simp
      · rw [List.map_cons, hm, Lib.extract_data]
        rw [h32, U.pieces_hit]
        obtain ⟨p, ps, hp⟩ := pieces_cons 32 (s.data.toList.drop (i + 1))
        rw [hp]
        simp [ahead]
    · have hn : ¬ ((s.data.toList[i]).toNat : Int) = 32 := by
        intro h
        apply h32
        apply UInt8.toNat_inj.1
        show _ = 32
        omega
      rw [if_neg hn]
      obtain ⟨r, hr, hm⟩ := ih (i + 1) j k out (by omega) (by omega) (by omega) (by omega)
      refine ⟨r, hr, ?_⟩
      rw [hm]
      obtain ⟨p, ps, hp⟩ := pieces_cons 32 (s.data.toList.drop (i + 1))
      rw [U.pieces_miss h32 hp, hp]
      have ht : (s.data.toList.drop j).take (i + 1 - j) = (s.data.toList.drop j).take (i - j) ++ [s.data.toList[i]] := by
        rw [show i + 1 - j = (i - j) + 1 by omega, List.take_succ_eq_append_getElem (by rw [List.length_drop]; omega)]
        congr 2
        rw [List.getElem_drop]
        congr 1
        omega
      simp [ahead, ht]
theorem l4pieces_f (s : ByteArray) (hs : s.size ≤ 8000000000000) : spec_l4Pieces.f (s.size + 2) s = some (U.piecesB 32 s) := by
  obtain ⟨r, hr, hm⟩ := l4pieces_loop s hs s.size 0 0 (s.size + 2) [] (by omega) (by omega) (by omega) (by simp)
  unfold spec_l4Pieces.f
  rw [show ((0 : Nat) : Int) = 0 from rfl] at hr
  rw [hr]
  congr 1
  apply U.map_ba
  rw [List.nil_append, hm, U.piecesB_data]
  obtain ⟨p, ps, hp⟩ := pieces_cons 32 s.data.toList
  simp [ahead, hp]
end Go.Proofs.YtfipjlcbnfcddaaDoor.A
