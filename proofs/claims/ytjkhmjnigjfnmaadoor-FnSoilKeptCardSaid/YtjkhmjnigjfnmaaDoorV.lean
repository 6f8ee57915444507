/-
  Plain laws: a number's decimal digits are read back; a soil's text falls into its five numbers; what a step of the soil keeps. No program in sight.
-/
import Derived.Test.YtjkhmjnigjfnmaaDoorU
import Derived.Lib.ItoaMem
import Derived.Lib.Join
namespace Go.Proofs.YtjkhmjnigjfnmaaDoor.V
open Go
set_option linter.unusedVariables false
set_option linter.unusedSimpArgs false
/-- The decimal text of a number from 0 on. -/
def decB (n : Nat) : ByteArray := ⟨(Lib.decDigits n).toArray⟩
theorem decB_list (n : Nat) : (decB n).data.toList = Lib.decDigits n := by simp [decB]
theorem dig_byte {d : Nat} (h : d < 10) : (UInt8.ofNat (48 + d)).toNat = 48 + d := by
  rw [UInt8.toNat_ofNat']
  omega
theorem dec_all (n : Nat) : ∀ c ∈ Lib.decDigits n, 48 ≤ c.toNat ∧ c.toNat ≤ 57 := by
  induction n using Nat.strongRecOn with
  | _ n ih =>
    rw [Lib.decDigits]
    by_cases h : n < 10
    · rw [dif_pos h]
      intro c hc
      rw [List.mem_singleton] at hc
      rw [hc, dig_byte h]
      omega
    · rw [dif_neg h]
      intro c hc
      rw [List.mem_append, List.mem_singleton] at hc
      rcases hc with hc | hc
      · exact ih (n / 10) (by omega) c hc
      · rw [hc, dig_byte (by omega)]
        omega
theorem dec_pos (n : Nat) : 0 < (Lib.decDigits n).length := by
  rw [Lib.decDigits_length]
  exact Lib.nDigits_pos n
theorem dec_digs (n : Nat) : U.digsB (Lib.decDigits n) = true := by
  unfold U.digsB
  rw [Bool.and_eq_true, decide_eq_true_eq, List.all_eq_true]
  exact ⟨dec_pos n, fun c hc => decide_eq_true (dec_all n c hc)⟩
theorem numA_snoc (l : List UInt8) (c : UInt8) : ∀ acc : Int, U.numA acc (l ++ [c]) = U.numA acc l * 10 + (c.toNat - 48) := by
  induction l with
  | nil => intro acc; rfl
  | cons b r ih => intro acc; exact ih _
theorem dec_num (n : Nat) : U.num (Lib.decDigits n) = n := by
  induction n using Nat.strongRecOn with
  | _ n ih =>
    rw [Lib.decDigits]
    by_cases h : n < 10
    · rw [dif_pos h]
      show (0 : Int) * 10 + (((UInt8.ofNat (48 + n)).toNat : Int) - 48) = n
      rw [dig_byte h]
      omega
    · rw [dif_neg h]
      unfold U.num at ih ⊢
      rw [numA_snoc, ih (n / 10) (by omega), dig_byte (by omega)]
      omega
theorem dec_len {n k : Nat} (h : n < 10 ^ (k + 1)) : (Lib.decDigits n).length ≤ k + 1 := by
  induction k generalizing n with
  | zero => rw [Lib.decDigits, dif_pos (by simpa using h)]; simp
  | succ k ih =>
    rw [Lib.decDigits]
    by_cases h2 : n < 10
    · rw [dif_pos h2]; simp
    · rw [dif_neg h2]
      have := ih (n := n / 10) (by rw [Nat.pow_succ] at h; omega)
      rw [List.length_append, List.length_singleton]
      omega
/-- The first digit of a number of more than one is no nought. -/
theorem dec_head {n : Nat} (h : 1 < (Lib.decDigits n).length) : ∃ c r, Lib.decDigits n = c :: r ∧ c.toNat ≠ 48 := by
  induction n using Nat.strongRecOn with
  | _ n ih =>
    rw [Lib.decDigits] at h ⊢
    by_cases h2 : n < 10
    · rw [dif_pos h2] at h
      simp at h
    · rw [dif_neg h2] at h ⊢
      by_cases h3 : n / 10 < 10
      · rw [Lib.decDigits, dif_pos h3]
        exact ⟨_, _, rfl, by rw [dig_byte h3]; omega⟩
      · obtain ⟨c, r, he, hc⟩ := ih (n / 10) (by omega) (by rw [Lib.decDigits, dif_neg h3, List.length_append]; have := dec_pos (n / 10 / 10); simp; omega)
        exact ⟨c, r ++ [UInt8.ofNat (48 + n % 10)], by rw [he]; rfl, hc⟩
theorem dec_no32 (n : Nat) : (Lib.decDigits n).count 32 = 0 := by
  rw [List.count_eq_zero]
  intro hm
  have := dec_all n 32 hm
  simp at this
theorem pieces_app (c : UInt8) (a r : List UInt8) (h : a.count c = 0) : U.pieces c (a ++ c :: r) = a :: U.pieces c r := by
  induction a with
  | nil => exact U.pieces_hit c r
  | cons b a ih =>
    rw [List.count_cons] at h
    have hb : b ≠ c := by
      intro e
      rw [e] at h
      simp at h
    exact U.pieces_miss hb (ih (by omega))
/-- The text of a soil. -/
def soilL (a b c d e : Nat) : List UInt8 := Lib.join [Lib.decDigits a, Lib.decDigits b, Lib.decDigits c, Lib.decDigits d, Lib.decDigits e] [32]
theorem soil_pieces (a b c d e : Nat) : U.pieces 32 (soilL a b c d e) = [Lib.decDigits a, Lib.decDigits b, Lib.decDigits c, Lib.decDigits d, Lib.decDigits e] := by
  have h : soilL a b c d e = Lib.decDigits a ++ 32 :: (Lib.decDigits b ++ 32 :: (Lib.decDigits c ++ 32 :: (Lib.decDigits d ++ 32 :: Lib.decDigits e))) := by
    unfold soilL
    rw [Lib.join_cons]
    simp [Lib.joinTail]
  rw [h, pieces_app _ _ _ (dec_no32 a), pieces_app _ _ _ (dec_no32 b), pieces_app _ _ _ (dec_no32 c), pieces_app _ _ _ (dec_no32 d), U.pieces_none _ _ (dec_no32 e)]
def soilS (a b c d e : Nat) : ByteArray := ⟨(soilL a b c d e).toArray⟩
theorem soil_piecesB (a b c d e : Nat) : U.piecesB 32 (soilS a b c d e) = [decB a, decB b, decB c, decB d, decB e] := by
  unfold U.piecesB soilS
  rw [soil_pieces]
  rfl
theorem soilL_len {a b c d e : Nat} (ha : a < 10 ^ 18) (hb : b < 10 ^ 18) (hc : c < 10 ^ 18) (hd : d < 10 ^ 18) (he : e < 10 ^ 18) : (soilL a b c d e).length ≤ 94 := by
  have h : soilL a b c d e = Lib.decDigits a ++ 32 :: (Lib.decDigits b ++ 32 :: (Lib.decDigits c ++ 32 :: (Lib.decDigits d ++ 32 :: Lib.decDigits e))) := by
    unfold soilL
    rw [Lib.join_cons]
    simp [Lib.joinTail]
  rw [h]
  simp only [List.length_append, List.length_cons]
  have := dec_len (k := 17) ha
  have := dec_len (k := 17) hb
  have := dec_len (k := 17) hc
  have := dec_len (k := 17) hd
  have := dec_len (k := 17) he
  omega
end Go.Proofs.YtjkhmjnigjfnmaaDoor.V
