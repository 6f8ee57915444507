/-
  Plain law: the drawer of a step of the soil comes to an answer.
-/
import Derived.Test.YtjkhmjnigjfnmaaDoorF2
import Derived.Test.YtjkhmjnigjfnmaaDoorS
namespace Go.Proofs.YtjkhmjnigjfnmaaDoor.C
open Go Go.RowKit Go.Proofs.YtjkhmjnigjfnmaaDoorW.PrintWords Go.Proofs.YtjkhmjnigjfnmaaDoor.F
set_option linter.unusedVariables false
set_option linter.unusedSimpArgs false
def Bytes (l : List Int) : Prop := (∀ x ∈ l, 0 ≤ x ∧ x ≤ 255) ∧ l.length ≤ 1048576
theorem rd_byte {l : List Int} (h : Bytes l) {i : Int} (h0 : 0 ≤ i) (h1 : i < l.length) : 0 ≤ rd l i ∧ rd l i ≤ 255 := by
  unfold rd
  have hl : i.toNat < l.length := by omega
  have he : l.getD i.toNat 0 = l[i.toNat] := by simp [List.getD, List.getElem?_eq_getElem hl]
  rw [he]
  exact h.1 _ (List.getElem_mem hl)
theorem next_ok {l : List Int} (h : Bytes l) {p : Int} (h0 : 0 ≤ p) (h1 : p ≤ l.length) : ∃ v q, spec_l1Rd_next.f l p = some (v, q) ∧ 0 ≤ v ∧ v ≤ 255 ∧ 0 ≤ q ∧ q ≤ l.length := by
  unfold spec_l1Rd_next.f
  have hn := h.2
  by_cases hp : p ≥ (l.length : Int)
  · rw [if_pos hp]
    exact ⟨0, p, rfl, by omega, by omega, h0, h1⟩
  · rw [if_neg hp]
    have e1 : wrap64 (p + 1) = p + 1 := wrap_id (by omega) (by omega)
    have e2 : wrap64 (p + 1 - 1) = p := by rw [wrap_id (by omega) (by omega)]; omega
    rw [e1, e2, if_pos h0, if_pos (by omega)]
    have hb := rd_byte h h0 (by omega)
    exact ⟨_, _, rfl, by rw [wrap_id (by omega) (by omega)]; exact hb.1, by rw [wrap_id (by omega) (by omega)]; exact hb.2, by omega, by omega⟩
theorem below_ok {l : List Int} (h : Bytes l) {p n : Int} (h0 : 0 ≤ p) (h1 : p ≤ l.length) (hn : 1 ≤ n) : ∃ v q, spec_l1Rd_below.f l p n = some (v, q) ∧ 0 ≤ v ∧ v < n ∧ 0 ≤ q ∧ q ≤ l.length := by
  unfold spec_l1Rd_below.f
  by_cases c1 : n ≤ 1
  · rw [if_pos c1]
    exact ⟨0, p, rfl, by omega, by omega, h0, h1⟩
  · rw [if_neg c1]
    obtain ⟨v, q, e, v0, v1, q0, q1⟩ := next_ok h h0 h1
    by_cases c2 : n ≤ 256
    · rw [if_pos c2, e]
      simp only [Option.bind_some]
      rw [if_neg (by omega)]
      exact ⟨_, _, rfl, Int.tmod_nonneg _ v0, Int.tmod_lt_of_pos _ (by omega), q0, q1⟩
    · rw [if_neg c2, e]
      simp only [Option.bind_some]
      obtain ⟨v', q', e', v0', v1', q0', q1'⟩ := next_ok h q0 q1
      rw [e']
      simp only [Option.bind_some]
      rw [if_neg (by omega), wrap_id (x := v * 256) (by omega) (by omega), wrap_id (x := v * 256 + v') (by omega) (by omega)]
      exact ⟨_, _, rfl, Int.tmod_nonneg _ (by omega), Int.tmod_lt_of_pos _ (by omega), q0', q1'⟩
theorem step_some (s0 s1 s2 s3 s4 t r : Int) : ∃ x, spec_SoilStep.f s0 s1 s2 s3 s4 t r = some x := by
  unfold spec_SoilStep.f
  split <;> exact ⟨_, rfl⟩
theorem soil_loop {l : List Int} (h : Bytes l) (n : Int) (hn : n ≤ 9) (d : Nat) : ∀ (k : Nat) (i p s0 s1 s2 s3 s4 : Int), 0 ≤ i → n - i ≤ d → d < k → 0 ≤ p → p ≤ l.length →
    ∃ x0 x1 x2 x3 x4 q, spec_l1Rd_soil.l0 k n i l p s0 s1 s2 s3 s4 = some (x0, x1, x2, x3, x4, q) ∧ 0 ≤ q ∧ q ≤ l.length := by
  induction d with
  | zero =>
    intro k i p s0 s1 s2 s3 s4 hi hd hk h0 h1
    obtain ⟨k, rfl⟩ : ∃ m, k = m + 1 := ⟨k - 1, by omega⟩
    simp only [spec_l1Rd_soil.l0]
    rw [if_neg (by omega)]
    exact ⟨_, _, _, _, _, _, rfl, h0, h1⟩
  | succ d ih =>
    intro k i p s0 s1 s2 s3 s4 hi hd hk h0 h1
    obtain ⟨k, rfl⟩ : ∃ m, k = m + 1 := ⟨k - 1, by omega⟩
    simp only [spec_l1Rd_soil.l0]
    by_cases c : i < n
    · rw [if_pos c]
      obtain ⟨v, q, e, v0, v1, q0, q1⟩ := below_ok h h0 h1 (n := 500) (by omega)
      rw [e]
      simp only [Option.bind_some]
      obtain ⟨v', q', e', v0', v1', q0', q1'⟩ := below_ok h q0 q1 (n := 700) (by omega)
      rw [e']
      simp only [Option.bind_some]
      obtain ⟨x, ex⟩ := step_some s0 s1 s2 s3 s4 (wrap64 (v - 200)) v'
      rw [ex]
      simp only [Option.bind_some]
      rw [wrap_id (x := i + 1) (by omega) (by omega)]
      exact ih k (i + 1) q' _ _ _ _ _ (by omega) (by omega) (by omega) q0' q1'
    · rw [if_neg c]
      exact ⟨_, _, _, _, _, _, rfl, h0, h1⟩
theorem draw_ok {l : List Int} (h : Bytes l) : ∃ (k : Nat) (s0 s1 s2 s3 s4 t r : Int), spec_DrawSoilStep.f k l = some (s0, s1, s2, s3, s4, t, r) := by
  refine ⟨20, ?_⟩
  unfold spec_DrawSoilStep.f spec_l1Open.f
  simp only [Option.bind_some]
  unfold spec_l17DrawSoil.f spec_l1Rd_soil.f
  obtain ⟨v, q, e, v0, v1, q0, q1⟩ := below_ok h (p := 0) (by omega) (by omega) (n := 9) (by omega)
  rw [e]
  simp only [Option.bind_some]
  obtain ⟨x0, x1, x2, x3, x4, q', e', q0', q1'⟩ := soil_loop h v (by omega) 9 20 0 q 0 0 0 0 0 (by omega) (by omega) (by omega) q0 q1
  rw [e']
  simp only [Option.bind_some]
  obtain ⟨v2, q2, e2, v20, v21, q20, q21⟩ := below_ok h q0' q1' (n := 20) (by omega)
  rw [e2]
  simp only [Option.bind_some]
  have key : ∀ y0 y1 y2 y3 y4 : Int, ∃ s0 s1 s2 s3 s4 t r : Int, (spec_l1Rd_below.f l q2 600).bind (fun bt155 => ((spec_l1Rd_below.f l bt155.2 900).bind fun bt157 => ((spec_l1Rd_below.f l bt157.2 14).bind fun bt159 => (if bt159.1 = 0 then ((some (([(-800), 800, 801, (-801), 0] : List Int) : List Int)).bind fun y161 => ((spec_l1Rd_below.f l bt159.2 5).bind fun bt164 => (if 0 ≤ bt164.1 then (if bt164.1 < (y161.length : Int) then (some (y0, y1, y2, y3, y4, rd y161 bt164.1, bt157.1)) else (none)) else (none)))) else (if bt159.1 = 1 then ((some (([(-1), 5000, 5001, 0, 3000, 3001] : List Int) : List Int)).bind fun y167 => ((spec_l1Rd_below.f l bt159.2 6).bind fun bt170 => (if 0 ≤ bt170.1 then (if bt170.1 < (y167.length : Int) then (some (y0, y1, y2, y3, y4, wrap64 (bt155.1 - 250), rd y167 bt170.1)) else (none)) else (none)))) else (some (y0, y1, y2, y3, y4, wrap64 (bt155.1 - 250), bt157.1))))))) = some (s0, s1, s2, s3, s4, t, r) := by
    intro y0 y1 y2 y3 y4
    obtain ⟨a, qa, ea, _, _, qa0, qa1⟩ := below_ok h q20 q21 (n := 600) (by omega)
    rw [ea]
    simp only [Option.bind_some]
    obtain ⟨b, qb, eb, _, _, qb0, qb1⟩ := below_ok h qa0 qa1 (n := 900) (by omega)
    rw [eb]
    simp only [Option.bind_some]
    obtain ⟨c, qc, ec, _, _, qc0, qc1⟩ := below_ok h qb0 qb1 (n := 14) (by omega)
    rw [ec]
    simp only [Option.bind_some]
    by_cases c0 : c = 0
    · rw [if_pos c0]
      obtain ⟨z, qz, ez, z0, z1, _, _⟩ := below_ok h qc0 qc1 (n := 5) (by omega)
      rw [ez]
      simp only [Option.bind_some]
      rw [if_pos z0, if_pos (by simpa using z1)]
      exact ⟨_, _, _, _, _, _, _, rfl⟩
    · rw [if_neg c0]
      by_cases c1 : c = 1
      · rw [if_pos c1]
        obtain ⟨z, qz, ez, z0, z1, _, _⟩ := below_ok h qc0 qc1 (n := 6) (by omega)
        rw [ez]
        simp only [Option.bind_some]
        rw [if_pos z0, if_pos (by simpa using z1)]
        exact ⟨_, _, _, _, _, _, _, rfl⟩
      · rw [if_neg c1]
        exact ⟨_, _, _, _, _, _, _, rfl⟩
  by_cases d0 : v2 = 0
  · rw [if_pos d0]; exact key _ _ _ _ _
  · rw [if_neg d0]
    by_cases d1 : v2 = 1
    · rw [if_pos d1]; exact key _ _ _ _ _
    · rw [if_neg d1]
      by_cases d2 : v2 = 2
      · rw [if_pos d2]; exact key _ _ _ _ _
      · rw [if_neg d2]
        by_cases d3 : v2 = 3
        · rw [if_pos d3]; exact key _ _ _ _ _
        · rw [if_neg d3]
          by_cases d4 : v2 = 4
          · rw [if_pos d4]; exact key _ _ _ _ _
          · rw [if_neg d4]; exact key _ _ _ _ _
end Go.Proofs.YtjkhmjnigjfnmaaDoor.C
