/-
  Plain law: the drawers of headings come to an answer, and a drawn heading is right.
-/
import Derived.Test.YtfipjlcbnfcddaaDoorF8
import Derived.Test.YtfipjlcbnfcddaaDoorF9
namespace Go.Proofs.YtfipjlcbnfcddaaDoor.P
open Go Go.RowKit Go.Proofs.YtfipjlcbnfcddaaDoorW.PrintWords Go.Proofs.YtfipjlcbnfcddaaDoor.F
set_option linter.unusedVariables false
set_option linter.unusedSimpArgs false
def Bytes (l : List Int) : Prop := (∀ x ∈ l, 0 ≤ x ∧ x ≤ 255) ∧ l.length ≤ 1048576
theorem wrap_id {x : Int} (h0 : -9223372036854775808 ≤ x) (h1 : x ≤ 9223372036854775807) : wrap64 x = x := by
  unfold wrap64
  omega
theorem rd_byte {l : List Int} (h : Bytes l) {i : Int} (h0 : 0 ≤ i) (h1 : i < l.length) : 0 ≤ rd l i ∧ rd l i ≤ 255 := by
  unfold rd
  have hl : i.toNat < l.length := by omega
  have he : l.getD i.toNat 0 = l[i.toNat] := by simp [List.getD, List.getElem?_eq_getElem hl]
  rw [he]
  exact h.1 _ (List.getElem_mem hl)
theorem next_ok {l : List Int} (h : Bytes l) {p : Int} (h0 : 0 ≤ p) (h1 : p ≤ l.length) : ∃ v q, spec_l1Rd_next.f l p = some (v, q) ∧ 0 ≤ v ∧ v ≤ 255 ∧ 0 ≤ q ∧ q ≤ l.length := by
  unfold spec_l1Rd_next.f
  have hn := h.2
  by_cases hp : p ≥ (l.length : Int)
  · rw [if_pos hp]
    exact ⟨0, p, rfl, by omega, by omega, h0, h1⟩
  · rw [if_neg hp]
    have e1 : wrap64 (p + 1) = p + 1 := wrap_id (by omega) (by omega)
    have e2 : wrap64 (p + 1 - 1) = p := by rw [wrap_id (by omega) (by omega)]; omega
    rw [e1, e2, if_pos h0, if_pos (by omega)]
    have hb := rd_byte h h0 (by omega)
    exact ⟨_, _, rfl, by rw [wrap_id (by omega) (by omega)]; exact hb.1, by rw [wrap_id (by omega) (by omega)]; exact hb.2, by omega, by omega⟩
theorem below_ok {l : List Int} (h : Bytes l) {p n : Int} (h0 : 0 ≤ p) (h1 : p ≤ l.length) (hn : 1 ≤ n) : ∃ v q, spec_l1Rd_below.f l p n = some (v, q) ∧ 0 ≤ v ∧ v < n ∧ 0 ≤ q ∧ q ≤ l.length := by
  unfold spec_l1Rd_below.f
  by_cases c1 : n ≤ 1
  · rw [if_pos c1]
    exact ⟨0, p, rfl, by omega, by omega, h0, h1⟩
  · rw [if_neg c1]
    obtain ⟨v, q, e, v0, v1, q0, q1⟩ := next_ok h h0 h1
    by_cases c2 : n ≤ 256
    · rw [if_pos c2, e]
      simp only [Option.bind_some]
      rw [if_neg (by omega)]
      exact ⟨_, _, rfl, Int.tmod_nonneg _ v0, Int.tmod_lt_of_pos _ (by omega), q0, q1⟩
    · rw [if_neg c2, e]
      simp only [Option.bind_some]
      obtain ⟨v', q', e', v0', v1', q0', q1'⟩ := next_ok h q0 q1
      rw [e']
      simp only [Option.bind_some]
      rw [if_neg (by omega), wrap_id (x := v * 256) (by omega) (by omega), wrap_id (x := v * 256 + v') (by omega) (by omega)]
      exact ⟨_, _, rfl, Int.tmod_nonneg _ (by omega), Int.tmod_lt_of_pos _ (by omega), q0', q1'⟩
theorem once_ok {l : List Int} (h : Bytes l) {p n : Int} (h0 : 0 ≤ p) (h1 : p ≤ l.length) (hn : 1 ≤ n) : ∃ b q, spec_l1Rd_once.f l p n = some (b, q) ∧ 0 ≤ q ∧ q ≤ l.length := by
  obtain ⟨v, q, e, v0, v1, q0, q1⟩ := below_ok h h0 h1 hn
  unfold spec_l1Rd_once.f
  rw [e]
  exact ⟨_, _, rfl, q0, q1⟩
theorem rdOf_le {n : Nat} {y : List ByteArray} (hy : ∀ s ∈ y, s.size ≤ n) (i : Int) : (rdOf ByteArray.empty y i).size ≤ n := by
  unfold rdOf
  rw [List.getD_eq_getElem?_getD]
  cases h : y[i.toNat]? with
  | none => exact Nat.zero_le _
  | some s => exact hy s (List.mem_of_getElem? h)
theorem one_size (x : Int) : (strOfNums [x]).size = 1 := rfl
theorem mark_ok {l : List Int} (h : Bytes l) {p : Int} (h0 : 0 ≤ p) (h1 : p ≤ l.length) : ∃ m q, spec_l1Rd_mark.f 1 l p = some (m, q) ∧ m.size ≤ 3 ∧ 0 ≤ q ∧ q ≤ l.length := by
  unfold spec_l1Rd_mark.f
  obtain ⟨v, q, e, v0, v1, q0, q1⟩ := below_ok h h0 h1 (n := 26) (by omega)
  rw [e]
  simp only [Option.bind_some]
  obtain ⟨a, r, e', a0, a1, r0, r1⟩ := below_ok h q0 q1 (n := 8) (by omega)
  rw [e']
  simp only [Option.bind_some]
  have key : ∀ c : Bool, ∃ m q, spec_l1Rd_mark.j0 1 (strOfNums [wrap64 (65 + v) % 256]) a c l r = some (m, q) ∧ m.size ≤ 3 ∧ 0 ≤ q ∧ q ≤ l.length := by
    intro c
    simp only [spec_l1Rd_mark.j0]
    cases c with
    | true => exact ⟨_, _, if_pos rfl, Nat.zero_le _, r0, r1⟩
    | false =>
      rw [if_neg (by decide)]
      have s1 := one_size (wrap64 (65 + v) % 256)
      have two : ∀ x : ByteArray, x.size = 2 → (x ++ strOfNums [wrap64 (65 + v) % 256]).size ≤ 3 := fun x hx => by rw [ByteArray.size_append, hx, s1]; omega
      by_cases k3 : a = 3
      · rw [if_pos k3]; exact ⟨_, _, if_pos (by rw [s1]; omega), two _ rfl, r0, r1⟩
      · rw [if_neg k3]
        by_cases k4 : a = 4
        · rw [if_pos k4]; exact ⟨_, _, if_pos (by rw [s1]; omega), two _ rfl, r0, r1⟩
        · rw [if_neg k4]
          by_cases k5 : a = 5
          · rw [if_pos k5]; exact ⟨_, _, if_pos (by rw [s1]; omega), two _ rfl, r0, r1⟩
          · rw [if_neg k5]
            by_cases k6 : a = 6
            · rw [if_pos k6]
              obtain ⟨v', q', e'', _, _, q0', q1'⟩ := below_ok h r0 r1 (n := 26) (by omega)
              rw [e'']
              simp only [Option.bind_some]
              have s2 := one_size (wrap64 (65 + v') % 256)
              have s3 : ((⟨#[80]⟩ : ByteArray) ++ strOfNums [wrap64 (65 + v') % 256]).size = 2 := by rw [ByteArray.size_append, s2]; rfl
              have s4 : ((⟨#[80]⟩ : ByteArray) ++ strOfNums [wrap64 (65 + v') % 256] ++ strOfNums [wrap64 (65 + v) % 256]).size = 3 := by rw [ByteArray.size_append, s3, s1]
              rw [if_pos (by rw [s2]; omega), if_pos (by rw [s3, s1]; omega)]
              exact ⟨_, _, rfl, Nat.le_of_eq s4, q0', q1'⟩
            · rw [if_neg k6]
              simp only [Option.bind_some]
              obtain ⟨v', q', e'', b0, b1, q0', q1'⟩ := below_ok h r0 r1 (n := 5) (by omega)
              rw [e'']
              simp only [Option.bind_some]
              rw [if_pos b0, if_pos (by simpa using b1)]
              exact ⟨_, _, rfl, rdOf_le (by decide) _, q0', q1'⟩
  by_cases c0 : a = 0
  · rw [if_pos c0]; exact key _
  · rw [if_neg c0]
    by_cases c1 : a = 1
    · rw [if_pos c1]; exact key _
    · rw [if_neg c1]; exact key _
theorem ka_all : ∀ (a : Fin 5) (b : Fin 3), ((kinds.getD a.val ByteArray.empty).size = 2 ∧ (areas.getD b.val ByteArray.empty).size = 2) ∧ U.capsB (kinds.getD a.val ByteArray.empty ++ areas.getD b.val ByteArray.empty).data.toList = true := by decide +kernel
theorem ce_all : ∀ a : Fin 3, U.cenK (cents.getD a.val ByteArray.empty) = true := by decide +kernel
theorem cca_ok : 0 ≤ U.markK ⟨#[67, 67, 65]⟩ := by decide +kernel
theorem head_ok {l : List Int} (h : Bytes l) {p : Int} (h0 : 0 ≤ p) (h1 : p ≤ l.length) : ∃ (k : Nat) (g : U.Hd) (q : Int), spec_l1Rd_heading.f k l p = some (g.kind, g.area, g.no, g.centre, g.day, g.hour, g.minute, g.mark, q) ∧ C.hokB g = true ∧ 0 ≤ q ∧ q ≤ l.length := by
  obtain ⟨v1, q1, e1, a1, b1, c1, d1⟩ := below_ok h h0 h1 (n := 5) (by omega)
  obtain ⟨v2, q2, e2, a2, b2, c2, d2⟩ := below_ok h c1 d1 (n := 3) (by omega)
  obtain ⟨v3, q3, e3, a3, b3, c3, d3⟩ := below_ok h c2 d2 (n := 100) (by omega)
  obtain ⟨v4, q4, e4, a4, b4, c4, d4⟩ := below_ok h c3 d3 (n := 3) (by omega)
  obtain ⟨v5, q5, e5, a5, b5, c5, d5⟩ := below_ok h c4 d4 (n := 31) (by omega)
  obtain ⟨v6, q6, e6, a6, b6, c6, d6⟩ := below_ok h c5 d5 (n := 24) (by omega)
  obtain ⟨v7, q7, e7, a7, b7, c7, d7⟩ := below_ok h c6 d6 (n := 60) (by omega)
  obtain ⟨m, q8, e8, s8, c8, d8⟩ := mark_ok h c7 d7
  obtain ⟨k, ek⟩ := A.l4mark_ev m (by omega)
  have g1 := at_rounds (spec_l1Rd_mark.mono l q7) (show 1 ≤ k + 1 by omega) e8
  have g2 := at_rounds (spec_MarkOf.mono m) (show k ≤ k + 1 by omega) ek
  refine ⟨k + 1, ⟨kinds.getD v1.toNat ByteArray.empty, areas.getD v2.toNat ByteArray.empty, v3, cents.getD v4.toNat ByteArray.empty, 1 + v5, v6, v7, if (U.markB m.data.toList).1 < 0 then ⟨#[67, 67, 65]⟩ else m⟩, q8, ?_, ?_, c8, d8⟩
  · unfold spec_l1Rd_heading.f
    rw [e1]; simp only [Option.bind_some]
    rw [e2]; simp only [Option.bind_some]
    rw [e3]; simp only [Option.bind_some]
    rw [e4]; simp only [Option.bind_some]
    rw [e5]; simp only [Option.bind_some]
    rw [e6]; simp only [Option.bind_some]
    rw [e7]; simp only [Option.bind_some]
    rw [g1]; simp only [Option.bind_some]
    rw [g2]; simp only [Option.bind_some]
    rw [if_pos ⟨⟨a1, b1⟩, ⟨a2, b2⟩, a3, ⟨a4, b4⟩, ⟨a5, b5⟩, a6, a7⟩]
  · have ka := ka_all ⟨v1.toNat, by omega⟩ ⟨v2.toNat, by omega⟩
    have ce := ce_all ⟨v4.toNat, by omega⟩
    have hm : 0 ≤ U.markK (if (U.markB m.data.toList).1 < 0 then ⟨#[67, 67, 65]⟩ else m) := by
      split
      · exact cca_ok
      · rename_i hn
        unfold U.markK
        omega
    unfold C.hokB U.inB
    simp only [Bool.and_eq_true, decide_eq_true_eq]
    exact ⟨⟨⟨⟨⟨⟨⟨⟨ka.1.1, ka.1.2⟩, ka.2⟩, ⟨a3, by omega⟩⟩, ce⟩, ⟨by omega, by omega⟩⟩, ⟨a6, by omega⟩⟩, ⟨a7, by omega⟩⟩, hm⟩
theorem hd_some {o : Option (ByteArray × ByteArray × Int × ByteArray × Int × Int × Int × ByteArray)} {a b : ByteArray} {c : Int} {d : ByteArray} {e f g : Int} {m : ByteArray} (he : o = some (a, b, c, d, e, f, g, m)) (ha : a.size ≤ 100) (hb : b.size ≤ 100) (hm : m.size ≤ 100) : ∃ g : U.Hd, o = some (g.kind, g.area, g.no, g.centre, g.day, g.hour, g.minute, g.mark) ∧ g.kind.size ≤ 100 ∧ g.area.size ≤ 100 ∧ g.mark.size ≤ 100 :=
  ⟨⟨a, b, c, d, e, f, g, m⟩, he, ha, hb, hm⟩
/-- The first drawer. -/
theorem draw_ok {l : List Int} (h : Bytes l) : ∃ (k : Nat) (g : U.Hd), spec_DrawHeadingText.f k l = some (g.kind, g.area, g.no, g.centre, g.day, g.hour, g.minute, g.mark) ∧ g.kind.size ≤ 100 ∧ g.area.size ≤ 100 ∧ g.mark.size ≤ 100 := by
  obtain ⟨k, g, q, e, hk, q0, q1⟩ := head_ok h (p := 0) (by omega) (by omega)
  obtain ⟨z1, z2, _, _, z5, _, _, _, z9⟩ := K.hok_parts hk
  have z9 := K.mark_size z9
  have y1 : g.kind.size ≤ 100 := by omega
  have y2 : g.area.size ≤ 100 := by omega
  have y8 : g.mark.size ≤ 100 := by omega
  refine ⟨k, ?_⟩
  unfold spec_DrawHeadingText.f
  simp only [spec_l1Open.f, Option.bind_some]
  rw [e]
  simp only [Option.bind_some]
  obtain ⟨v, r, e', v0, v1, r0, r1⟩ := below_ok h q0 q1 (n := 16) (by omega)
  rw [e']
  simp only [Option.bind_some]
  by_cases c0 : v = 0
  · rw [if_pos c0]
    obtain ⟨x, t, e'', x0, x1, _, _⟩ := below_ok h r0 r1 (n := 4) (by omega)
    rw [e'']
    simp only [Option.bind_some]
    rw [if_pos x0, if_pos (by simpa using x1)]
    exact hd_some rfl (rdOf_le (by decide) _) (y2) (y8)
  · rw [if_neg c0]
    by_cases c1 : v = 1
    · rw [if_pos c1]
      exact hd_some rfl (y1) (by decide) (y8)
    · rw [if_neg c1]
      by_cases c2 : v = 2
      · rw [if_pos c2]
        obtain ⟨x, t, e'', x0, x1, _, _⟩ := below_ok h r0 r1 (n := 3) (by omega)
        rw [e'']
        simp only [Option.bind_some]
        rw [if_pos x0, if_pos (by simpa using x1)]
        exact hd_some rfl (y1) (y2) (y8)
      · rw [if_neg c2]
        by_cases c3 : v = 3
        · rw [if_pos c3]
          obtain ⟨x, t, e'', x0, x1, _, _⟩ := below_ok h r0 r1 (n := 3) (by omega)
          rw [e'']
          simp only [Option.bind_some]
          rw [if_pos x0, if_pos (by simpa using x1)]
          exact hd_some rfl (y1) (y2) (y8)
        · rw [if_neg c3]
          by_cases c4 : v = 4
          · rw [if_pos c4]
            obtain ⟨x, t, e'', x0, x1, _, _⟩ := below_ok h r0 r1 (n := 2) (by omega)
            rw [e'']
            simp only [Option.bind_some]
            rw [if_pos x0, if_pos (by simpa using x1)]
            exact hd_some rfl (y1) (y2) (y8)
          · rw [if_neg c4]
            by_cases c5 : v = 5
            · rw [if_pos c5]
              exact hd_some rfl (y1) (y2) (y8)
            · rw [if_neg c5]
              by_cases c6 : v = 6
              · rw [if_pos c6]
                obtain ⟨x, t, e'', x0, x1, _, _⟩ := below_ok h r0 r1 (n := 3) (by omega)
                rw [e'']
                simp only [Option.bind_some]
                rw [if_pos x0, if_pos (by simpa using x1)]
                exact hd_some rfl (y1) (y2) (rdOf_le (by decide) _)
              · rw [if_neg c6]
                exact ⟨g, rfl, y1, y2, y8⟩
theorem text_size {g : U.Hd} (hk : C.hokB g = true) : 1 ≤ (V.textB g).size ∧ (V.textB g).size ≤ 30 := by
  obtain ⟨z1, z2, _, _, z5, _, _, _, z9⟩ := K.hok_parts hk
  have z5 := K.cen_size z5
  have z9 := K.mark_size z9
  have hp : (V.preB g).size = 18 := by
    unfold V.preB
    simp only [ByteArray.size_append, V.dd_size, z1, z2, z5]
    rfl
  unfold V.textB
  split
  · omega
  · rw [ByteArray.size_append, ByteArray.size_append, hp]
    have : V.spB.size = 1 := rfl
    omega
theorem j0_ok {l : List Int} (h : Bytes l) {p : Int} (h0 : 0 ≤ p) (h1 : p ≤ l.length) (s : ByteArray) (hs : s.size ≤ 100) : ∃ r, spec_DrawReadHeading.j0 1 s l p = some r ∧ r.size ≤ 100 := by
  simp only [spec_DrawReadHeading.j0]
  obtain ⟨b, q, e, q0, q1⟩ := once_ok h h0 h1 (n := 12) (by omega)
  rw [e]
  simp only [Option.bind_some]
  cases b with
  | false => exact ⟨_, if_neg (by decide), hs⟩
  | true =>
    rw [if_pos rfl]
    obtain ⟨x, t, e'', x0, x1, _, _⟩ := below_ok h q0 q1 (n := 7) (by omega)
    rw [e'']
    simp only [Option.bind_some]
    rw [if_pos x0, if_pos (by simpa using x1)]
    exact ⟨_, rfl, rdOf_le (by decide) _⟩
/-- The second drawer. -/
theorem line_ok {l : List Int} (h : Bytes l) : ∃ (k : Nat) (r : ByteArray), spec_DrawReadHeading.f k l = some r ∧ r.size ≤ 100 := by
  obtain ⟨k, g, q, e, hk, q0, q1⟩ := head_ok h (p := 0) (by omega) (by omega)
  have hz := text_size hk
  obtain ⟨_, _, _, _, _, _, _, _, z9⟩ := K.hok_parts hk
  have z9 := K.mark_size z9
  have e := at_rounds (spec_l1Rd_heading.mono l 0) (show k ≤ k + 1 by omega) e
  refine ⟨k + 1, ?_⟩
  unfold spec_DrawReadHeading.f
  simp only [spec_l1Open.f, Option.bind_some]
  rw [e]
  simp only [Option.bind_some]
  have et : spec_HeadingText.f g.kind g.area g.no g.centre g.day g.hour g.minute g.mark = some (V.textB g, true) := by
    unfold spec_HeadingText.f
    rw [if_pos (by omega)]
    show some (if C.hokB g = true then V.textB g else _, C.hokB g) = _
    rw [if_pos hk, hk]
  rw [et]
  simp only [Option.bind_some]
  generalize V.textB g = s at hz
  obtain ⟨b, r, e', r0, r1⟩ := once_ok h q0 q1 (n := 2) (by omega)
  rw [e']
  simp only [Option.bind_some]
  have jk : ∀ (s : ByteArray) (p : Int), 0 ≤ p → p ≤ l.length → s.size ≤ 100 → ∃ r, spec_DrawReadHeading.j0 (k + 1) s l p = some r ∧ r.size ≤ 100 := fun s p h0 h1 hs => by
    obtain ⟨r, hr, hz⟩ := j0_ok h h0 h1 s hs
    exact ⟨r, by simp only [spec_DrawReadHeading.j0] at hr ⊢; exact hr, hz⟩
  cases b with
  | false =>
    rw [if_neg (by decide)]
    exact jk s r r0 r1 (by omega)
  | true =>
    rw [if_pos rfl]
    obtain ⟨x, t, e1, x0, x1, t0, t1⟩ := below_ok h r0 r1 (n := s.size) (by omega)
    rw [e1]
    simp only [Option.bind_some]
    rw [if_pos x0, if_pos (by omega)]
    obtain ⟨y, u, e2, y0, y1, u0, u1⟩ := below_ok h t0 t1 (n := 7) (by omega)
    rw [e2]
    simp only [Option.bind_some]
    have hy : (rdOf ByteArray.empty [(⟨#[]⟩ : ByteArray), (⟨#[32]⟩ : ByteArray), (⟨#[32, 32]⟩ : ByteArray), (⟨#[48]⟩ : ByteArray), (⟨#[65]⟩ : ByteArray), (⟨#[57]⟩ : ByteArray), (⟨#[45]⟩ : ByteArray)] y).size ≤ 2 := rdOf_le (by decide) _
    have hx : (s.extract 0 x.toNat).size ≤ 30 := by rw [ByteArray.size_extract]; omega
    rw [if_pos y0, if_pos (by simpa using y1), if_pos (by omega)]
    obtain ⟨z, v, e3, z0, z1, v0, v1⟩ := below_ok h u0 u1 (n := 2) (by omega)
    rw [e3]
    simp only [Option.bind_some]
    have ew : wrap64 (x + z) = x + z := wrap_id (by omega) (by omega)
    rw [ew]
    have hw : (s.extract (x + z).toNat s.size).size ≤ 30 := by rw [ByteArray.size_extract]; omega
    rw [if_pos (by omega), if_pos (by omega), if_pos (by rw [ByteArray.size_append]; omega)]
    exact jk _ v v0 v1 (by rw [ByteArray.size_append, ByteArray.size_append]; omega)
end Go.Proofs.YtfipjlcbnfcddaaDoor.P
