/-
  Plain laws: a right heading's text is read back as the heading; what is read as a heading is a right heading's text.
-/
import Derived.Test.YtfipjlcbnfcddaaDoorH3
namespace Go.Proofs.YtfipjlcbnfcddaaDoor.Q
open Go Go.RowKit Go.Proofs.YtfipjlcbnfcddaaDoorW.PrintWords
set_option linter.unusedVariables false
set_option linter.unusedSimpArgs false
theorem pieces_app (c : UInt8) (a r : List UInt8) (h : a.count c = 0) : U.pieces c (a ++ c :: r) = a :: U.pieces c r := by
  induction a with
  | nil => exact U.pieces_hit c r
  | cons b a ih =>
    have hb : b ≠ c := by
      rintro rfl
      simp at h
    have ha : a.count c = 0 := by rwa [List.count_cons_of_ne (by simpa using hb)] at h
    exact U.pieces_miss hb (ih ha)
theorem pieces_join (c : UInt8) : ∀ (l p : List UInt8) (ps : List (List UInt8)), U.pieces c l = p :: ps → l = p ++ ps.flatMap fun q => c :: q := by
  intro l
  induction l with
  | nil =>
    intro p ps h
    simp only [U.pieces, List.cons.injEq] at h
    rw [← h.1, ← h.2]
    rfl
  | cons b r ih =>
    intro p ps h
    by_cases hb : b = c
    · rw [hb, U.pieces_hit] at h
      simp only [List.cons.injEq] at h
      obtain ⟨q, qs, hq⟩ := A.pieces_cons c r
      rw [← h.1, ← h.2, hq, hb]
      simp only [List.nil_append, List.flatMap_cons, List.cons_append]
      rw [← ih q qs hq]
    · obtain ⟨q, qs, hq⟩ := A.pieces_cons c r
      rw [U.pieces_miss hb hq] at h
      simp only [List.cons.injEq] at h
      rw [← h.1, ← h.2, List.cons_append, ← ih q qs hq]
theorem two (s : ByteArray) (h : s.size = 2) : ∃ a b : UInt8, s = ⟨#[a, b]⟩ := by
  obtain ⟨⟨l⟩⟩ := s
  match l, h with
  | [a, b], _ => exact ⟨a, b, rfl⟩
theorem six (s : ByteArray) (h : s.size = 6) : ∃ a b c d e f : UInt8, s = ⟨#[a, b, c, d, e, f]⟩ := by
  obtain ⟨⟨l⟩⟩ := s
  match l, h with
  | [a, b, c, d, e, f], _ => exact ⟨a, b, c, d, e, f, rfl⟩
theorem none_ (s : ByteArray) (h : s.size = 0) : s = ⟨#[]⟩ := by
  obtain ⟨⟨l⟩⟩ := s
  match l, h with
  | [], _ => rfl
theorem dd_all : ∀ n : Fin 100, U.digsB (V.ddB (n.val : Int)).data.toList = true ∧ U.num (V.ddB (n.val : Int)).data.toList = (n.val : Int) := by decide +kernel
theorem dd_num {n : Int} (h0 : 0 ≤ n) (h1 : n ≤ 99) : U.digsB (V.ddB n).data.toList = true ∧ U.num (V.ddB n).data.toList = n := by
  obtain ⟨m, rfl⟩ := Int.eq_ofNat_of_zero_le h0
  exact dd_all ⟨m, by omega⟩
theorem num_all : ∀ i j : Fin 10, V.ddB (U.num [UInt8.ofNat (48 + i.val), UInt8.ofNat (48 + j.val)]) = ⟨#[UInt8.ofNat (48 + i.val), UInt8.ofNat (48 + j.val)]⟩ := by decide +kernel
theorem byte_of {x : UInt8} (h : 48 ≤ x.toNat ∧ x.toNat ≤ 57) : ∃ i : Fin 10, x = UInt8.ofNat (48 + i.val) := by
  refine ⟨⟨x.toNat - 48, by omega⟩, ?_⟩
  have : 48 + (x.toNat - 48) = x.toNat := by omega
  show x = UInt8.ofNat (48 + (x.toNat - 48))
  rw [this]
  exact (UInt8.ofNat_toNat).symm
theorem num_dd {x y : UInt8} (h : U.digsB [x, y] = true) : V.ddB (U.num [x, y]) = ⟨#[x, y]⟩ := by
  have hm := U.digs_mem h
  obtain ⟨i, hi⟩ := byte_of (hm x (by simp))
  obtain ⟨j, hj⟩ := byte_of (hm y (by simp))
  rw [hi, hj]
  exact num_all i j
theorem caps_no {l : List UInt8} (h : U.capsB l = true) : l.count 32 = 0 := by
  refine List.count_eq_zero.2 fun hm => ?_
  unfold U.capsB at h
  have := of_decide_eq_true (List.all_eq_true.1 h 32 hm)
  revert this
  decide
theorem digs_no {l : List UInt8} (h : U.digsB l = true) : l.count 32 = 0 := by
  refine List.count_eq_zero.2 fun hm => ?_
  have := U.digs_mem h 32 hm
  revert this
  decide
theorem cen_no {s : ByteArray} (h : U.cenK s = true) : s.data.toList.count 32 = 0 := by
  obtain ⟨a, b, c, d, rfl⟩ := A.four s (K.cen_size h)
  have h : U.centreB [a, b, c, d] = true := h
  unfold U.centreB at h
  have one : ∀ x : UInt8, (U.capsB [x] || U.digsB [x]) = true → x ≠ 32 := by
    rintro x hx rfl
    revert hx
    decide
  simp only [Bool.and_eq_true] at h
  have h0 : a ≠ 32 := one a (by rw [h.1.1.1]; rfl)
  have h1 := one b h.1.1.2
  have h2 := one c h.1.2
  have h3 := one d h.2
  show ([a, b, c, d] : List UInt8).count 32 = 0
  refine List.count_eq_zero.2 fun hm => ?_
  simp at hm
  rcases hm with e | e | e | e
  · exact h0 e.symm
  · exact h1 e.symm
  · exact h2 e.symm
  · exact h3 e.symm
theorem mark_no {s : ByteArray} (h : 0 ≤ U.markK s) : s.data.toList.count 32 = 0 := by
  rcases K.mark_size h with h0 | h3
  · rw [none_ s h0]
    rfl
  · obtain ⟨a, b, c, rfl⟩ := A.three s h3
    unfold U.markK U.markB at h
    dsimp only at h
    by_cases hc : U.capsB [a, b, c] = true
    · exact caps_no hc
    · rw [if_neg hc] at h
      simp at h
def pA (g : U.Hd) : ByteArray := (g.kind ++ g.area) ++ V.ddB g.no
def pC (g : U.Hd) : ByteArray := (V.ddB g.day ++ V.ddB g.hour) ++ V.ddB g.minute
theorem pre_list (g : U.Hd) : (V.preB g).data.toList = (pA g).data.toList ++ 32 :: (g.centre.data.toList ++ 32 :: (pC g).data.toList) := by
  unfold V.preB pA pC V.spB
  simp only [ByteArray.data_append, Array.toList_append, List.append_assoc]
  rfl
theorem text_list (g : U.Hd) (hm : ¬ g.mark.size = 0) : (V.textB g).data.toList = (pA g).data.toList ++ 32 :: (g.centre.data.toList ++ 32 :: ((pC g).data.toList ++ 32 :: g.mark.data.toList)) := by
  unfold V.textB
  rw [if_neg hm, ByteArray.data_append, Array.toList_append, ByteArray.data_append, Array.toList_append, pre_list]
  unfold V.spB
  simp only [List.append_assoc, List.cons_append]
  rfl
theorem count_app {a b : ByteArray} (ha : a.data.toList.count 32 = 0) (hb : b.data.toList.count 32 = 0) : (a ++ b).data.toList.count 32 = 0 := by
  rw [ByteArray.data_append, Array.toList_append, List.count_append, ha, hb]
theorem dig2 {a b : ByteArray} (ha : U.digsB a.data.toList = true) (hb : U.digsB b.data.toList = true) : U.digsB (a ++ b).data.toList = true := by
  unfold U.digsB at *
  rw [Bool.and_eq_true] at *
  rw [ByteArray.data_append, Array.toList_append, List.all_append, ha.2, hb.2]
  refine ⟨decide_eq_true ?_, rfl⟩
  have := of_decide_eq_true ha.1
  rw [List.length_append]
  omega
theorem toB (s : ByteArray) : (⟨s.data.toList.toArray⟩ : ByteArray) = s := U.ba_ext (by simp)
theorem parts {g : U.Hd} (hk : C.hokB g = true) : U.piecesB 32 (V.textB g) = if g.mark.size = 0 then [pA g, g.centre, pC g] else [pA g, g.centre, pC g, g.mark] := by
  obtain ⟨z1, z2, zc, z3, z5, z6, z7, z8, z9⟩ := K.hok_parts hk
  have d1 := dd_num z3.1 z3.2
  have d2 := dd_num (n := g.day) (by omega) (by omega)
  have d3 := dd_num (n := g.hour) (by omega) (by omega)
  have d4 := dd_num (n := g.minute) (by omega) (by omega)
  have cA : (pA g).data.toList.count 32 = 0 := count_app (caps_no zc) (digs_no d1.1)
  have cC : (pC g).data.toList.count 32 = 0 := count_app (count_app (digs_no d2.1) (digs_no d3.1)) (digs_no d4.1)
  unfold U.piecesB
  by_cases hm : g.mark.size = 0
  · rw [if_pos hm, show V.textB g = V.preB g from if_pos hm, pre_list, pieces_app _ _ _ cA, pieces_app _ _ _ (cen_no z5), U.pieces_none _ _ cC]
    simp only [List.map_cons, List.map_nil, toB]
  · rw [if_neg hm, text_list g hm, pieces_app _ _ _ cA, pieces_app _ _ _ (cen_no z5), pieces_app _ _ _ cC, U.pieces_none _ _ (mark_no z9)]
    simp only [List.map_cons, List.map_nil, toB]
theorem six_A {g : U.Hd} (hk : C.hokB g = true) : U.kindOk (pA g) = true ∧ (pA g).extract 0 2 = g.kind ∧ (pA g).extract 2 4 = g.area ∧ U.numK ((pA g).extract 4 (pA g).size) = g.no := by
  obtain ⟨z1, z2, zc, z3, z5, z6, z7, z8, z9⟩ := K.hok_parts hk
  have d1 := dd_num z3.1 z3.2
  unfold pA
  obtain ⟨a, b, ha⟩ := two g.kind z1
  obtain ⟨c, d, hb⟩ := two g.area z2
  rw [ha, hb] at zc
  rw [ha, hb]
  obtain ⟨e, f, hd⟩ := two (V.ddB g.no) rfl
  rw [hd] at d1 ⊢
  refine ⟨?_, rfl, rfl, d1.2⟩
  unfold U.kindOk U.capK
  have e1 : (((⟨#[a, b]⟩ : ByteArray) ++ ⟨#[c, d]⟩ ++ ⟨#[e, f]⟩).extract 0 4) = ⟨#[a, b]⟩ ++ ⟨#[c, d]⟩ := rfl
  have e2 : (((⟨#[a, b]⟩ : ByteArray) ++ ⟨#[c, d]⟩ ++ ⟨#[e, f]⟩).extract 4 ((⟨#[a, b]⟩ : ByteArray) ++ ⟨#[c, d]⟩ ++ ⟨#[e, f]⟩).size) = ⟨#[e, f]⟩ := rfl
  rw [e1, e2, zc, show U.digK ⟨#[e, f]⟩ = true from d1.1]
  rfl
theorem six_C {g : U.Hd} (hk : C.hokB g = true) : U.timeOk (pC g) = true ∧ U.numK ((pC g).extract 0 2) = g.day ∧ U.numK ((pC g).extract 2 4) = g.hour ∧ U.numK ((pC g).extract 4 (pC g).size) = g.minute := by
  obtain ⟨z1, z2, zc, z3, z5, z6, z7, z8, z9⟩ := K.hok_parts hk
  have d2 := dd_num (n := g.day) (by omega) (by omega)
  have d3 := dd_num (n := g.hour) (by omega) (by omega)
  have d4 := dd_num (n := g.minute) (by omega) (by omega)
  have hd : U.digK (pC g) = true := dig2 (dig2 d2.1 d3.1) d4.1
  have ht : U.timeOk (pC g) = true := by
    unfold U.timeOk
    rw [hd]
    rfl
  refine ⟨ht, ?_⟩
  unfold pC
  obtain ⟨a, b, h1⟩ := two (V.ddB g.day) rfl
  obtain ⟨c, d, h2⟩ := two (V.ddB g.hour) rfl
  obtain ⟨e, f, h3⟩ := two (V.ddB g.minute) rfl
  rw [h1] at d2
  rw [h2] at d3
  rw [h3] at d4
  rw [h1, h2, h3]
  exact ⟨d2.2, d3.2, d4.2⟩
theorem full {s : ByteArray} (h : s.size ≠ 0) : s.toList.isEmpty = false := by
  rw [Lib.toList_data]
  cases hl : s.data.toList with
  | nil =>
    exfalso
    apply h
    rw [← data_length, hl]
    rfl
  | cons _ _ => rfl
/-- A right heading's text is read as the heading. -/
theorem there {g : U.Hd} (hk : C.hokB g = true) : U.readHead (U.piecesB 32 (V.textB g)) = (g, 0) := by
  obtain ⟨z1, z2, zc, z3, z5, z6, z7, z8, z9⟩ := K.hok_parts hk
  obtain ⟨a1, a2, a3, a4⟩ := six_A hk
  obtain ⟨c1, c2, c3, c4⟩ := six_C hk
  have zA : (pA g).toList.isEmpty = false := full (by have := C.kind_six a1; omega)
  have zB : g.centre.toList.isEmpty = false := full (by have := K.cen_size z5; omega)
  have zC : (pC g).toList.isEmpty = false := full (by have := C.time_six c1; omega)
  rw [parts hk]
  by_cases hm : g.mark.size = 0
  · rw [if_pos hm]
    have hh : U.head0 [pA g, g.centre, pC g] = g := by
      show (⟨(pA g).extract 0 2, (pA g).extract 2 4, U.numK ((pA g).extract 4 (pA g).size), g.centre, U.numK ((pC g).extract 0 2), U.numK ((pC g).extract 2 4), U.numK ((pC g).extract 4 (pC g).size), ⟨#[]⟩⟩ : U.Hd) = g
      rw [a2, a3, a4, c2, c3, c4, ← none_ _ hm]
    rw [U.rh0 rfl (U.all3 zA zB zC) a1 (by show (!U.cenK g.centre) = false; rw [z5]; rfl) c1 (by rw [hh]; exact decide_eq_true (by omega)), hh]
  · rw [if_neg hm]
    have hh : U.head0 [pA g, g.centre, pC g, g.mark] = { g with mark := ⟨#[]⟩ } := by
      show (⟨(pA g).extract 0 2, (pA g).extract 2 4, U.numK ((pA g).extract 4 (pA g).size), g.centre, U.numK ((pC g).extract 0 2), U.numK ((pC g).extract 2 4), U.numK ((pC g).extract 4 (pC g).size), ⟨#[]⟩⟩ : U.Hd) = _
      rw [a2, a3, a4, c2, c3, c4]
    rw [U.rh04 rfl (U.all4 zA zB zC (full hm)) a1 (by show (!U.cenK g.centre) = false; rw [z5]; rfl) c1 (by rw [hh]; exact decide_eq_true (by dsimp only; omega)) (by show ¬ U.markK g.mark = -1; omega), hh]
    rfl
theorem back_A {a : ByteArray} (h : U.kindOk a = true) : (a.extract 0 2 ++ a.extract 2 4) ++ V.ddB (U.numK (a.extract 4 a.size)) = a := by
  have h6 := C.kind_six h
  have hd := C.ext_dig h
  obtain ⟨x1, x2, x3, x4, x5, x6, rfl⟩ := six a (by omega)
  have hd : U.digsB [x5, x6] = true := hd
  have := num_dd hd
  show (⟨#[x1, x2]⟩ ++ ⟨#[x3, x4]⟩) ++ V.ddB (U.num [x5, x6]) = _
  rw [this]
  rfl
theorem back_C {c : ByteArray} (h : U.timeOk c = true) : (V.ddB (U.numK (c.extract 0 2)) ++ V.ddB (U.numK (c.extract 2 4))) ++ V.ddB (U.numK (c.extract 4 c.size)) = c := by
  have h6 := C.time_six h
  have hd : U.digK c = true := by
    unfold U.timeOk at h
    rw [Bool.and_eq_true] at h
    exact h.2
  obtain ⟨x1, x2, x3, x4, x5, x6, rfl⟩ := six c (by omega)
  have e1 : U.digsB [x1, x2] = true := U.digK_extract hd 0 2 (by decide) (by simp [ByteArray.size])
  have e2 : U.digsB [x3, x4] = true := U.digK_extract hd 2 4 (by decide) (by simp [ByteArray.size])
  have e3 : U.digsB [x5, x6] = true := U.digK_extract hd 4 6 (by decide) (by simp [ByteArray.size])
  show (V.ddB (U.num [x1, x2]) ++ V.ddB (U.num [x3, x4])) ++ V.ddB (U.num [x5, x6]) = _
  rw [num_dd e1, num_dd e2, num_dd e3]
  rfl
theorem len3 {α : Type} (l : List α) (h : l.length = 3) : ∃ a b c, l = [a, b, c] := by
  match l, h with
  | [a, b, c], _ => exact ⟨a, b, c, rfl⟩
theorem len4 {α : Type} (l : List α) (h : l.length = 4) : ∃ a b c d, l = [a, b, c, d] := by
  match l, h with
  | [a, b, c, d], _ => exact ⟨a, b, c, d, rfl⟩
theorem back3 {s a b c : ByteArray} (hk : U.kindOk (U.at_ [a, b, c] 0) = true) (hc : U.cenK (U.at_ [a, b, c] 1) = true) (ht : U.timeOk (U.at_ [a, b, c] 2) = true) (hy : U.dayOk (U.head0 [a, b, c]) = true) (hd : [a, b, c].map (·.data.toList) = U.pieces 32 s.data.toList) :
    C.hokB (U.head0 [a, b, c]) = true ∧ V.textB (U.head0 [a, b, c]) = s ∧ (0 : Int) = 0 := by
  have hh := C.hok_head hk hc ht ⟨#[]⟩ (.inl (by decide))
  have e : ({ U.head0 [a, b, c] with mark := (⟨#[]⟩ : ByteArray) } : U.Hd) = U.head0 [a, b, c] := rfl
  have en : decide (¬ U.markK ⟨#[]⟩ = -1) = true := by decide
  rw [e, hy, en] at hh
  refine ⟨hh, ?_, rfl⟩
  refine U.ba_ext ?_
  rw [show V.textB (U.head0 [a, b, c]) = V.preB (U.head0 [a, b, c]) from if_pos rfl, pre_list]
  have eA : pA (U.head0 [a, b, c]) = a := back_A hk
  have eC : pC (U.head0 [a, b, c]) = c := back_C ht
  have eB : (U.head0 [a, b, c]).centre = b := rfl
  rw [eA, eC, eB]
  have hj := pieces_join 32 s.data.toList a.data.toList [b.data.toList, c.data.toList] hd.symm
  rw [hj]
  simp
theorem back4 {s a b c d : ByteArray} (hk : U.kindOk (U.at_ [a, b, c, d] 0) = true) (hc : U.cenK (U.at_ [a, b, c, d] 1) = true) (ht : U.timeOk (U.at_ [a, b, c, d] 2) = true) (hy : U.dayOk (U.head0 [a, b, c, d]) = true) (hm : ¬ U.markK d = -1) (hz : ¬ d.size = 0) (hd : [a, b, c, d].map (·.data.toList) = U.pieces 32 s.data.toList) :
    C.hokB { U.head0 [a, b, c, d] with mark := d } = true ∧ V.textB { U.head0 [a, b, c, d] with mark := d } = s ∧ (0 : Int) = 0 := by
  have hh := C.hok_head hk hc ht d (C.mark_range d)
  rw [hy, decide_eq_true hm] at hh
  refine ⟨hh, ?_, rfl⟩
  refine U.ba_ext ?_
  rw [text_list _ hz]
  have eA : pA { U.head0 [a, b, c, d] with mark := d } = a := back_A hk
  have eC : pC { U.head0 [a, b, c, d] with mark := d } = c := back_C ht
  have eB : ({ U.head0 [a, b, c, d] with mark := d } : U.Hd).centre = b := rfl
  rw [eA, eC, eB]
  have hj := pieces_join 32 s.data.toList a.data.toList [b.data.toList, c.data.toList, d.data.toList] hd.symm
  rw [hj]
  simp
/-- What is read as a heading is a right heading's text; what is not comes to the empty heading. -/
theorem back (s : ByteArray) : (C.hokB (U.readHead (U.piecesB 32 s)).1 = true ∧ V.textB (U.readHead (U.piecesB 32 s)).1 = s ∧ (U.readHead (U.piecesB 32 s)).2 = 0) ∨ ((U.readHead (U.piecesB 32 s)).1 = U.Hd.nil ∧ (U.readHead (U.piecesB 32 s)).2 ≠ 0) := by
  have hd := U.piecesB_data 32 s
  generalize hp : U.piecesB 32 s = p at hd
  unfold U.readHead
  by_cases l1 : p.length ≠ 3 ∧ p.length ≠ 4
  · rw [if_pos l1]; exact .inr ⟨rfl, (by decide : (1 : Int) ≠ 0)⟩
  · rw [if_neg l1]
    by_cases l2 : (p.any fun x => x.size == 0) = true
    · rw [if_pos l2]; exact .inr ⟨rfl, (by decide : (1 : Int) ≠ 0)⟩
    · rw [if_neg l2]
      cases hk : U.kindOk (U.at_ p 0) with
      | false => rw [if_pos rfl]; exact .inr ⟨rfl, (by decide : (2 : Int) ≠ 0)⟩
      | true =>
        rw [if_neg (by decide)]
        cases hc : U.cenK (U.at_ p 1) with
        | false => rw [if_pos rfl]; exact .inr ⟨rfl, (by decide : (3 : Int) ≠ 0)⟩
        | true =>
          rw [if_neg (by decide)]
          cases ht : U.timeOk (U.at_ p 2) with
          | false => rw [if_pos rfl]; exact .inr ⟨rfl, (by decide : (4 : Int) ≠ 0)⟩
          | true =>
            rw [if_neg (by decide)]
            cases hy : U.dayOk (U.head0 p) with
            | false => rw [if_pos rfl]; exact .inr ⟨rfl, (by decide : (4 : Int) ≠ 0)⟩
            | true =>
              rw [if_neg (by decide)]
              by_cases l4 : p.length = 4
              · rw [if_pos l4]
                obtain ⟨a, b, c, d, rfl⟩ := len4 p l4
                have em : U.at_ [a, b, c, d] 3 = d := rfl
                rw [em]
                by_cases hm : U.markK d = -1
                · rw [if_pos hm]; exact .inr ⟨rfl, (by decide : (5 : Int) ≠ 0)⟩
                · rw [if_neg hm]
                  left
                  have hz : ¬ d.size = 0 := by
                    intro h0
                    apply l2
                    simp [h0]
                  exact back4 hk hc ht hy hm hz hd
              · rw [if_neg l4]
                obtain ⟨a, b, c, rfl⟩ := len3 p (by omega)
                exact .inl (back3 hk hc ht hy hd)
end Go.Proofs.YtfipjlcbnfcddaaDoor.Q
