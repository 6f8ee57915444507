/-
  A heading's text comes back as the heading, and a read line is its heading's text; both readers agree: the tied card of FnHeadings, for every input. Conditions: none but the card's own (the listed variables of the library as the program's text lays them).
-/
import Derived.Test.YtfipjlcbnfcddaaDoorY5
namespace Go.Proofs.YtfipjlcbnfcddaaDoor
open Go Go.RowKit Go.Proofs.YtfipjlcbnfcddaaDoorW.PrintWords
set_option linter.unusedVariables false
set_option linter.unusedSimpArgs false
theorem byte_of_wf {x : Int} (h : (Lit.int .u8 x).wf = true) : 0 ≤ x ∧ x ≤ 255 := by
  simp [Lit.wf, IntKind.min, IntKind.max, IntKind.signed, IntKind.bits] at h
  omega
theorem headings_law : Y5.Law := by
  intro A0 c0 l B0 d0 q w m hm hr hc hw hs hd hx
  by_cases hl : l.length ≤ 1048576
  · by_cases hq : q.length ≤ 1048576
    · obtain ⟨k, g, hg, z1, z2, z8⟩ := P.draw_ok (l := l) ⟨fun x h => byte_of_wf (hw x h), hl⟩
      obtain ⟨k', L, hL, zL⟩ := P.line_ok (l := q) ⟨fun x h => byte_of_wf (hx x h), hq⟩
      have h9 : ∀ W : World, Kd.C (Kd.int .u8) W A0 l.length l → Calls Tryd.prog 9 #[.slice A0 l.length c0] W fun e w' => e = .returned (B.hdVal g) ∧ Below W.heap.size W w' :=
        fun W h => F.spec_DrawHeadingText.calls k A0 c0 l _ _ _ _ _ _ _ _ W h hc hg
      have h12 : ∀ W : World, Kd.C (Kd.int .u8) W B0 q.length q → Calls Tryd.prog 12 #[.slice B0 q.length d0] W fun e w' => e = .returned (.string L) ∧ Below W.heap.size W w' :=
        fun W h => F.spec_DrawReadHeading.calls k' B0 d0 q _ W h hd hL
      have h10 := fun W : World => K.t10_any g W (by omega)
      have h11 := fun W : World => K.t11_any g W (by omega) (by omega) (by omega)
      have h5 := fun W : World => C.ref_any L W (by omega)
      have h6l := fun (W : World) hW => B.read_any L W m (by omega) hW
      unfold B.ReadPost at h5 h6l
      have hb := Q.back L
      have h11l := fun W (hk : C.hokB (U.readHead (U.piecesB 32 L)).1 = true) (ht : V.textB (U.readHead (U.piecesB 32 L)).1 = L) => by
        obtain ⟨y1, y2, _, _, _, _, _, _, y9⟩ := K.hok_parts hk
        have y9 := K.mark_size y9
        have := K.t11_any (U.readHead (U.piecesB 32 L)).1 W (by omega) (by omega) (by omega)
        rw [hk, ht, if_pos rfl] at this
        exact this
      generalize hp : (U.readHead (U.piecesB 32 L)).1 = p at *
      generalize hn : (U.readHead (U.piecesB 32 L)).2 = n at *
      cases hk : C.hokB g with
      | true =>
        have h6 := fun (W : World) hW => B.read_any (V.textB g) W m (by have := (P.text_size hk).2; omega) hW
        unfold B.ReadPost at h6
        rw [Q.there hk] at h6
        rw [hk] at h10 h11
        rcases hb with ⟨e1, e2, rfl⟩ | ⟨rfl, e2⟩
        · exact Y4.law_yy A0 c0 l B0 d0 q w m hm hr hc hl hs hd hq _ _ _ _ _ _ _ _ (V.textB g) L _ _ _ _ _ _ _ _ h9 h10 h11 h6 h12 h5 h6l (fun W => h11l W e1 e2)
        · exact Y4.law_yn A0 c0 l B0 d0 q w m hm hr hc hl hs hd hq _ _ _ _ _ _ _ _ (V.textB g) L n e2 h9 h10 h11 h6 h12 h5 h6l
      | false =>
        rw [hk] at h10 h11
        rcases hb with ⟨e1, e2, rfl⟩ | ⟨rfl, e2⟩
        · exact Y4.law_ny A0 c0 l B0 d0 q w m hm hr hc hl hs hd hq _ _ _ _ _ _ _ _ ⟨#[]⟩ L _ _ _ _ _ _ _ _ h9 h10 h11 h12 h5 h6l (fun W => h11l W e1 e2)
        · exact Y4.law_nn A0 c0 l B0 d0 q w m hm hr hc hl hs hd hq _ _ _ _ _ _ _ _ ⟨#[]⟩ L n e2 h9 h10 h11 h12 h5 h6l
    · exact Y4.law_big2 A0 c0 l B0 d0 q w hr hc hl hs hd hq
  · exact Y4.law_big1 A0 c0 l B0 d0 q w hr hc hl
/-- The law's card. -/
theorem headings_holds : Rows.FnHeadingsCardSaid := Y5.card headings_law
#print axioms headings_holds
end Go.Proofs.YtfipjlcbnfcddaaDoor
