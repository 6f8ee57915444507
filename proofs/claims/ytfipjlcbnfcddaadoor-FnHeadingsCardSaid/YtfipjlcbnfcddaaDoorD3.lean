/-
  The walk of the reference's ReadHeading at three pieces.
-/
import Derived.Test.YtfipjlcbnfcddaaDoorC
namespace Go.Proofs.YtfipjlcbnfcddaaDoor.C
open Go Go.RowKit Go.Proofs.YtfipjlcbnfcddaaDoorW.PrintWords Go.Proofs.YtfipjlcbnfcddaaDoor.F A B
set_option linter.unusedVariables false
set_option linter.unusedSimpArgs false
attribute [local go_sem] al_dn

set_option maxRecDepth 100000 in
set_option maxHeartbeats 8000000 in
theorem ref_three (s : ByteArray) (w : World) (hs : s.size ≤ 1048576) (a b c : ByteArray) (hp : U.piecesB 32 s = [a, b, c]) (la : a.size ≤ 1048576) (lb : b.size ≤ 1048576) (lc : c.size ≤ 1048576) :
    Calls Tryd.prog 5 #[.string s] w (ReadPost [a, b, c] w) := by
  have PC := fun W : World => pcs_any s hs W
  rw [hp] at PC
  have PC := Lib.hid PC
  have NW := Lib.hid (new2 w)
  clear hp
  go_enter Tryd.func5, Tryd.ntmps5
  go_wp2_with (go_at_call 13; refine (PC.out _).mono ?_; rintro e w1 ⟨pg, cap, rfl, hge, hpl, hpc, hb1⟩; obtain ⟨iH, iN⟩ := NW.out; have hH := blk_below iH hb1; have hN := blk_below iN hb1; have hB := below_then (below_alloc (below_alloc (Below.refl w.heap.size w) _) _) (by simp; exact two_le _) hb1; clear iH iN hb1; obtain ⟨r0, r1, r2, r3, r4, r5, r6, r7, rf⟩ := cells8 hH; obtain ⟨z0, z1, z2, z3, z4, z5, z6, z7, zf⟩ := cells8 hN; have p0 := hpc 0 (by simp); have p1 := hpc 1 (by simp); have p2 := hpc 2 (by simp); simp only [U.at_, List.getD_cons_zero, List.getD_cons_succ] at p0 p1 p2; have HPC := Lib.hid hpc; clear hpc)
  go_loop [6] (fun i => ∃ k : Nat, k ≤ 3 ∧ (1 ≤ k → a.toList.isEmpty = false) ∧ (2 ≤ k → b.toList.isEmpty = false) ∧ (3 ≤ k → c.toList.isEmpty = false) ∧ i = .int .i64 k) (fun i => 3 - (intOf i).toNat)
  case atStart => exact ⟨0, by omega, by omega, by omega, by omega, rfl⟩
  case round =>
    obtain ⟨k, hk, ha, hb, hc, rfl⟩ := hrel
    obtain rfl | rfl | rfl | rfl : k = 0 ∨ k = 1 ∨ k = 2 ∨ k = 3 := by omega
    · clear ha hb hc
      go_wp2
      · exact ret_ref (U.rh_empty (.inl rfl) (by simp : a ∈ [a, b, c]) ‹_›) (below8 hB (Nat.le_refl _) _ _ _ _ _ _ _ _) rfl rfl rfl (set8 hH _ _ _ _ _ _ _ _)
      · exact ⟨⟨1, by omega, fun _ => by assumption, by omega, by omega, rfl⟩, by simp [intOf]⟩
    · have ha := ha (by omega)
      clear hb hc
      go_wp2
      · exact ret_ref (U.rh_empty (.inl rfl) (by simp : b ∈ [a, b, c]) ‹_›) (below8 hB (Nat.le_refl _) _ _ _ _ _ _ _ _) rfl rfl rfl (set8 hH _ _ _ _ _ _ _ _)
      · exact ⟨⟨2, by omega, fun _ => by assumption, fun _ => by assumption, by omega, rfl⟩, by simp [intOf]⟩
    · have ha := ha (by omega)
      have hb := hb (by omega)
      clear hc
      go_wp2
      · exact ret_ref (U.rh_empty (.inl rfl) (by simp : c ∈ [a, b, c]) ‹_›) (below8 hB (Nat.le_refl _) _ _ _ _ _ _ _ _) rfl rfl rfl (set8 hH _ _ _ _ _ _ _ _)
      · exact ⟨⟨3, by omega, fun _ => by assumption, fun _ => by assumption, fun _ => by assumption, rfl⟩, by simp [intOf]⟩
    · have ha := ha (by omega)
      have hb := hb (by omega)
      have hc := hc (by omega)
      by_cases hkk : U.kindOk a = true
      · obtain ⟨k1, k2, k3⟩ := kind_parts hkk
        obtain ⟨ka, kb⟩ := kind_six hkk
        have HKK := Lib.hid hkk
        clear hkk
        by_cases hcc : U.cenK b = true
        · by_cases htt : U.timeOk c = true
          · obtain ⟨t1, t2⟩ := time_parts htt
            obtain ⟨ta, tb⟩ := time_six htt
            have HTT := Lib.hid htt
            clear htt
            go_wp2_with (first
              | (go_at_call 14; refine (capL_any _ _ (ext_le _ _ la)).mono ?_; rintro e w' ⟨rfl, ⟨n1, rfl⟩⟩)
              | (go_at_call 15; refine (numO_any _ _).mono ?_; rintro e w' ⟨rfl, ⟨n2, rfl⟩⟩)
              | (go_at_call 16; refine (cenL_any _ _).mono ?_; rintro e w' ⟨rfl, ⟨n3, rfl⟩⟩))
            have HCC := Lib.hid hcc
            clear hcc k1 k2 k3 t1 t2
            have ha6 : (a.size : Int) = 6 := by omega
            have hc6 : (c.size : Int) = 6 := by omega
            have hpgl : ¬ pg = w1.heap.size := by omega
            go_cut [7] (fun s7 wx => ∃ g : Nat, s7 = .pointer (some ⟨g, 0, none⟩) ∧ MadeR [a, b, c] pg (headO [a, b, c]) g w wx)
            case first =>
              go_region_held3 (fun w' => w'.cell? ⟨pg, 0, none⟩ = some (.string a) ∧ w'.cell? ⟨pg, 1, none⟩ = some (.string b) ∧ w'.cell? ⟨pg, 2, none⟩ = some (.string c)) (first | go_keep | exact ⟨keepR hpgl p0 _ _ _ _ _ _ _ _, keepR hpgl p1 _ _ _ _ _ _ _ _, keepR hpgl p2 _ _ _ _ _ _ _ _⟩) (first | (go_at_call 15; refine (numO_any _ _).mono ?_; rintro e w' ⟨rfl, ⟨n5, rfl⟩⟩))
              all_goals (go_wp2_with fail; go_meet)
              all_goals exact ⟨w1.heap.size, rfl, made_ref (headO [a, b, c]) hH hN hpgl HPC.out hB⟩
            case rest =>
              obtain ⟨g, rfl, hM⟩ := hcut
              rw [headO_eq (p := [a, b, c]) HKK.out HTT.out] at hM
              have HO1 := hok_first (p := [a, b, c]) HKK.out HCC.out HTT.out
              clear r0 r1 r2 r3 r4 r5 r6 r7 rf z0 z1 z2 z3 z4 z5 z6 z7 zf hH hN hB hpl hge hpgl p0 p1 p2
              have HM := Lib.hid hM
              obtain ⟨hH, hN, hG, hlt, hpc, hne, hB⟩ := hM
              obtain ⟨r0, r1, r2, r3, r4, r5, r6, r7, rf⟩ := cells8 hH
              obtain ⟨z0, z1, z2, z3, z4, z5, z6, z7, zf⟩ := cells8 hN
              obtain ⟨g0, g1, g2, g3, g4, g5, g6, g7, gf⟩ := cells8 hG
              clear hpc
              by_cases hdy : U.dayOk (U.head0 [a, b, c]) = true
              · rw [hdy] at HO1
                have HO1 := Lib.hid HO1
                have HDY := Lib.hid hdy
                clear hdy
                go_wp2_with (first
                  | (go_at_call 17; have hM2 := HM2.out; refine (hok8 (b := true) (by exact HO1.out) _ (by exact Nat.zero_le _)).mono ?_; rintro e w3 ⟨rfl, hb3⟩; obtain ⟨iH3, iN3, iG3, _, _, _, iB3⟩ := hM2.after hb3; clear r0 r1 r2 r3 r4 r5 r6 r7 rf z0 z1 z2 z3 z4 z5 z6 z7 zf g0 g1 g2 g3 g4 g5 g6 g7 gf; obtain ⟨r0, r1, r2, r3, r4, r5, r6, r7, rf⟩ := cells8 iH3; obtain ⟨z0, z1, z2, z3, z4, z5, z6, z7, zf⟩ := cells8 iN3; obtain ⟨g0, g1, g2, g3, g4, g5, g6, g7, gf⟩ := cells8 iG3)
                  | (go_at_call 17; refine (hok8 (b := true) (by exact HO1.out) _ (by exact Nat.zero_le _)).mono ?_; rintro e w2 ⟨rfl, hb2⟩; have HM2 := Lib.hid (HM.out.after hb2); obtain ⟨iH2, iN2, iG2, _, iP, _, iB2⟩ := HM2.out; clear r0 r1 r2 r3 r4 r5 r6 r7 rf z0 z1 z2 z3 z4 z5 z6 z7 zf g0 g1 g2 g3 g4 g5 g6 g7 gf; obtain ⟨r0, r1, r2, r3, r4, r5, r6, r7, rf⟩ := cells8 iH2; obtain ⟨z0, z1, z2, z3, z4, z5, z6, z7, zf⟩ := cells8 iN2; obtain ⟨g0, g1, g2, g3, g4, g5, g6, g7, gf⟩ := cells8 iG2; clear iP))
                exact ret_ref (U.rh0 rfl (U.all3 ha hb hc) HKK.out (by show (!U.cenK b) = false; rw [HCC.out]; rfl) HTT.out HDY.out) (below8 iB3 (Nat.le_refl _) _ _ _ _ _ _ _ _) rfl rfl rfl (set8 iH3 _ _ _ _ _ _ _ _)
              · have hdf : U.dayOk (U.head0 [a, b, c]) = false := Bool.eq_false_iff.2 hdy
                rw [hdf] at HO1
                have HO1 := Lib.hid HO1
                clear hdy
                have HDY := Lib.hid hdf
                clear hdf
                go_wp2_with (go_at_call 17; refine (hok8 (b := false) (by exact HO1.out) _ (by exact Nat.zero_le _)).mono ?_; rintro e w2 ⟨rfl, hb2⟩; obtain ⟨iH, iN, iG, _, _, _, iB⟩ := HM.out.after hb2; clear r0 r1 r2 r3 r4 r5 r6 r7 rf z0 z1 z2 z3 z4 z5 z6 z7 zf; obtain ⟨r0, r1, r2, r3, r4, r5, r6, r7, rf⟩ := cells8 iH; obtain ⟨z0, z1, z2, z3, z4, z5, z6, z7, zf⟩ := cells8 iN)
                exact ret_ref (U.rh4d (.inl rfl) (U.all3 ha hb hc) HKK.out (by show (!U.cenK b) = false; rw [HCC.out]; rfl) HTT.out HDY.out) (below8 iB (Nat.le_refl _) _ _ _ _ _ _ _ _) rfl rfl rfl (set8 iH _ _ _ _ _ _ _ _)
          · have HCC := Lib.hid hcc
            rcases time_split htt with t1 | ⟨t1, t2⟩
            all_goals
              go_wp2_with (first
                | (go_at_call 14; refine (capL_any _ _ (ext_le _ _ la)).mono ?_; rintro e w' ⟨rfl, ⟨n1, rfl⟩⟩)
                | (go_at_call 15; refine (numO_any _ _).mono ?_; rintro e w' ⟨rfl, ⟨n2, rfl⟩⟩)
                | (go_at_call 16; refine (cenL_any _ _).mono ?_; rintro e w' ⟨rfl, ⟨n3, rfl⟩⟩))
              exact ret_ref (U.rh4 (.inl rfl) (U.all3 ha hb hc) HKK.out (by show (!U.cenK b) = false; rw [HCC.out]; rfl) (Bool.eq_false_iff.2 htt)) (below8 (pw_below_drewN hB _) (Nat.le_refl _) _ _ _ _ _ _ _ _) rfl rfl rfl (set8 (blk_drewN hH _) _ _ _ _ _ _ _ _)
        · have hcb : U.cenK b = false := Bool.eq_false_iff.2 hcc
          have HCC := Lib.hid hcb
          clear hcc
          go_wp2_with (first
            | (go_at_call 14; refine (capL_any _ _ (ext_le _ _ la)).mono ?_; rintro e w' ⟨rfl, ⟨n1, rfl⟩⟩)
            | (go_at_call 15; refine (numO_any _ _).mono ?_; rintro e w' ⟨rfl, ⟨n2, rfl⟩⟩)
            | (go_at_call 16; refine (cenL_any _ _).mono ?_; rintro e w' ⟨rfl, ⟨n3, rfl⟩⟩))
          exact ret_ref (U.rh3 (.inl rfl) (U.all3 ha hb hc) HKK.out (by show (!U.cenK b) = true; rw [HCC.out]; rfl)) (below8 (pw_below_drewN hB _) (Nat.le_refl _) _ _ _ _ _ _ _ _) rfl rfl rfl (set8 (blk_drewN hH _) _ _ _ _ _ _ _ _)
      · have HKK := Lib.hid hkk
        rcases kind_split hkk with k1 | ⟨k1, ⟨ka, kb⟩, k2⟩ | ⟨k1, ⟨ka, kb⟩, k2, k3⟩
        · go_wp2_with (first
            | (go_at_call 14; refine (capL_any _ _ (ext_le _ _ la)).mono ?_; rintro e w' ⟨rfl, ⟨n1, rfl⟩⟩)
            | (go_at_call 15; refine (numO_any _ _).mono ?_; rintro e w' ⟨rfl, ⟨n2, rfl⟩⟩)
            | (go_at_call 16; refine (cenL_any _ _).mono ?_; rintro e w' ⟨rfl, ⟨n3, rfl⟩⟩))
          exact ret_ref (U.rh2 (.inl rfl) (U.all3 ha hb hc) (Bool.eq_false_iff.2 hkk)) (below8 hB (Nat.le_refl _) _ _ _ _ _ _ _ _) rfl rfl rfl (set8 hH _ _ _ _ _ _ _ _)
        all_goals
          go_wp2_with (first
            | (go_at_call 14; refine (capL_any _ _ (ext_le _ _ la)).mono ?_; rintro e w' ⟨rfl, ⟨n1, rfl⟩⟩)
            | (go_at_call 15; refine (numO_any _ _).mono ?_; rintro e w' ⟨rfl, ⟨n2, rfl⟩⟩)
            | (go_at_call 16; refine (cenL_any _ _).mono ?_; rintro e w' ⟨rfl, ⟨n3, rfl⟩⟩))
          exact ret_ref (U.rh2 (.inl rfl) (U.all3 ha hb hc) (Bool.eq_false_iff.2 hkk)) (below8 (pw_below_drewN hB _) (Nat.le_refl _) _ _ _ _ _ _ _ _) rfl rfl rfl (set8 (blk_drewN hH _) _ _ _ _ _ _ _ _)
end Go.Proofs.YtfipjlcbnfcddaaDoor.C
