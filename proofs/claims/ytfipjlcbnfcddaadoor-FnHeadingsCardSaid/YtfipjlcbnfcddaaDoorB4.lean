/-
  The walk of the program's ReadHeading at four pieces.
-/
import Derived.Test.YtfipjlcbnfcddaaDoorB
namespace Go.Proofs.YtfipjlcbnfcddaaDoor.B
open Go Go.RowKit Go.Proofs.YtfipjlcbnfcddaaDoorW.PrintWords Go.Proofs.YtfipjlcbnfcddaaDoor.F A
set_option linter.unusedVariables false
set_option linter.unusedSimpArgs false

set_option maxRecDepth 100000 in
set_option maxHeartbeats 8000000 in
theorem read_four (s : ByteArray) (w : World) (m : Int) (hs : s.size ≤ 1048576) (hm : w.cell? ⟨0, 0, none⟩ = some (.int .i64 m)) (a b c d : ByteArray) (hp : U.piecesB 32 s = [a, b, c, d]) (la : a.size ≤ 1048576) (lb : b.size ≤ 1048576) (lc : c.size ≤ 1048576) (ld : d.size ≤ 1048576) :
    Calls Tryd.prog 6 #[.string s] w (ReadPost [a, b, c, d] w) := by
  have hw0 := World.block_lt_of_cell? w _ hm
  have HM : ∀ o : Obj, (w.alloc o).cell? ⟨0, 0, none⟩ = some (.int .i64 m) := fun o => (World.cell?_alloc_lt w o ⟨0, 0, none⟩ hw0).trans hm
  have HS := fun o : Obj => Tryd.strings_Split s ⟨#[32]⟩ m (w.alloc o) (by omega) (HM o) (by simp [ByteArray.size])
  rw [U.splitB_pieces, U.countB_pieces, hp] at HS
  have HS := Lib.hid HS
  clear hp HM hm
  have hn0 := new0 w #[.string a, .string b, .string c, .string d]
  have HN := Lib.hid hn0
  clear hn0
  go_enter Tryd.func6, Tryd.ntmps6
  go_wp2_with (go_at_call 18; refine (HS.out _).mono ?_; rintro e w' ⟨rfl, rfl⟩)
  go_loop [6, 23] (fun _ i => ∃ k : Nat, k ≤ 4 ∧ (1 ≤ k → a.toList.isEmpty = false) ∧ (2 ≤ k → b.toList.isEmpty = false) ∧ (3 ≤ k → c.toList.isEmpty = false) ∧ (4 ≤ k → d.toList.isEmpty = false) ∧ i = .int .i64 k) (fun _ i => 4 - (intOf i).toNat)
  case atStart => exact ⟨0, by omega, by omega, by omega, by omega, by omega, rfl⟩
  case round =>
    obtain ⟨k, hk, ha, hb, hc, hd, rfl⟩ := hrel
    obtain rfl | rfl | rfl | rfl | rfl : k = 0 ∨ k = 1 ∨ k = 2 ∨ k = 3 ∨ k = 4 := by omega
    · clear ha hb hc hd
      go_wp2
      · exact ret_post (U.rh_empty (.inr rfl) (by simp : a ∈ [a, b, c, d]) ‹_›) (by repeat (first | with_reducible exact Below.refl _ _ | with_reducible apply below_alloc | with_reducible apply bset0)) rfl rfl rfl HN.out
      · exact ⟨⟨1, by omega, fun _ => by assumption, by omega, by omega, by omega, rfl⟩, by simp [intOf]⟩
    · have ha := ha (by omega)
      clear hb hc hd
      go_wp2
      · exact ret_post (U.rh_empty (.inr rfl) (by simp : b ∈ [a, b, c, d]) ‹_›) (by repeat (first | with_reducible exact Below.refl _ _ | with_reducible apply below_alloc | with_reducible apply bset0)) rfl rfl rfl HN.out
      · exact ⟨⟨2, by omega, fun _ => by assumption, fun _ => by assumption, by omega, by omega, rfl⟩, by simp [intOf]⟩
    · have ha := ha (by omega)
      have hb := hb (by omega)
      clear hc hd
      go_wp2
      · exact ret_post (U.rh_empty (.inr rfl) (by simp : c ∈ [a, b, c, d]) ‹_›) (by repeat (first | with_reducible exact Below.refl _ _ | with_reducible apply below_alloc | with_reducible apply bset0)) rfl rfl rfl HN.out
      · exact ⟨⟨3, by omega, fun _ => by assumption, fun _ => by assumption, fun _ => by assumption, by omega, rfl⟩, by simp [intOf]⟩
    · have ha := ha (by omega)
      have hb := hb (by omega)
      have hc := hc (by omega)
      clear hd
      go_wp2
      · exact ret_post (U.rh_empty (.inr rfl) (by simp : d ∈ [a, b, c, d]) ‹_›) (by repeat (first | with_reducible exact Below.refl _ _ | with_reducible apply below_alloc | with_reducible apply bset0)) rfl rfl rfl HN.out
      · exact ⟨⟨4, by omega, fun _ => by assumption, fun _ => by assumption, fun _ => by assumption, fun _ => by assumption, rfl⟩, by simp [intOf]⟩
    · have ha := ha (by omega)
      have hb := hb (by omega)
      have hc := hc (by omega)
      have hd := hd (by omega)
      go_wp2_with (first
        | (go_at_call 19; refine (cap_any _ _ _ (ext_le _ _ la)).mono ?_; rintro e w' ⟨rfl, ⟨n1, rfl⟩⟩)
        | (go_at_call 20; refine (dig_any _ _ (ext_le _ _ la)).mono ?_; rintro e w' ⟨rfl, ⟨n2, rfl⟩⟩))
      rotate_left
      · have hk1 : U.digK (a.extract 4 a.size) = true := U.not_f ‹_›
        have hk2 : (a.extract 4 a.size).size ≤ 18 := by rw [ByteArray.size_extract]; omega
        have hkk := U.kind_yes ‹_› ‹_› ‹_›
        go_cut [7] (fun s7 wx => ∃ g : Nat, s7 = .pointer (some ⟨g, 0, none⟩) ∧ Made [a, b, c, d] (headA [a, b, c, d]) g w wx)
        case first =>
          go_region_held3 (fun w' => w'.cell? ⟨w.heap.size + 1, 0, none⟩ = some (.string a) ∧ w'.cell? ⟨w.heap.size + 1, 1, none⟩ = some (.string b)) (first | go_keep | (refine ⟨pw_cell_below hb1 ?_, pw_cell_below hb1 ?_⟩ <;> go_keep; done) | (refine ⟨acell (pw_cell_below hb1 ?_) _, acell (pw_cell_below hb1 ?_) _⟩ <;> go_keep; done)) (first | (go_at_call 21; refine (who_any _ _ hk1 hk2).mono ?_; rintro e w1 ⟨rfl, hb1⟩; obtain ⟨hc1, hf1⟩ := bcell hb1; have hz1 := hb1.size; simp at hz1))
          all_goals (go_wp2_with fail; go_meet)
          · exact ⟨_, rfl, made_after (two_made _ _ _) hb1 _⟩
          · exact ⟨_, rfl, made_before (two_made _ _ _) hb1 (headA [a, b, c, d]) _ rfl⟩
        case rest =>
          obtain ⟨g, rfl, hH, hC, hG, hlt, hB⟩ := hcut
          obtain ⟨r0, r1, r2, r3, r4, r5, r6, r7, rf⟩ := cells8 hH
          have p0 := blk_cell hC 0
          have p1 := blk_cell hC 1
          have p2 := blk_cell hC 2
          simp only [List.map_cons, List.map_nil] at p0 p1 p2
          obtain ⟨g0, g1, g2, g3, g4, g5, g6, g7, gf⟩ := cells8 hG
          have hlg := blk_lt hG
          go_wp2_with (first
            | (go_at_call 22; refine (cen_any _ _).mono ?_; rintro e w' ⟨rfl, ⟨n3, rfl⟩⟩)
            | (go_at_call 20; refine (dig_any _ _ (few lc)).mono ?_; rintro e w' ⟨rfl, ⟨n4, rfl⟩⟩))
          rotate_left 2
          · have hl6 : c.size = 6 := by have h : (c.size : Int) = 6 := ‹_›; omega
            have hcd : U.digK c = true := U.not_f ‹_›
            have htt := U.time_yes (show (c.size : Int) = 6 from ‹_›) ‹_›
            have hx : (!U.cenK b) = false := ‹_›
            have d1 := U.digK_extract hcd 0 2 (by omega) (by omega)
            have d2 := U.digK_extract hcd 2 4 (by omega) (by omega)
            have d3 := U.digK_extract hcd 4 c.size (by omega) (by omega)
            have s1 : (c.extract 0 2).size ≤ 18 := by rw [ByteArray.size_extract]; omega
            have s2 : (c.extract 2 4).size ≤ 18 := by rw [ByteArray.size_extract]; omega
            have s3 : (c.extract 4 c.size).size ≤ 18 := by rw [ByteArray.size_extract]; omega
            clear hl6 hcd
            have ne1 : ¬ g = w.heap.size + 1 := by omega
            have ne2 : ¬ w.heap.size + 1 = g := by omega
            go_cut [] (fun wx => Made [a, b, c, d] (U.head0 [a, b, c, d]) g w wx)
            case first =>
              go_region_held3 (fun w' => w'.cell? ⟨w.heap.size + 1, 2, none⟩ = some (.string c)) (first | go_keep | (refine pw_cell_below hb1 ?_; go_keep; done) | (refine pw_cell_below hb2 ?_; go_keep; done) | (refine pw_cell_below hb3 ?_; go_keep; done) | (refine scell ne2 ?_; refine pw_cell_below hb3 ?_; go_keep; done) | (refine scell ne2 ?_; refine scell ne2 ?_; refine pw_cell_below hb3 ?_; go_keep; done) | (refine scell ne2 ?_; refine scell ne2 ?_; refine scell ne2 ?_; refine pw_cell_below hb3 ?_; go_keep; done)) (first
                | (go_at_call_of 21 (Value.string (c.extract 0 2)); refine (who_any _ _ d1 s1).mono ?_; rintro e w1 ⟨rfl, hb1⟩; obtain ⟨⟨x4, x5, x6, x7, x8, x9⟩, hz1⟩ := keep3 hb1 hlg ⟨g4, g5, g6, gf 4, gf 5, gf 6⟩)
                | (go_at_call_of 21 (Value.string (c.extract 2 4)); refine (who_any _ _ d2 s2).mono ?_; rintro e w2 ⟨rfl, hb2⟩; obtain ⟨⟨y4, y5, y6, y7, y8, y9⟩, hz2⟩ := keep3 hb2 hz1 ⟨x4, x5, x6, x7, x8, x9⟩)
                | (go_at_call_of 21 (Value.string (c.extract 4 c.size)); refine (who_any _ _ d3 s3).mono ?_; rintro e w3 ⟨rfl, hb3⟩; obtain ⟨⟨z4, z5, z6, z7, z8, z9⟩, hz3⟩ := keep3 hb3 hz2 ⟨y4, y5, y6, y7, y8, y9⟩))
              all_goals (go_wp2_with fail; go_meet)
              have key := made3 (p := [a, b, c, d]) (hd := headA [a, b, c, d]) (g := g) (w := w) ⟨blk_drewN hH _, blk_drewN hC _, blk_drewN hG _, hlt, pw_below_drewN hB _⟩ hb1 hb2 hb3 (U.numK (c.extract 0 2)) (U.numK (c.extract 2 4)) (U.numK (c.extract 4 c.size))
              exact key
            case rest =>
              obtain ⟨hH, hC, hG, hlt, hB⟩ := hcut
              clear r0 r1 r2 r3 r4 r5 r6 r7 rf p0 p1 p2 g0 g1 g2 g3 g4 g5 g6 g7 gf hlg
              obtain ⟨r0, r1, r2, r3, r4, r5, r6, r7, rf⟩ := cells8 hH
              have p0 := blk_cell hC 0
              have p1 := blk_cell hC 1
              have p2 := blk_cell hC 2
              have p3 := blk_cell hC 3
              simp only [List.map_cons, List.map_nil] at p0 p1 p2 p3
              have ne1 : ¬ g = w.heap.size + 1 := by omega
              obtain ⟨g0, g1, g2, g3, g4, g5, g6, g7, gf⟩ := cells8 hG
              by_cases hdy : U.dayOk (U.head0 [a, b, c, d]) = true
              · obtain ⟨y1, y2, y3⟩ := U.day_parts hdy
                have HDY := Lib.hid hdy
                clear hdy
                go_wp2_with (first
                  | (go_at_call 23; refine (in_any _ _ _ _).mono ?_; rintro e w' ⟨rfl, ⟨n5, rfl⟩⟩)
                  | (go_at_call 24; refine (mrk_any _ _ (few ld)).mono ?_; rintro e w4 ⟨rfl, hb4⟩; obtain ⟨iH, iC, iG, _, iB⟩ := made_mark ⟨blk_drewN hH _, blk_drewN hC _, blk_drewN hG _, hlt, pw_below_drewN hB _⟩ d hb4; obtain ⟨q0, q1, q2, q3, q4, q5, q6, q7, qf⟩ := cells8 iH; obtain ⟨t0, t1, t2, t3, t4, t5, t6, t7, tf⟩ := cells8 iG; clear g0 g1 g2 g3 g4 g5 g6 g7 gf r0 r1 r2 r3 r4 r5 r6 r7 rf p0 p1 p2 p3))
                · exact ret_post (U.rh5 rfl (U.all4 ha hb hc hd) hkk hx htt HDY.out (beq_iff_eq.1 ‹_›)) (below8 iB (Nat.le_refl _) _ _ _ _ _ _ _ _) rfl rfl rfl (set8 iH _ _ _ _ _ _ _ _)
                · exact ret_post (U.rh04 rfl (U.all4 ha hb hc hd) hkk hx htt HDY.out (beq_eq_false_iff_ne.1 ‹_›)) (below8 iB (Nat.le_refl _) _ _ _ _ _ _ _ _) rfl rfl rfl (set8 iH _ _ _ _ _ _ _ _)
              · have hdy : U.dayOk (U.head0 [a, b, c, d]) = false := by simpa using hdy
                have HDY := Lib.hid hdy
                clear hdy
                rcases U.day_cases HDY.out with y1 | ⟨y1, y2⟩ | ⟨y1, y2, y3⟩
                all_goals
                  go_wp2_with (go_at_call 23; refine (in_any _ _ _ _).mono ?_; rintro e w' ⟨rfl, ⟨n5, rfl⟩⟩)
                  exact ret_post (U.rh4d (.inr rfl) (U.all4 ha hb hc hd) hkk hx htt HDY.out) (below8 (pw_below_drewN hB _) (Nat.le_refl _) _ _ _ _ _ _ _ _) rfl rfl rfl (set8 (blk_drewN hH _) _ _ _ _ _ _ _ _)
          · exact ret_post (U.rh4 (.inr rfl) (U.all4 ha hb hc hd) hkk ‹_› (U.time_no1 ‹_›)) (below8 (pw_below_drewN hB _) (Nat.le_refl _) _ _ _ _ _ _ _ _) rfl rfl rfl (set8 (blk_drewN hH _) _ _ _ _ _ _ _ _)
          · exact ret_post (U.rh3 (.inr rfl) (U.all4 ha hb hc hd) hkk ‹_›) (below8 (pw_below_drewN hB _) (Nat.le_refl _) _ _ _ _ _ _ _ _) rfl rfl rfl (set8 (blk_drewN hH _) _ _ _ _ _ _ _ _)
          · exact ret_post (U.rh4 (.inr rfl) (U.all4 ha hb hc hd) hkk ‹_› (U.time_no2 ‹_›)) (below8 (pw_below_drewN hB _) (Nat.le_refl _) _ _ _ _ _ _ _ _) rfl rfl rfl (set8 (blk_drewN hH _) _ _ _ _ _ _ _ _)
      all_goals (refine bodyPost_ret (v := .tuple #[hdVal U.Hd.nil, .int .i64 2]) (by simp [results, Tryd.results6, go_sem, hdVal, U.Hd.nil]) rfl (post_of (U.rh2 (.inr rfl) (U.all4 ha hb hc hd) (by first | exact U.kind_no1 ‹_› | exact U.kind_no2 ‹_› | exact U.kind_no3 ‹_›)) ?_))
      all_goals (repeat (first | with_reducible exact Below.refl _ _ | with_reducible apply below_alloc | with_reducible apply pw_below_drewN | with_reducible apply bset0))
end Go.Proofs.YtfipjlcbnfcddaaDoor.B
