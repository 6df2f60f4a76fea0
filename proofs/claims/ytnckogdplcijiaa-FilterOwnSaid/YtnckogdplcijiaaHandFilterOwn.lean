/- Filters: contracts by hand, and the laws over them. -/
import Derived.Test.YtnckogdplcijiaaOwn
import Derived.Test.YtnckogdplcijiaaLO
namespace Go.Proofs.Ytnckogdplcijiaa.Hand
open Go Go.RowKit Go.Proofs.YtnckogdplcijiaaW.PrintWords Go.Proofs.YtnckogdplcijiaaW.PrintLast Go.Proofs.YtnckogdplcijiaaW.PrintMore Go.Proofs.Ytnckogdplcijiaa.Mth Go.Proofs.Ytnckogdplcijiaa.P Go.Proofs.Ytnckogdplcijiaa.Own Go.Proofs Go.Proofs.Ytnckogdplcijiaa.Fl
set_option linter.unusedVariables false
set_option linter.unusedSimpArgs false
set_option maxHeartbeats 16000000 in
set_option maxRecDepth 100000 in
theorem FilterOwn (mac other body : ByteArray) (w : World) (h0 : mac.size ≤ 140737488351232) (h1 : other.size ≤ 140737488351232) (h2 : body.size ≤ 140737488351232) : Calls Try.prog 5 #[.string mac, .string other, .string body] w fun e w' => e = .returned (.bool true) ∧ Below w.heap.size w w' := by
  have hu := Try.underlying25
  go_enter Try.func5, Try.ntmps5
  go_upto_region 2 with (fail)
  obtain ⟨w_1, hw_⟩ : ∃ w_, w.alloc (.cells #[.string mac, .bool false, .bool false, .bool false, .bool false, .bool false, .bool false, .slice none 0 0, .slice none 0 0, .bool false, .slice none 0 0] 25) = w_ := ⟨_, rfl⟩
  have ha_ : Below w.heap.size w w_1 := by rw [← hw_]; exact below_alloc (Below.refl _ _) _
  have BX1 : Aside0 (w_1.heap[w.heap.size]? = some (.cells #[.string mac, .bool false, .bool false, .bool false, .bool false, .bool false, .bool false, .slice none 0 0, .slice none 0 0, .bool false, .slice none 0 0] 25 (0, 0))) := ⟨by rw [← hw_]; exact blk_new w _⟩
  have hgB : w.heap.size ≤ w.heap.size := ((Below.refl w.heap.size w)).size
  rw [hw_]
  clear hw_
  obtain ⟨g, hg_⟩ : ∃ g_, w.heap.size = g_ := ⟨_, rfl⟩
  have G_g : Aside0 (w.heap.size ≤ g) := ⟨Nat.le_trans hgB (Nat.le_of_eq hg_)⟩
  rw [hg_] at BX1
  rw [hg_]
  clear hg_ hgB
  have B2 := Aside0.mk (below_step (Below.refl w.heap.size w) ha_)
  clear ha_ 
  by_cases hk : kindB mac = 1
  · have pc0 : w_1.cell? ⟨g, 0, none⟩ = some (.string mac) := (blk_cell BX1.out 0).trans rfl
    have pc1 : w_1.cell? ⟨g, 1, none⟩ = some (.bool false) := (blk_cell BX1.out 1).trans rfl
    have pc2 : w_1.cell? ⟨g, 2, none⟩ = some (.bool false) := (blk_cell BX1.out 2).trans rfl
    have pc3 : w_1.cell? ⟨g, 3, none⟩ = some (.bool false) := (blk_cell BX1.out 3).trans rfl
    have pc4 : w_1.cell? ⟨g, 4, none⟩ = some (.bool false) := (blk_cell BX1.out 4).trans rfl
    have pc5 : w_1.cell? ⟨g, 5, none⟩ = some (.bool false) := (blk_cell BX1.out 5).trans rfl
    have pc6 : w_1.cell? ⟨g, 6, none⟩ = some (.bool false) := (blk_cell BX1.out 6).trans rfl
    have pc7 : w_1.cell? ⟨g, 7, none⟩ = some (.slice none 0 0) := (blk_cell BX1.out 7).trans rfl
    have pc8 : w_1.cell? ⟨g, 8, none⟩ = some (.slice none 0 0) := (blk_cell BX1.out 8).trans rfl
    have pc9 : w_1.cell? ⟨g, 9, none⟩ = some (.bool false) := (blk_cell BX1.out 9).trans rfl
    have pc10 : w_1.cell? ⟨g, 10, none⟩ = some (.slice none 0 0) := (blk_cell BX1.out 10).trans rfl
    go_wp2_with fail
    clear pc0 pc1 pc2 pc3 pc4 pc5 pc6 pc7 pc8 pc9 pc10
    refine (check_own w_1 hk).mono ?_
    rintro e w_3 ⟨rfl, hb_⟩
    have B4 := Aside0.mk (below_step B2.out hb_)
    have K4_g := Aside0.mk (blk_below BX1.out hb_)
    clear hb_ B2 BX1
    go_wp2_with fail
    · go_wp2_with fail
      refine (fixed_f w_3).mono ?_
      rintro e w_5 ⟨rfl, hb_⟩
      have B6 := Aside0.mk (below_step B4.out hb_)
      have K6_g := Aside0.mk (blk_below K4_g.out hb_)
      clear hb_ B4 K4_g
      go_wp2
      go_ret
      exact ⟨rfl, B6.out⟩
    · have ho : other.size = 6 := by
        have q := ‹((other.size : Int) != 6) = false›
        rw [bne_eq_false_iff_eq] at q
        omega
      obtain ⟨c, hc_⟩ : ∃ c_, body.extract 0 (min (body.size : Int) 1400).toNat = c_ := ⟨_, rfl⟩
      have lc : c.size ≤ 1400 := by
        rw [← hc_, ByteArray.size_extract]
        omega
      rw [hc_]
      clear hc_
      have hm := size_six hk
      have z1 : ¬ (9223372036854775807 < (plainF mac other).size + c.size) := by rw [plainF_size hm ho]; omega
      have z2 : ¬ (9223372036854775807 < (plainF ones other).size + c.size) := by rw [plainF_size rfl ho]; omega
      have z3 : ¬ (9223372036854775807 < (plainF other mac).size + c.size) := by rw [plainF_size ho hm]; omega
      by_cases he : other.toList == mac.toList
      · have HA := Aside0.mk (own3 hk ho lc (c := c))
        have r3 : (other.toList == mac.toList || other.toList == ones.toList) = true := by rw [he]; rfl
        rw [r3] at HA
        refine start_ (n := 38) (S := fun w' => w'.cell? ⟨g, 0, none⟩ = some (.string mac) ∧ w'.cell? ⟨g, 1, none⟩ = some (.bool false) ∧ w'.cell? ⟨g, 2, none⟩ = some (.bool false) ∧ w'.cell? ⟨g, 3, none⟩ = some (.bool false) ∧ w'.cell? ⟨g, 4, none⟩ = some (.bool false) ∧ w'.cell? ⟨g, 5, none⟩ = some (.bool false) ∧ w'.cell? ⟨g, 6, none⟩ = some (.bool false) ∧ w'.cell? ⟨g, 7, none⟩ = some (.slice none 0 0) ∧ w'.cell? ⟨g, 8, none⟩ = some (.slice none 0 0) ∧ w'.cell? ⟨g, 9, none⟩ = some (.bool false) ∧ w'.cell? ⟨g, 10, none⟩ = some (.slice none 0 0) ∧ Below w_3.heap.size w_3 w') (ds := []) #[false, false, false, false, false, false, false, false, false, false, false, false, false, false, false, false, false, false, false, false, false, false, false, false, false, false, false, false, false, false, false, false, false, false, false, false, false, false] (by kernel_rfl) rfl rfl ⟨(blk_cell K4_g.out 0).trans rfl, (blk_cell K4_g.out 1).trans rfl, (blk_cell K4_g.out 2).trans rfl, (blk_cell K4_g.out 3).trans rfl, (blk_cell K4_g.out 4).trans rfl, (blk_cell K4_g.out 5).trans rfl, (blk_cell K4_g.out 6).trans rfl, (blk_cell K4_g.out 7).trans rfl, (blk_cell K4_g.out 8).trans rfl, (blk_cell K4_g.out 9).trans rfl, (blk_cell K4_g.out 10).trans rfl, below_drew1 (Below.refl _ _)⟩ (fun hHeld => ?_)
        refine pure_ (i := 1) (N := some 26) (v := ?_) (a' := ?_) #[false, true, false, false, false, false, false, false, false, false, false, false, false, false, false, false, false, false, false, false, false, false, false, false, false, false, false, false, false, false, false, false, false, false, false, false, false, false] rfl rfl (by kernel_rfl) (fun _ _ _ h => h) (Or.inl ⟨by rfl, ?_⟩) ?_ ?_
        rotate_left
        · intro w'
          go_simp
          first | with_reducible rfl | (simp only [if_neg z1, if_neg z2, if_neg z3, he]; with_reducible rfl)
        rotate_left
        · simp only [Act.put, List.setIfInBounds_toArray, List.set_cons_zero, List.set_cons_succ, i64_w, i32_w]
          rfl
        refine pure_ (i := 2) (N := some 27) (v := ?_) (a' := ?_) #[false, true, true, false, false, false, false, false, false, false, false, false, false, false, false, false, false, false, false, false, false, false, false, false, false, false, false, false, false, false, false, false, false, false, false, false, false, false] rfl rfl (by kernel_rfl) (fun _ _ _ h => h) (Or.inl ⟨by rfl, ?_⟩) ?_ ?_
        rotate_left
        · intro w'
          go_simp
          first | with_reducible rfl | (simp only [if_neg z1, if_neg z2, if_neg z3, he]; with_reducible rfl)
        rotate_left
        · simp only [Act.put, List.setIfInBounds_toArray, List.set_cons_zero, List.set_cons_succ, i64_w, i32_w]
          rfl
        refine pure_ (i := 4) (N := some 29) (v := ?_) (a' := ?_) #[false, true, true, false, true, false, false, false, false, false, false, false, false, false, false, false, false, false, false, false, false, false, false, false, false, false, false, false, false, false, false, false, false, false, false, false, false, false] rfl rfl (by kernel_rfl) (fun _ _ _ h => h) (Or.inl ⟨by rfl, ?_⟩) ?_ ?_
        rotate_left
        · intro w'
          go_simp
          first | with_reducible rfl | (simp only [if_neg z1, if_neg z2, if_neg z3, he]; with_reducible rfl)
        rotate_left
        · simp only [Act.put, List.setIfInBounds_toArray, List.set_cons_zero, List.set_cons_succ, i64_w, i32_w]
          rfl
        refine take_ (i := 0) (N := some 25) (v := ?_) (a' := ?_) #[true, true, true, false, true, false, false, false, false, false, false, false, false, false, false, false, false, false, false, false, false, false, false, false, false, false, false, false, false, false, false, false, false, false, false, false, false, false] rfl rfl (by kernel_rfl) (fun _ _ _ h => h) (Or.inl ⟨by rfl, ?_⟩) hHeld ?_ ?_
        rotate_left
        · rintro w' ⟨s0, s1, s2, s3, s4, s5, s6, s7, s8, s9, s10, s11⟩
          go_simp
          first | with_reducible rfl | (simp only [if_neg z1, if_neg z2, if_neg z3, he]; with_reducible rfl)
        rotate_left
        · simp only [Act.put, List.setIfInBounds_toArray, List.set_cons_zero, List.set_cons_succ, i64_w, i32_w]
          rfl
        refine one_ (i := 3) (N := some 28) #[true, true, true, true, true, false, false, false, false, false, false, false, false, false, false, false, false, false, false, false, false, false, false, false, false, false, false, false, false, false, false, false, false, false, false, false, false, false] rfl rfl (by kernel_rfl) (by decide) (fun K hK => ?_)
        refine goes_ Try.func15 (by kernel_rfl) rfl #[.string mac, .string other] (by rfl) rfl rfl (by simp only [List.map_toArray, List.map_cons, List.map_nil]; rfl) ?_
        with_reducible refine (framed_own _ hm ho).mono ?_
        rintro e u1 ⟨rfl, hu1⟩
        refine ⟨_, rfl, ?_⟩
        have Ku1 := Aside0.mk hu1
        clear hu1
        refine hK.out _ _ ⟨pw_cell_below Ku1.out hHeld.1, pw_cell_below Ku1.out hHeld.2.1, pw_cell_below Ku1.out hHeld.2.2.1, pw_cell_below Ku1.out hHeld.2.2.2.1, pw_cell_below Ku1.out hHeld.2.2.2.2.1, pw_cell_below Ku1.out hHeld.2.2.2.2.2.1, pw_cell_below Ku1.out hHeld.2.2.2.2.2.2.1, pw_cell_below Ku1.out hHeld.2.2.2.2.2.2.2.1, pw_cell_below Ku1.out hHeld.2.2.2.2.2.2.2.2.1, pw_cell_below Ku1.out hHeld.2.2.2.2.2.2.2.2.2.1, pw_cell_below Ku1.out hHeld.2.2.2.2.2.2.2.2.2.2.1, below_step hHeld.2.2.2.2.2.2.2.2.2.2.2 Ku1.out⟩ (fun hHeld => ?_)
        clear hK K
        refine norm_ (a' := ?_) ?_ ?_
        rotate_left
        · show Act.put _ (some 28) _ = _
          simp only [Act.put, List.setIfInBounds_toArray, List.set_cons_zero, List.set_cons_succ, i64_w, i32_w]
          rfl
        refine pure_ (i := 5) (N := some 30) (v := ?_) (a' := ?_) #[true, true, true, true, true, true, false, false, false, false, false, false, false, false, false, false, false, false, false, false, false, false, false, false, false, false, false, false, false, false, false, false, false, false, false, false, false, false] rfl rfl (by kernel_rfl) (fun _ _ _ h => h) (Or.inl ⟨by rfl, ?_⟩) ?_ ?_
        rotate_left
        · intro w'
          go_simp
          first | with_reducible rfl | (simp only [if_neg z1, if_neg z2, if_neg z3, he]; with_reducible rfl)
        rotate_left
        · simp only [Act.put, List.setIfInBounds_toArray, List.set_cons_zero, List.set_cons_succ, i64_w, i32_w]
          rfl
        refine one_ (i := 6) (N := some 31) #[true, true, true, true, true, true, true, false, false, false, false, false, false, false, false, false, false, false, false, false, false, false, false, false, false, false, false, false, false, false, false, false, false, false, false, false, false, false] rfl rfl (by kernel_rfl) (by decide) (fun K hK => ?_)
        refine goes_ Try.func13 (by kernel_rfl) rfl #[.agg #[.string mac, .bool false, .bool false, .bool false, .bool false, .bool false, .bool false, .slice none 0 0, .slice none 0 0, .bool false, .slice none 0 0], .string (plainF mac other ++ c)] (by rfl) rfl rfl (by simp only [List.map_toArray, List.map_cons, List.map_nil]; rfl) ?_
        with_reducible refine (adm_flat _ _ (own1 hk ho lc)).mono ?_
        rintro e u4 ⟨rfl, hu4⟩
        refine ⟨_, rfl, ?_⟩
        have Ku4 := Aside0.mk hu4
        clear hu4
        refine hK.out _ _ ⟨pw_cell_below Ku4.out hHeld.1, pw_cell_below Ku4.out hHeld.2.1, pw_cell_below Ku4.out hHeld.2.2.1, pw_cell_below Ku4.out hHeld.2.2.2.1, pw_cell_below Ku4.out hHeld.2.2.2.2.1, pw_cell_below Ku4.out hHeld.2.2.2.2.2.1, pw_cell_below Ku4.out hHeld.2.2.2.2.2.2.1, pw_cell_below Ku4.out hHeld.2.2.2.2.2.2.2.1, pw_cell_below Ku4.out hHeld.2.2.2.2.2.2.2.2.1, pw_cell_below Ku4.out hHeld.2.2.2.2.2.2.2.2.2.1, pw_cell_below Ku4.out hHeld.2.2.2.2.2.2.2.2.2.2.1, below_step hHeld.2.2.2.2.2.2.2.2.2.2.2 Ku4.out⟩ (fun hHeld => ?_)
        clear hK K
        refine norm_ (a' := ?_) ?_ ?_
        rotate_left
        · show Act.put _ (some 31) _ = _
          simp only [Act.put, List.setIfInBounds_toArray, List.set_cons_zero, List.set_cons_succ, i64_w, i32_w]
          rfl
        refine pure_ (i := 7) (N := some 32) (v := ?_) (a' := ?_) #[true, true, true, true, true, true, true, true, false, false, false, false, false, false, false, false, false, false, false, false, false, false, false, false, false, false, false, false, false, false, false, false, false, false, false, false, false, false] rfl rfl (by kernel_rfl) (fun _ _ _ h => h) (Or.inl ⟨by rfl, ?_⟩) ?_ ?_
        rotate_left
        · intro w'
          go_simp
          first | with_reducible rfl | (simp only [if_neg z1, if_neg z2, if_neg z3, he]; with_reducible rfl)
        rotate_left
        · simp only [Act.put, List.setIfInBounds_toArray, List.set_cons_zero, List.set_cons_succ, i64_w, i32_w]
          rfl
        refine pure_ (i := 9) (N := some 34) (v := ?_) (a' := ?_) #[true, true, true, true, true, true, true, true, false, true, false, false, false, false, false, false, false, false, false, false, false, false, false, false, false, false, false, false, false, false, false, false, false, false, false, false, false, false] rfl rfl (by kernel_rfl) (fun _ _ _ h => h) (Or.inl ⟨by rfl, ?_⟩) ?_ ?_
        rotate_left
        · intro w'
          go_simp
          first | with_reducible rfl | (simp only [if_neg z1, if_neg z2, if_neg z3, he]; with_reducible rfl)
        rotate_left
        · simp only [Act.put, List.setIfInBounds_toArray, List.set_cons_zero, List.set_cons_succ, i64_w, i32_w]
          rfl
        refine pure_ (i := 10) (N := some 35) (v := ?_) (a' := ?_) #[true, true, true, true, true, true, true, true, false, true, true, false, false, false, false, false, false, false, false, false, false, false, false, false, false, false, false, false, false, false, false, false, false, false, false, false, false, false] rfl rfl (by kernel_rfl) (fun _ _ _ h => h) (Or.inl ⟨by rfl, ?_⟩) ?_ ?_
        rotate_left
        · intro w'
          go_simp
          first | with_reducible rfl | (simp only [if_neg z1, if_neg z2, if_neg z3, he]; with_reducible rfl)
        rotate_left
        · simp only [Act.put, List.setIfInBounds_toArray, List.set_cons_zero, List.set_cons_succ, i64_w, i32_w]
          rfl
        refine pure_ (i := 12) (N := some 37) (v := ?_) (a' := ?_) #[true, true, true, true, true, true, true, true, false, true, true, false, true, false, false, false, false, false, false, false, false, false, false, false, false, false, false, false, false, false, false, false, false, false, false, false, false, false] rfl rfl (by kernel_rfl) (fun _ _ _ h => h) (Or.inl ⟨by rfl, ?_⟩) ?_ ?_
        rotate_left
        · intro w'
          go_simp
          first | with_reducible rfl | (simp only [if_neg z1, if_neg z2, if_neg z3, he]; with_reducible rfl)
        rotate_left
        · simp only [Act.put, List.setIfInBounds_toArray, List.set_cons_zero, List.set_cons_succ, i64_w, i32_w]
          rfl
        refine take_ (i := 8) (N := some 33) (v := ?_) (a' := ?_) #[true, true, true, true, true, true, true, true, true, true, true, false, true, false, false, false, false, false, false, false, false, false, false, false, false, false, false, false, false, false, false, false, false, false, false, false, false, false] rfl rfl (by kernel_rfl) (fun _ _ _ h => h) (Or.inl ⟨by rfl, ?_⟩) hHeld ?_ ?_
        rotate_left
        · rintro w' ⟨s0, s1, s2, s3, s4, s5, s6, s7, s8, s9, s10, s11⟩
          go_simp
          first | with_reducible rfl | (simp only [if_neg z1, if_neg z2, if_neg z3, he]; with_reducible rfl)
        rotate_left
        · simp only [Act.put, List.setIfInBounds_toArray, List.set_cons_zero, List.set_cons_succ, i64_w, i32_w]
          rfl
        refine one_ (i := 11) (N := some 36) #[true, true, true, true, true, true, true, true, true, true, true, true, true, false, false, false, false, false, false, false, false, false, false, false, false, false, false, false, false, false, false, false, false, false, false, false, false, false] rfl rfl (by kernel_rfl) (by decide) (fun K hK => ?_)
        refine goes_ Try.func15 (by kernel_rfl) rfl #[.string ones, .string other] (by rfl) rfl rfl (by simp only [List.map_toArray, List.map_cons, List.map_nil]; rfl) ?_
        with_reducible refine (framed_own _ rfl ho).mono ?_
        rintro e u2 ⟨rfl, hu2⟩
        refine ⟨_, rfl, ?_⟩
        have Ku2 := Aside0.mk hu2
        clear hu2
        refine hK.out _ _ ⟨pw_cell_below Ku2.out hHeld.1, pw_cell_below Ku2.out hHeld.2.1, pw_cell_below Ku2.out hHeld.2.2.1, pw_cell_below Ku2.out hHeld.2.2.2.1, pw_cell_below Ku2.out hHeld.2.2.2.2.1, pw_cell_below Ku2.out hHeld.2.2.2.2.2.1, pw_cell_below Ku2.out hHeld.2.2.2.2.2.2.1, pw_cell_below Ku2.out hHeld.2.2.2.2.2.2.2.1, pw_cell_below Ku2.out hHeld.2.2.2.2.2.2.2.2.1, pw_cell_below Ku2.out hHeld.2.2.2.2.2.2.2.2.2.1, pw_cell_below Ku2.out hHeld.2.2.2.2.2.2.2.2.2.2.1, below_step hHeld.2.2.2.2.2.2.2.2.2.2.2 Ku2.out⟩ (fun hHeld => ?_)
        clear hK K
        refine norm_ (a' := ?_) ?_ ?_
        rotate_left
        · show Act.put _ (some 36) _ = _
          simp only [Act.put, List.setIfInBounds_toArray, List.set_cons_zero, List.set_cons_succ, i64_w, i32_w]
          rfl
        refine pure_ (i := 13) (N := some 38) (v := ?_) (a' := ?_) #[true, true, true, true, true, true, true, true, true, true, true, true, true, true, false, false, false, false, false, false, false, false, false, false, false, false, false, false, false, false, false, false, false, false, false, false, false, false] rfl rfl (by kernel_rfl) (fun _ _ _ h => h) (Or.inl ⟨by rfl, ?_⟩) ?_ ?_
        rotate_left
        · intro w'
          go_simp
          first | with_reducible rfl | (simp only [if_neg z1, if_neg z2, if_neg z3, he]; with_reducible rfl)
        rotate_left
        · simp only [Act.put, List.setIfInBounds_toArray, List.set_cons_zero, List.set_cons_succ, i64_w, i32_w]
          rfl
        refine one_ (i := 14) (N := some 39) #[true, true, true, true, true, true, true, true, true, true, true, true, true, true, true, false, false, false, false, false, false, false, false, false, false, false, false, false, false, false, false, false, false, false, false, false, false, false] rfl rfl (by kernel_rfl) (by decide) (fun K hK => ?_)
        refine goes_ Try.func13 (by kernel_rfl) rfl #[.agg #[.string mac, .bool false, .bool false, .bool false, .bool false, .bool false, .bool false, .slice none 0 0, .slice none 0 0, .bool false, .slice none 0 0], .string (plainF ones other ++ c)] (by rfl) rfl rfl (by simp only [List.map_toArray, List.map_cons, List.map_nil]; rfl) ?_
        with_reducible refine (adm_flat _ _ (own2 ho lc)).mono ?_
        rintro e u5 ⟨rfl, hu5⟩
        refine ⟨_, rfl, ?_⟩
        have Ku5 := Aside0.mk hu5
        clear hu5
        refine hK.out _ _ ⟨pw_cell_below Ku5.out hHeld.1, pw_cell_below Ku5.out hHeld.2.1, pw_cell_below Ku5.out hHeld.2.2.1, pw_cell_below Ku5.out hHeld.2.2.2.1, pw_cell_below Ku5.out hHeld.2.2.2.2.1, pw_cell_below Ku5.out hHeld.2.2.2.2.2.1, pw_cell_below Ku5.out hHeld.2.2.2.2.2.2.1, pw_cell_below Ku5.out hHeld.2.2.2.2.2.2.2.1, pw_cell_below Ku5.out hHeld.2.2.2.2.2.2.2.2.1, pw_cell_below Ku5.out hHeld.2.2.2.2.2.2.2.2.2.1, pw_cell_below Ku5.out hHeld.2.2.2.2.2.2.2.2.2.2.1, below_step hHeld.2.2.2.2.2.2.2.2.2.2.2 Ku5.out⟩ (fun hHeld => ?_)
        clear hK K
        refine norm_ (a' := ?_) ?_ ?_
        rotate_left
        · show Act.put _ (some 39) _ = _
          simp only [Act.put, List.setIfInBounds_toArray, List.set_cons_zero, List.set_cons_succ, i64_w, i32_w]
          rfl
        refine pure_ (i := 15) (N := some 40) (v := ?_) (a' := ?_) #[true, true, true, true, true, true, true, true, true, true, true, true, true, true, true, true, false, false, false, false, false, false, false, false, false, false, false, false, false, false, false, false, false, false, false, false, false, false] rfl rfl (by kernel_rfl) (fun _ _ _ h => h) (Or.inl ⟨by rfl, ?_⟩) ?_ ?_
        rotate_left
        · intro w'
          go_simp
          first | with_reducible rfl | (simp only [if_neg z1, if_neg z2, if_neg z3, he]; with_reducible rfl)
        rotate_left
        · simp only [Act.put, List.setIfInBounds_toArray, List.set_cons_zero, List.set_cons_succ, i64_w, i32_w]
          rfl
        refine pure_ (i := 16) (N := some 41) (v := ?_) (a' := ?_) #[true, true, true, true, true, true, true, true, true, true, true, true, true, true, true, true, true, false, false, false, false, false, false, false, false, false, false, false, false, false, false, false, false, false, false, false, false, false] rfl rfl (by kernel_rfl) (fun _ _ _ h => h) (Or.inl ⟨by rfl, ?_⟩) ?_ ?_
        rotate_left
        · intro w'
          go_simp
          first | with_reducible rfl | (simp only [if_neg z1, if_neg z2, if_neg z3, he]; with_reducible rfl)
        rotate_left
        · simp only [Act.put, List.setIfInBounds_toArray, List.set_cons_zero, List.set_cons_succ, i64_w, i32_w]
          rfl
        refine pure_ (i := 18) (N := some 43) (v := ?_) (a' := ?_) #[true, true, true, true, true, true, true, true, true, true, true, true, true, true, true, true, true, false, true, false, false, false, false, false, false, false, false, false, false, false, false, false, false, false, false, false, false, false] rfl rfl (by kernel_rfl) (fun _ _ _ h => h) (Or.inl ⟨by rfl, ?_⟩) ?_ ?_
        rotate_left
        · intro w'
          go_simp
          first | with_reducible rfl | (simp only [if_neg z1, if_neg z2, if_neg z3, he]; with_reducible rfl)
        rotate_left
        · simp only [Act.put, List.setIfInBounds_toArray, List.set_cons_zero, List.set_cons_succ, i64_w, i32_w]
          rfl
        refine pure_ (i := 19) (N := some 44) (v := ?_) (a' := ?_) #[true, true, true, true, true, true, true, true, true, true, true, true, true, true, true, true, true, false, true, true, false, false, false, false, false, false, false, false, false, false, false, false, false, false, false, false, false, false] rfl rfl (by kernel_rfl) (fun _ _ _ h => h) (Or.inl ⟨by rfl, ?_⟩) ?_ ?_
        rotate_left
        · intro w'
          go_simp
          first | with_reducible rfl | (simp only [if_neg z1, if_neg z2, if_neg z3, he]; with_reducible rfl)
        rotate_left
        · simp only [Act.put, List.setIfInBounds_toArray, List.set_cons_zero, List.set_cons_succ, i64_w, i32_w]
          rfl
        refine pure_ (i := 21) (N := some 46) (v := ?_) (a' := ?_) #[true, true, true, true, true, true, true, true, true, true, true, true, true, true, true, true, true, false, true, true, false, true, false, false, false, false, false, false, false, false, false, false, false, false, false, false, false, false] rfl rfl (by kernel_rfl) (fun _ _ _ h => h) (Or.inl ⟨by rfl, ?_⟩) ?_ ?_
        rotate_left
        · intro w'
          go_simp
          first | with_reducible rfl | (simp only [if_neg z1, if_neg z2, if_neg z3, he]; with_reducible rfl)
        rotate_left
        · simp only [Act.put, List.setIfInBounds_toArray, List.set_cons_zero, List.set_cons_succ, i64_w, i32_w]
          rfl
        refine pure_ (i := 24) (N := some 49) (v := ?_) (a' := ?_) #[true, true, true, true, true, true, true, true, true, true, true, true, true, true, true, true, true, false, true, true, false, true, false, false, true, false, false, false, false, false, false, false, false, false, false, false, false, false] rfl rfl (by kernel_rfl) (fun _ _ _ h => h) (Or.inl ⟨by rfl, ?_⟩) ?_ ?_
        rotate_left
        · intro w'
          go_simp
          first | with_reducible rfl | (simp only [if_neg z1, if_neg z2, if_neg z3, he]; with_reducible rfl)
        rotate_left
        · simp only [Act.put, List.setIfInBounds_toArray, List.set_cons_zero, List.set_cons_succ, i64_w, i32_w]
          rfl
        refine pure_ (i := 25) (N := some 50) (v := ?_) (a' := ?_) #[true, true, true, true, true, true, true, true, true, true, true, true, true, true, true, true, true, false, true, true, false, true, false, false, true, true, false, false, false, false, false, false, false, false, false, false, false, false] rfl rfl (by kernel_rfl) (fun _ _ _ h => h) (Or.inl ⟨by rfl, ?_⟩) ?_ ?_
        rotate_left
        · intro w'
          go_simp
          first | with_reducible rfl | (simp only [if_neg z1, if_neg z2, if_neg z3, he]; with_reducible rfl)
        rotate_left
        · simp only [Act.put, List.setIfInBounds_toArray, List.set_cons_zero, List.set_cons_succ, i64_w, i32_w]
          rfl
        refine pure_ (i := 26) (N := some 51) (v := ?_) (a' := ?_) #[true, true, true, true, true, true, true, true, true, true, true, true, true, true, true, true, true, false, true, true, false, true, false, false, true, true, true, false, false, false, false, false, false, false, false, false, false, false] rfl rfl (by kernel_rfl) (fun _ _ _ h => h) (Or.inl ⟨by rfl, ?_⟩) ?_ ?_
        rotate_left
        · intro w'
          go_simp
          first | with_reducible rfl | (simp only [if_neg z1, if_neg z2, if_neg z3, he]; with_reducible rfl)
        rotate_left
        · simp only [Act.put, List.setIfInBounds_toArray, List.set_cons_zero, List.set_cons_succ, i64_w, i32_w]
          rfl
        refine take_ (i := 17) (N := some 42) (v := ?_) (a' := ?_) #[true, true, true, true, true, true, true, true, true, true, true, true, true, true, true, true, true, true, true, true, false, true, false, false, true, true, true, false, false, false, false, false, false, false, false, false, false, false] rfl rfl (by kernel_rfl) (fun _ _ _ h => h) (Or.inl ⟨by rfl, ?_⟩) hHeld ?_ ?_
        rotate_left
        · rintro w' ⟨s0, s1, s2, s3, s4, s5, s6, s7, s8, s9, s10, s11⟩
          go_simp
          first | with_reducible rfl | (simp only [if_neg z1, if_neg z2, if_neg z3, he]; with_reducible rfl)
        rotate_left
        · simp only [Act.put, List.setIfInBounds_toArray, List.set_cons_zero, List.set_cons_succ, i64_w, i32_w]
          rfl
        refine one_ (i := 20) (N := some 45) #[true, true, true, true, true, true, true, true, true, true, true, true, true, true, true, true, true, true, true, true, true, true, false, false, true, true, true, false, false, false, false, false, false, false, false, false, false, false] rfl rfl (by kernel_rfl) (by decide) (fun K hK => ?_)
        refine goes_ Try.func15 (by kernel_rfl) rfl #[.string other, .string mac] (by rfl) rfl rfl (by simp only [List.map_toArray, List.map_cons, List.map_nil]; rfl) ?_
        with_reducible refine (framed_own _ ho hm).mono ?_
        rintro e u3 ⟨rfl, hu3⟩
        refine ⟨_, rfl, ?_⟩
        have Ku3 := Aside0.mk hu3
        clear hu3
        refine hK.out _ _ ⟨pw_cell_below Ku3.out hHeld.1, pw_cell_below Ku3.out hHeld.2.1, pw_cell_below Ku3.out hHeld.2.2.1, pw_cell_below Ku3.out hHeld.2.2.2.1, pw_cell_below Ku3.out hHeld.2.2.2.2.1, pw_cell_below Ku3.out hHeld.2.2.2.2.2.1, pw_cell_below Ku3.out hHeld.2.2.2.2.2.2.1, pw_cell_below Ku3.out hHeld.2.2.2.2.2.2.2.1, pw_cell_below Ku3.out hHeld.2.2.2.2.2.2.2.2.1, pw_cell_below Ku3.out hHeld.2.2.2.2.2.2.2.2.2.1, pw_cell_below Ku3.out hHeld.2.2.2.2.2.2.2.2.2.2.1, below_step hHeld.2.2.2.2.2.2.2.2.2.2.2 Ku3.out⟩ (fun hHeld => ?_)
        clear hK K
        refine norm_ (a' := ?_) ?_ ?_
        rotate_left
        · show Act.put _ (some 45) _ = _
          simp only [Act.put, List.setIfInBounds_toArray, List.set_cons_zero, List.set_cons_succ, i64_w, i32_w]
          rfl
        refine pure_ (i := 22) (N := some 47) (v := ?_) (a' := ?_) #[true, true, true, true, true, true, true, true, true, true, true, true, true, true, true, true, true, true, true, true, true, true, true, false, true, true, true, false, false, false, false, false, false, false, false, false, false, false] rfl rfl (by kernel_rfl) (fun _ _ _ h => h) (Or.inl ⟨by rfl, ?_⟩) ?_ ?_
        rotate_left
        · intro w'
          go_simp
          first | with_reducible rfl | (simp only [if_neg z1, if_neg z2, if_neg z3, he]; with_reducible rfl)
        rotate_left
        · simp only [Act.put, List.setIfInBounds_toArray, List.set_cons_zero, List.set_cons_succ, i64_w, i32_w]
          rfl
        refine one_ (i := 23) (N := some 48) #[true, true, true, true, true, true, true, true, true, true, true, true, true, true, true, true, true, true, true, true, true, true, true, true, true, true, true, false, false, false, false, false, false, false, false, false, false, false] rfl rfl (by kernel_rfl) (by decide) (fun K hK => ?_)
        refine goes_ Try.func13 (by kernel_rfl) rfl #[.agg #[.string mac, .bool false, .bool false, .bool false, .bool false, .bool false, .bool false, .slice none 0 0, .slice none 0 0, .bool false, .slice none 0 0], .string (plainF other mac ++ c)] (by rfl) rfl rfl (by simp only [List.map_toArray, List.map_cons, List.map_nil]; rfl) ?_
        with_reducible refine (adm_flat _ _ HA.out).mono ?_
        rintro e u6 ⟨rfl, hu6⟩
        refine ⟨_, rfl, ?_⟩
        have Ku6 := Aside0.mk hu6
        clear hu6
        refine hK.out _ _ ⟨pw_cell_below Ku6.out hHeld.1, pw_cell_below Ku6.out hHeld.2.1, pw_cell_below Ku6.out hHeld.2.2.1, pw_cell_below Ku6.out hHeld.2.2.2.1, pw_cell_below Ku6.out hHeld.2.2.2.2.1, pw_cell_below Ku6.out hHeld.2.2.2.2.2.1, pw_cell_below Ku6.out hHeld.2.2.2.2.2.2.1, pw_cell_below Ku6.out hHeld.2.2.2.2.2.2.2.1, pw_cell_below Ku6.out hHeld.2.2.2.2.2.2.2.2.1, pw_cell_below Ku6.out hHeld.2.2.2.2.2.2.2.2.2.1, pw_cell_below Ku6.out hHeld.2.2.2.2.2.2.2.2.2.2.1, below_step hHeld.2.2.2.2.2.2.2.2.2.2.2 Ku6.out⟩ (fun hHeld => ?_)
        clear hK K
        refine norm_ (a' := ?_) ?_ ?_
        rotate_left
        · show Act.put _ (some 48) _ = _
          simp only [Act.put, List.setIfInBounds_toArray, List.set_cons_zero, List.set_cons_succ, i64_w, i32_w]
          rfl
        refine pure_ (i := 27) (N := some 52) (v := ?_) (a' := ?_) #[true, true, true, true, true, true, true, true, true, true, true, true, true, true, true, true, true, true, true, true, true, true, true, true, true, true, true, true, false, false, false, false, false, false, false, false, false, false] rfl rfl (by kernel_rfl) (fun _ _ _ h => h) (Or.inl ⟨by rfl, ?_⟩) ?_ ?_
        rotate_left
        · intro w'
          go_simp
          first | with_reducible rfl | (simp only [if_neg z1, if_neg z2, if_neg z3, he]; with_reducible rfl)
        rotate_left
        · simp only [Act.put, List.setIfInBounds_toArray, List.set_cons_zero, List.set_cons_succ, i64_w, i32_w]
          rfl
        refine pure_ (i := 28) (N := some 53) (v := undef) (a' := ?_) #[true, true, true, true, true, true, true, true, true, true, true, true, true, true, true, true, true, true, true, true, true, true, true, true, true, true, true, true, true, false, false, false, false, false, false, false, false, false] rfl rfl (by kernel_rfl) (fun _ _ _ h => h) (Or.inr ⟨by rfl, rfl⟩) ?_ ?_
        rotate_left
        · simp only [Act.put, List.setIfInBounds_toArray, List.set_cons_zero, List.set_cons_succ, i64_w, i32_w]
          rfl
        refine pure_ (i := 29) (N := some 54) (v := undef) (a' := ?_) #[true, true, true, true, true, true, true, true, true, true, true, true, true, true, true, true, true, true, true, true, true, true, true, true, true, true, true, true, true, true, false, false, false, false, false, false, false, false] rfl rfl (by kernel_rfl) (fun _ _ _ h => h) (Or.inr ⟨by rfl, rfl⟩) ?_ ?_
        rotate_left
        · simp only [Act.put, List.setIfInBounds_toArray, List.set_cons_zero, List.set_cons_succ, i64_w, i32_w]
          rfl
        refine pure_ (i := 30) (N := some 55) (v := undef) (a' := ?_) #[true, true, true, true, true, true, true, true, true, true, true, true, true, true, true, true, true, true, true, true, true, true, true, true, true, true, true, true, true, true, true, false, false, false, false, false, false, false] rfl rfl (by kernel_rfl) (fun _ _ _ h => h) (Or.inr ⟨by rfl, rfl⟩) ?_ ?_
        rotate_left
        · simp only [Act.put, List.setIfInBounds_toArray, List.set_cons_zero, List.set_cons_succ, i64_w, i32_w]
          rfl
        refine pure_ (i := 31) (N := some 56) (v := ?_) (a' := ?_) #[true, true, true, true, true, true, true, true, true, true, true, true, true, true, true, true, true, true, true, true, true, true, true, true, true, true, true, true, true, true, true, true, false, false, false, false, false, false] rfl rfl (by kernel_rfl) (fun _ _ _ h => h) (Or.inl ⟨by rfl, ?_⟩) ?_ ?_
        rotate_left
        · intro w'
          go_simp
          first | with_reducible rfl | (simp only [if_neg z1, if_neg z2, if_neg z3, he]; with_reducible rfl)
        rotate_left
        · simp only [Act.put, List.setIfInBounds_toArray, List.set_cons_zero, List.set_cons_succ, i64_w, i32_w]
          rfl
        refine pure_ (i := 32) (N := some 57) (v := ?_) (a' := ?_) #[true, true, true, true, true, true, true, true, true, true, true, true, true, true, true, true, true, true, true, true, true, true, true, true, true, true, true, true, true, true, true, true, true, false, false, false, false, false] rfl rfl (by kernel_rfl) (fun _ _ _ h => h) (Or.inl ⟨by rfl, ?_⟩) ?_ ?_
        rotate_left
        · intro w'
          go_simp
          first | with_reducible rfl | (simp only [if_neg z1, if_neg z2, if_neg z3, he]; with_reducible rfl)
        rotate_left
        · simp only [Act.put, List.setIfInBounds_toArray, List.set_cons_zero, List.set_cons_succ, i64_w, i32_w]
          rfl
        refine pure_ (i := 33) (N := some 58) (v := ?_) (a' := ?_) #[true, true, true, true, true, true, true, true, true, true, true, true, true, true, true, true, true, true, true, true, true, true, true, true, true, true, true, true, true, true, true, true, true, true, false, false, false, false] rfl rfl (by kernel_rfl) (fun _ _ _ h => h) (Or.inl ⟨by rfl, ?_⟩) ?_ ?_
        rotate_left
        · intro w'
          go_simp
          first | with_reducible rfl | (simp only [if_neg z1, if_neg z2, if_neg z3, he]; with_reducible rfl)
        rotate_left
        · simp only [Act.put, List.setIfInBounds_toArray, List.set_cons_zero, List.set_cons_succ, i64_w, i32_w]
          rfl
        refine pure_ (i := 34) (N := some 59) (v := ?_) (a' := ?_) #[true, true, true, true, true, true, true, true, true, true, true, true, true, true, true, true, true, true, true, true, true, true, true, true, true, true, true, true, true, true, true, true, true, true, true, false, false, false] rfl rfl (by kernel_rfl) (fun _ _ _ h => h) (Or.inl ⟨by rfl, ?_⟩) ?_ ?_
        rotate_left
        · intro w'
          go_simp
          first | with_reducible rfl | (simp only [if_neg z1, if_neg z2, if_neg z3, he]; with_reducible rfl)
        rotate_left
        · simp only [Act.put, List.setIfInBounds_toArray, List.set_cons_zero, List.set_cons_succ, i64_w, i32_w]
          rfl
        refine one_ (i := 35) (N := some 60) #[true, true, true, true, true, true, true, true, true, true, true, true, true, true, true, true, true, true, true, true, true, true, true, true, true, true, true, true, true, true, true, true, true, true, true, true, false, false] rfl rfl (by kernel_rfl) (by decide) (fun K hK => ?_)
        refine goes_ Try.func10 (by kernel_rfl) rfl #[] (by rfl) rfl rfl (by simp only [List.map_toArray, List.map_cons, List.map_nil] <;> rfl) ?_
        with_reducible refine (fixed_f _).mono ?_
        rintro e u7 ⟨rfl, hu7⟩
        refine ⟨_, rfl, ?_⟩
        have Ku7 := Aside0.mk hu7
        clear hu7
        refine hK.out _ _ ⟨pw_cell_below Ku7.out hHeld.1, pw_cell_below Ku7.out hHeld.2.1, pw_cell_below Ku7.out hHeld.2.2.1, pw_cell_below Ku7.out hHeld.2.2.2.1, pw_cell_below Ku7.out hHeld.2.2.2.2.1, pw_cell_below Ku7.out hHeld.2.2.2.2.2.1, pw_cell_below Ku7.out hHeld.2.2.2.2.2.2.1, pw_cell_below Ku7.out hHeld.2.2.2.2.2.2.2.1, pw_cell_below Ku7.out hHeld.2.2.2.2.2.2.2.2.1, pw_cell_below Ku7.out hHeld.2.2.2.2.2.2.2.2.2.1, pw_cell_below Ku7.out hHeld.2.2.2.2.2.2.2.2.2.2.1, below_step hHeld.2.2.2.2.2.2.2.2.2.2.2 Ku7.out⟩ (fun hHeld => ?_)
        clear hK K
        refine norm_ (a' := ?_) ?_ ?_
        rotate_left
        · show Act.put _ (some 60) _ = _
          simp only [Act.put, List.setIfInBounds_toArray, List.set_cons_zero, List.set_cons_succ, i64_w, i32_w]
          rfl
        refine pure_ (i := 36) (N := some 61) (v := ?_) (a' := ?_) #[true, true, true, true, true, true, true, true, true, true, true, true, true, true, true, true, true, true, true, true, true, true, true, true, true, true, true, true, true, true, true, true, true, true, true, true, true, false] rfl rfl (by kernel_rfl) (fun _ _ _ h => h) (Or.inl ⟨by rfl, ?_⟩) ?_ ?_
        rotate_left
        · intro w'
          go_simp
          first | with_reducible rfl | (simp only [if_neg z1, if_neg z2, if_neg z3, he]; with_reducible rfl)
        rotate_left
        · simp only [Act.put, List.setIfInBounds_toArray, List.set_cons_zero, List.set_cons_succ, i64_w, i32_w]
          rfl
        refine pure_ (i := 37) (N := some 6) (v := ?_) (a' := ?_) #[true, true, true, true, true, true, true, true, true, true, true, true, true, true, true, true, true, true, true, true, true, true, true, true, true, true, true, true, true, true, true, true, true, true, true, true, true, true] rfl rfl (by kernel_rfl) (fun _ _ _ h => h) (Or.inl ⟨by rfl, ?_⟩) ?_ ?_
        rotate_left
        · intro w'
          go_simp
          first | with_reducible rfl | (simp only [if_neg z1, if_neg z2, if_neg z3, he]; with_reducible rfl)
        rotate_left
        · simp only [Act.put, List.setIfInBounds_toArray, List.set_cons_zero, List.set_cons_succ, i64_w, i32_w]
          rfl
        refine done_ (by kernel_rfl) ?_
        go_wp2
        go_ret
        exact ⟨rfl, below_step B4.out hHeld.2.2.2.2.2.2.2.2.2.2.2⟩
      · have HA := Aside0.mk (own3 hk ho lc (c := c))
        have he0 : (other.toList == mac.toList) = false := by simpa using he
        obtain ⟨e, hE⟩ : ∃ e_, (other.toList == ones.toList) = e_ := ⟨_, rfl⟩
        rw [he0, Bool.false_or, hE] at HA
        have ee : (e == e) = true := beq_self_eq_true _
        have hE2 : (other.toList == ([255, 255, 255, 255, 255, 255] : List UInt8)) = e := by rw [← hE, show ones.toList = ([255, 255, 255, 255, 255, 255] : List UInt8) by rw [ByteArray.toList_eq]]
        refine start_ (n := 38) (S := fun w' => w'.cell? ⟨g, 0, none⟩ = some (.string mac) ∧ w'.cell? ⟨g, 1, none⟩ = some (.bool false) ∧ w'.cell? ⟨g, 2, none⟩ = some (.bool false) ∧ w'.cell? ⟨g, 3, none⟩ = some (.bool false) ∧ w'.cell? ⟨g, 4, none⟩ = some (.bool false) ∧ w'.cell? ⟨g, 5, none⟩ = some (.bool false) ∧ w'.cell? ⟨g, 6, none⟩ = some (.bool false) ∧ w'.cell? ⟨g, 7, none⟩ = some (.slice none 0 0) ∧ w'.cell? ⟨g, 8, none⟩ = some (.slice none 0 0) ∧ w'.cell? ⟨g, 9, none⟩ = some (.bool false) ∧ w'.cell? ⟨g, 10, none⟩ = some (.slice none 0 0) ∧ Below w_3.heap.size w_3 w') (ds := []) #[false, false, false, false, false, false, false, false, false, false, false, false, false, false, false, false, false, false, false, false, false, false, false, false, false, false, false, false, false, false, false, false, false, false, false, false, false, false] (by kernel_rfl) rfl rfl ⟨(blk_cell K4_g.out 0).trans rfl, (blk_cell K4_g.out 1).trans rfl, (blk_cell K4_g.out 2).trans rfl, (blk_cell K4_g.out 3).trans rfl, (blk_cell K4_g.out 4).trans rfl, (blk_cell K4_g.out 5).trans rfl, (blk_cell K4_g.out 6).trans rfl, (blk_cell K4_g.out 7).trans rfl, (blk_cell K4_g.out 8).trans rfl, (blk_cell K4_g.out 9).trans rfl, (blk_cell K4_g.out 10).trans rfl, below_drew1 (Below.refl _ _)⟩ (fun hHeld => ?_)
        refine pure_ (i := 1) (N := some 26) (v := ?_) (a' := ?_) #[false, true, false, false, false, false, false, false, false, false, false, false, false, false, false, false, false, false, false, false, false, false, false, false, false, false, false, false, false, false, false, false, false, false, false, false, false, false] rfl rfl (by kernel_rfl) (fun _ _ _ h => h) (Or.inl ⟨by rfl, ?_⟩) ?_ ?_
        rotate_left
        · intro w'
          go_simp
          first | with_reducible rfl | (simp only [if_neg z1, if_neg z2, if_neg z3, he0, hE, hE2]; with_reducible rfl)
        rotate_left
        · simp only [Act.put, List.setIfInBounds_toArray, List.set_cons_zero, List.set_cons_succ, i64_w, i32_w]
          rfl
        refine pure_ (i := 2) (N := some 27) (v := ?_) (a' := ?_) #[false, true, true, false, false, false, false, false, false, false, false, false, false, false, false, false, false, false, false, false, false, false, false, false, false, false, false, false, false, false, false, false, false, false, false, false, false, false] rfl rfl (by kernel_rfl) (fun _ _ _ h => h) (Or.inl ⟨by rfl, ?_⟩) ?_ ?_
        rotate_left
        · intro w'
          go_simp
          first | with_reducible rfl | (simp only [if_neg z1, if_neg z2, if_neg z3, he0, hE, hE2]; with_reducible rfl)
        rotate_left
        · simp only [Act.put, List.setIfInBounds_toArray, List.set_cons_zero, List.set_cons_succ, i64_w, i32_w]
          rfl
        refine pure_ (i := 4) (N := some 29) (v := ?_) (a' := ?_) #[false, true, true, false, true, false, false, false, false, false, false, false, false, false, false, false, false, false, false, false, false, false, false, false, false, false, false, false, false, false, false, false, false, false, false, false, false, false] rfl rfl (by kernel_rfl) (fun _ _ _ h => h) (Or.inl ⟨by rfl, ?_⟩) ?_ ?_
        rotate_left
        · intro w'
          go_simp
          first | with_reducible rfl | (simp only [if_neg z1, if_neg z2, if_neg z3, he0, hE, hE2]; with_reducible rfl)
        rotate_left
        · simp only [Act.put, List.setIfInBounds_toArray, List.set_cons_zero, List.set_cons_succ, i64_w, i32_w]
          rfl
        refine take_ (i := 0) (N := some 25) (v := ?_) (a' := ?_) #[true, true, true, false, true, false, false, false, false, false, false, false, false, false, false, false, false, false, false, false, false, false, false, false, false, false, false, false, false, false, false, false, false, false, false, false, false, false] rfl rfl (by kernel_rfl) (fun _ _ _ h => h) (Or.inl ⟨by rfl, ?_⟩) hHeld ?_ ?_
        rotate_left
        · rintro w' ⟨s0, s1, s2, s3, s4, s5, s6, s7, s8, s9, s10, s11⟩
          go_simp
          first | with_reducible rfl | (simp only [if_neg z1, if_neg z2, if_neg z3, he0, hE, hE2]; with_reducible rfl)
        rotate_left
        · simp only [Act.put, List.setIfInBounds_toArray, List.set_cons_zero, List.set_cons_succ, i64_w, i32_w]
          rfl
        refine one_ (i := 3) (N := some 28) #[true, true, true, true, true, false, false, false, false, false, false, false, false, false, false, false, false, false, false, false, false, false, false, false, false, false, false, false, false, false, false, false, false, false, false, false, false, false] rfl rfl (by kernel_rfl) (by decide) (fun K hK => ?_)
        refine goes_ Try.func15 (by kernel_rfl) rfl #[.string mac, .string other] (by rfl) rfl rfl (by simp only [List.map_toArray, List.map_cons, List.map_nil]; rfl) ?_
        with_reducible refine (framed_own _ hm ho).mono ?_
        rintro e u8 ⟨rfl, hu8⟩
        refine ⟨_, rfl, ?_⟩
        have Ku8 := Aside0.mk hu8
        clear hu8
        refine hK.out _ _ ⟨pw_cell_below Ku8.out hHeld.1, pw_cell_below Ku8.out hHeld.2.1, pw_cell_below Ku8.out hHeld.2.2.1, pw_cell_below Ku8.out hHeld.2.2.2.1, pw_cell_below Ku8.out hHeld.2.2.2.2.1, pw_cell_below Ku8.out hHeld.2.2.2.2.2.1, pw_cell_below Ku8.out hHeld.2.2.2.2.2.2.1, pw_cell_below Ku8.out hHeld.2.2.2.2.2.2.2.1, pw_cell_below Ku8.out hHeld.2.2.2.2.2.2.2.2.1, pw_cell_below Ku8.out hHeld.2.2.2.2.2.2.2.2.2.1, pw_cell_below Ku8.out hHeld.2.2.2.2.2.2.2.2.2.2.1, below_step hHeld.2.2.2.2.2.2.2.2.2.2.2 Ku8.out⟩ (fun hHeld => ?_)
        clear hK K
        refine norm_ (a' := ?_) ?_ ?_
        rotate_left
        · show Act.put _ (some 28) _ = _
          simp only [Act.put, List.setIfInBounds_toArray, List.set_cons_zero, List.set_cons_succ, i64_w, i32_w]
          rfl
        refine pure_ (i := 5) (N := some 30) (v := ?_) (a' := ?_) #[true, true, true, true, true, true, false, false, false, false, false, false, false, false, false, false, false, false, false, false, false, false, false, false, false, false, false, false, false, false, false, false, false, false, false, false, false, false] rfl rfl (by kernel_rfl) (fun _ _ _ h => h) (Or.inl ⟨by rfl, ?_⟩) ?_ ?_
        rotate_left
        · intro w'
          go_simp
          first | with_reducible rfl | (simp only [if_neg z1, if_neg z2, if_neg z3, he0, hE, hE2]; with_reducible rfl)
        rotate_left
        · simp only [Act.put, List.setIfInBounds_toArray, List.set_cons_zero, List.set_cons_succ, i64_w, i32_w]
          rfl
        refine one_ (i := 6) (N := some 31) #[true, true, true, true, true, true, true, false, false, false, false, false, false, false, false, false, false, false, false, false, false, false, false, false, false, false, false, false, false, false, false, false, false, false, false, false, false, false] rfl rfl (by kernel_rfl) (by decide) (fun K hK => ?_)
        refine goes_ Try.func13 (by kernel_rfl) rfl #[.agg #[.string mac, .bool false, .bool false, .bool false, .bool false, .bool false, .bool false, .slice none 0 0, .slice none 0 0, .bool false, .slice none 0 0], .string (plainF mac other ++ c)] (by rfl) rfl rfl (by simp only [List.map_toArray, List.map_cons, List.map_nil]; rfl) ?_
        with_reducible refine (adm_flat _ _ (own1 hk ho lc)).mono ?_
        rintro e u11 ⟨rfl, hu11⟩
        refine ⟨_, rfl, ?_⟩
        have Ku11 := Aside0.mk hu11
        clear hu11
        refine hK.out _ _ ⟨pw_cell_below Ku11.out hHeld.1, pw_cell_below Ku11.out hHeld.2.1, pw_cell_below Ku11.out hHeld.2.2.1, pw_cell_below Ku11.out hHeld.2.2.2.1, pw_cell_below Ku11.out hHeld.2.2.2.2.1, pw_cell_below Ku11.out hHeld.2.2.2.2.2.1, pw_cell_below Ku11.out hHeld.2.2.2.2.2.2.1, pw_cell_below Ku11.out hHeld.2.2.2.2.2.2.2.1, pw_cell_below Ku11.out hHeld.2.2.2.2.2.2.2.2.1, pw_cell_below Ku11.out hHeld.2.2.2.2.2.2.2.2.2.1, pw_cell_below Ku11.out hHeld.2.2.2.2.2.2.2.2.2.2.1, below_step hHeld.2.2.2.2.2.2.2.2.2.2.2 Ku11.out⟩ (fun hHeld => ?_)
        clear hK K
        refine norm_ (a' := ?_) ?_ ?_
        rotate_left
        · show Act.put _ (some 31) _ = _
          simp only [Act.put, List.setIfInBounds_toArray, List.set_cons_zero, List.set_cons_succ, i64_w, i32_w]
          rfl
        refine pure_ (i := 7) (N := some 32) (v := ?_) (a' := ?_) #[true, true, true, true, true, true, true, true, false, false, false, false, false, false, false, false, false, false, false, false, false, false, false, false, false, false, false, false, false, false, false, false, false, false, false, false, false, false] rfl rfl (by kernel_rfl) (fun _ _ _ h => h) (Or.inl ⟨by rfl, ?_⟩) ?_ ?_
        rotate_left
        · intro w'
          go_simp
          first | with_reducible rfl | (simp only [if_neg z1, if_neg z2, if_neg z3, he0, hE, hE2]; with_reducible rfl)
        rotate_left
        · simp only [Act.put, List.setIfInBounds_toArray, List.set_cons_zero, List.set_cons_succ, i64_w, i32_w]
          rfl
        refine pure_ (i := 9) (N := some 34) (v := ?_) (a' := ?_) #[true, true, true, true, true, true, true, true, false, true, false, false, false, false, false, false, false, false, false, false, false, false, false, false, false, false, false, false, false, false, false, false, false, false, false, false, false, false] rfl rfl (by kernel_rfl) (fun _ _ _ h => h) (Or.inl ⟨by rfl, ?_⟩) ?_ ?_
        rotate_left
        · intro w'
          go_simp
          first | with_reducible rfl | (simp only [if_neg z1, if_neg z2, if_neg z3, he0, hE, hE2]; with_reducible rfl)
        rotate_left
        · simp only [Act.put, List.setIfInBounds_toArray, List.set_cons_zero, List.set_cons_succ, i64_w, i32_w]
          rfl
        refine pure_ (i := 10) (N := some 35) (v := ?_) (a' := ?_) #[true, true, true, true, true, true, true, true, false, true, true, false, false, false, false, false, false, false, false, false, false, false, false, false, false, false, false, false, false, false, false, false, false, false, false, false, false, false] rfl rfl (by kernel_rfl) (fun _ _ _ h => h) (Or.inl ⟨by rfl, ?_⟩) ?_ ?_
        rotate_left
        · intro w'
          go_simp
          first | with_reducible rfl | (simp only [if_neg z1, if_neg z2, if_neg z3, he0, hE, hE2]; with_reducible rfl)
        rotate_left
        · simp only [Act.put, List.setIfInBounds_toArray, List.set_cons_zero, List.set_cons_succ, i64_w, i32_w]
          rfl
        refine pure_ (i := 12) (N := some 37) (v := ?_) (a' := ?_) #[true, true, true, true, true, true, true, true, false, true, true, false, true, false, false, false, false, false, false, false, false, false, false, false, false, false, false, false, false, false, false, false, false, false, false, false, false, false] rfl rfl (by kernel_rfl) (fun _ _ _ h => h) (Or.inl ⟨by rfl, ?_⟩) ?_ ?_
        rotate_left
        · intro w'
          go_simp
          first | with_reducible rfl | (simp only [if_neg z1, if_neg z2, if_neg z3, he0, hE, hE2]; with_reducible rfl)
        rotate_left
        · simp only [Act.put, List.setIfInBounds_toArray, List.set_cons_zero, List.set_cons_succ, i64_w, i32_w]
          rfl
        refine take_ (i := 8) (N := some 33) (v := ?_) (a' := ?_) #[true, true, true, true, true, true, true, true, true, true, true, false, true, false, false, false, false, false, false, false, false, false, false, false, false, false, false, false, false, false, false, false, false, false, false, false, false, false] rfl rfl (by kernel_rfl) (fun _ _ _ h => h) (Or.inl ⟨by rfl, ?_⟩) hHeld ?_ ?_
        rotate_left
        · rintro w' ⟨s0, s1, s2, s3, s4, s5, s6, s7, s8, s9, s10, s11⟩
          go_simp
          first | with_reducible rfl | (simp only [if_neg z1, if_neg z2, if_neg z3, he0, hE, hE2]; with_reducible rfl)
        rotate_left
        · simp only [Act.put, List.setIfInBounds_toArray, List.set_cons_zero, List.set_cons_succ, i64_w, i32_w]
          rfl
        refine one_ (i := 11) (N := some 36) #[true, true, true, true, true, true, true, true, true, true, true, true, true, false, false, false, false, false, false, false, false, false, false, false, false, false, false, false, false, false, false, false, false, false, false, false, false, false] rfl rfl (by kernel_rfl) (by decide) (fun K hK => ?_)
        refine goes_ Try.func15 (by kernel_rfl) rfl #[.string ones, .string other] (by rfl) rfl rfl (by simp only [List.map_toArray, List.map_cons, List.map_nil]; rfl) ?_
        with_reducible refine (framed_own _ rfl ho).mono ?_
        rintro e u9 ⟨rfl, hu9⟩
        refine ⟨_, rfl, ?_⟩
        have Ku9 := Aside0.mk hu9
        clear hu9
        refine hK.out _ _ ⟨pw_cell_below Ku9.out hHeld.1, pw_cell_below Ku9.out hHeld.2.1, pw_cell_below Ku9.out hHeld.2.2.1, pw_cell_below Ku9.out hHeld.2.2.2.1, pw_cell_below Ku9.out hHeld.2.2.2.2.1, pw_cell_below Ku9.out hHeld.2.2.2.2.2.1, pw_cell_below Ku9.out hHeld.2.2.2.2.2.2.1, pw_cell_below Ku9.out hHeld.2.2.2.2.2.2.2.1, pw_cell_below Ku9.out hHeld.2.2.2.2.2.2.2.2.1, pw_cell_below Ku9.out hHeld.2.2.2.2.2.2.2.2.2.1, pw_cell_below Ku9.out hHeld.2.2.2.2.2.2.2.2.2.2.1, below_step hHeld.2.2.2.2.2.2.2.2.2.2.2 Ku9.out⟩ (fun hHeld => ?_)
        clear hK K
        refine norm_ (a' := ?_) ?_ ?_
        rotate_left
        · show Act.put _ (some 36) _ = _
          simp only [Act.put, List.setIfInBounds_toArray, List.set_cons_zero, List.set_cons_succ, i64_w, i32_w]
          rfl
        refine pure_ (i := 13) (N := some 38) (v := ?_) (a' := ?_) #[true, true, true, true, true, true, true, true, true, true, true, true, true, true, false, false, false, false, false, false, false, false, false, false, false, false, false, false, false, false, false, false, false, false, false, false, false, false] rfl rfl (by kernel_rfl) (fun _ _ _ h => h) (Or.inl ⟨by rfl, ?_⟩) ?_ ?_
        rotate_left
        · intro w'
          go_simp
          first | with_reducible rfl | (simp only [if_neg z1, if_neg z2, if_neg z3, he0, hE, hE2]; with_reducible rfl)
        rotate_left
        · simp only [Act.put, List.setIfInBounds_toArray, List.set_cons_zero, List.set_cons_succ, i64_w, i32_w]
          rfl
        refine one_ (i := 14) (N := some 39) #[true, true, true, true, true, true, true, true, true, true, true, true, true, true, true, false, false, false, false, false, false, false, false, false, false, false, false, false, false, false, false, false, false, false, false, false, false, false] rfl rfl (by kernel_rfl) (by decide) (fun K hK => ?_)
        refine goes_ Try.func13 (by kernel_rfl) rfl #[.agg #[.string mac, .bool false, .bool false, .bool false, .bool false, .bool false, .bool false, .slice none 0 0, .slice none 0 0, .bool false, .slice none 0 0], .string (plainF ones other ++ c)] (by rfl) rfl rfl (by simp only [List.map_toArray, List.map_cons, List.map_nil]; rfl) ?_
        with_reducible refine (adm_flat _ _ (own2 ho lc)).mono ?_
        rintro e u12 ⟨rfl, hu12⟩
        refine ⟨_, rfl, ?_⟩
        have Ku12 := Aside0.mk hu12
        clear hu12
        refine hK.out _ _ ⟨pw_cell_below Ku12.out hHeld.1, pw_cell_below Ku12.out hHeld.2.1, pw_cell_below Ku12.out hHeld.2.2.1, pw_cell_below Ku12.out hHeld.2.2.2.1, pw_cell_below Ku12.out hHeld.2.2.2.2.1, pw_cell_below Ku12.out hHeld.2.2.2.2.2.1, pw_cell_below Ku12.out hHeld.2.2.2.2.2.2.1, pw_cell_below Ku12.out hHeld.2.2.2.2.2.2.2.1, pw_cell_below Ku12.out hHeld.2.2.2.2.2.2.2.2.1, pw_cell_below Ku12.out hHeld.2.2.2.2.2.2.2.2.2.1, pw_cell_below Ku12.out hHeld.2.2.2.2.2.2.2.2.2.2.1, below_step hHeld.2.2.2.2.2.2.2.2.2.2.2 Ku12.out⟩ (fun hHeld => ?_)
        clear hK K
        refine norm_ (a' := ?_) ?_ ?_
        rotate_left
        · show Act.put _ (some 39) _ = _
          simp only [Act.put, List.setIfInBounds_toArray, List.set_cons_zero, List.set_cons_succ, i64_w, i32_w]
          rfl
        refine pure_ (i := 15) (N := some 40) (v := ?_) (a' := ?_) #[true, true, true, true, true, true, true, true, true, true, true, true, true, true, true, true, false, false, false, false, false, false, false, false, false, false, false, false, false, false, false, false, false, false, false, false, false, false] rfl rfl (by kernel_rfl) (fun _ _ _ h => h) (Or.inl ⟨by rfl, ?_⟩) ?_ ?_
        rotate_left
        · intro w'
          go_simp
          first | with_reducible rfl | (simp only [if_neg z1, if_neg z2, if_neg z3, he0, hE, hE2]; with_reducible rfl)
        rotate_left
        · simp only [Act.put, List.setIfInBounds_toArray, List.set_cons_zero, List.set_cons_succ, i64_w, i32_w]
          rfl
        refine pure_ (i := 16) (N := some 41) (v := ?_) (a' := ?_) #[true, true, true, true, true, true, true, true, true, true, true, true, true, true, true, true, true, false, false, false, false, false, false, false, false, false, false, false, false, false, false, false, false, false, false, false, false, false] rfl rfl (by kernel_rfl) (fun _ _ _ h => h) (Or.inl ⟨by rfl, ?_⟩) ?_ ?_
        rotate_left
        · intro w'
          go_simp
          first | with_reducible rfl | (simp only [if_neg z1, if_neg z2, if_neg z3, he0, hE, hE2]; with_reducible rfl)
        rotate_left
        · simp only [Act.put, List.setIfInBounds_toArray, List.set_cons_zero, List.set_cons_succ, i64_w, i32_w]
          rfl
        refine pure_ (i := 18) (N := some 43) (v := ?_) (a' := ?_) #[true, true, true, true, true, true, true, true, true, true, true, true, true, true, true, true, true, false, true, false, false, false, false, false, false, false, false, false, false, false, false, false, false, false, false, false, false, false] rfl rfl (by kernel_rfl) (fun _ _ _ h => h) (Or.inl ⟨by rfl, ?_⟩) ?_ ?_
        rotate_left
        · intro w'
          go_simp
          first | with_reducible rfl | (simp only [if_neg z1, if_neg z2, if_neg z3, he0, hE, hE2]; with_reducible rfl)
        rotate_left
        · simp only [Act.put, List.setIfInBounds_toArray, List.set_cons_zero, List.set_cons_succ, i64_w, i32_w]
          rfl
        refine pure_ (i := 19) (N := some 44) (v := ?_) (a' := ?_) #[true, true, true, true, true, true, true, true, true, true, true, true, true, true, true, true, true, false, true, true, false, false, false, false, false, false, false, false, false, false, false, false, false, false, false, false, false, false] rfl rfl (by kernel_rfl) (fun _ _ _ h => h) (Or.inl ⟨by rfl, ?_⟩) ?_ ?_
        rotate_left
        · intro w'
          go_simp
          first | with_reducible rfl | (simp only [if_neg z1, if_neg z2, if_neg z3, he0, hE, hE2]; with_reducible rfl)
        rotate_left
        · simp only [Act.put, List.setIfInBounds_toArray, List.set_cons_zero, List.set_cons_succ, i64_w, i32_w]
          rfl
        refine pure_ (i := 21) (N := some 46) (v := ?_) (a' := ?_) #[true, true, true, true, true, true, true, true, true, true, true, true, true, true, true, true, true, false, true, true, false, true, false, false, false, false, false, false, false, false, false, false, false, false, false, false, false, false] rfl rfl (by kernel_rfl) (fun _ _ _ h => h) (Or.inl ⟨by rfl, ?_⟩) ?_ ?_
        rotate_left
        · intro w'
          go_simp
          first | with_reducible rfl | (simp only [if_neg z1, if_neg z2, if_neg z3, he0, hE, hE2]; with_reducible rfl)
        rotate_left
        · simp only [Act.put, List.setIfInBounds_toArray, List.set_cons_zero, List.set_cons_succ, i64_w, i32_w]
          rfl
        refine pure_ (i := 24) (N := some 49) (v := ?_) (a' := ?_) #[true, true, true, true, true, true, true, true, true, true, true, true, true, true, true, true, true, false, true, true, false, true, false, false, true, false, false, false, false, false, false, false, false, false, false, false, false, false] rfl rfl (by kernel_rfl) (fun _ _ _ h => h) (Or.inl ⟨by rfl, ?_⟩) ?_ ?_
        rotate_left
        · intro w'
          go_simp
          first | with_reducible rfl | (simp only [if_neg z1, if_neg z2, if_neg z3, he0, hE, hE2]; with_reducible rfl)
        rotate_left
        · simp only [Act.put, List.setIfInBounds_toArray, List.set_cons_zero, List.set_cons_succ, i64_w, i32_w]
          rfl
        refine pure_ (i := 25) (N := some 50) (v := ?_) (a' := ?_) #[true, true, true, true, true, true, true, true, true, true, true, true, true, true, true, true, true, false, true, true, false, true, false, false, true, true, false, false, false, false, false, false, false, false, false, false, false, false] rfl rfl (by kernel_rfl) (fun _ _ _ h => h) (Or.inl ⟨by rfl, ?_⟩) ?_ ?_
        rotate_left
        · intro w'
          go_simp
          first | with_reducible rfl | (simp only [if_neg z1, if_neg z2, if_neg z3, he0, hE, hE2]; with_reducible rfl)
        rotate_left
        · simp only [Act.put, List.setIfInBounds_toArray, List.set_cons_zero, List.set_cons_succ, i64_w, i32_w]
          rfl
        refine pure_ (i := 26) (N := some 51) (v := ?_) (a' := ?_) #[true, true, true, true, true, true, true, true, true, true, true, true, true, true, true, true, true, false, true, true, false, true, false, false, true, true, true, false, false, false, false, false, false, false, false, false, false, false] rfl rfl (by kernel_rfl) (fun _ _ _ h => h) (Or.inl ⟨by rfl, ?_⟩) ?_ ?_
        rotate_left
        · intro w'
          go_simp
          first | with_reducible rfl | (simp only [if_neg z1, if_neg z2, if_neg z3, he0, hE, hE2]; with_reducible rfl)
        rotate_left
        · simp only [Act.put, List.setIfInBounds_toArray, List.set_cons_zero, List.set_cons_succ, i64_w, i32_w]
          rfl
        refine take_ (i := 17) (N := some 42) (v := ?_) (a' := ?_) #[true, true, true, true, true, true, true, true, true, true, true, true, true, true, true, true, true, true, true, true, false, true, false, false, true, true, true, false, false, false, false, false, false, false, false, false, false, false] rfl rfl (by kernel_rfl) (fun _ _ _ h => h) (Or.inl ⟨by rfl, ?_⟩) hHeld ?_ ?_
        rotate_left
        · rintro w' ⟨s0, s1, s2, s3, s4, s5, s6, s7, s8, s9, s10, s11⟩
          go_simp
          first | with_reducible rfl | (simp only [if_neg z1, if_neg z2, if_neg z3, he0, hE, hE2]; with_reducible rfl)
        rotate_left
        · simp only [Act.put, List.setIfInBounds_toArray, List.set_cons_zero, List.set_cons_succ, i64_w, i32_w]
          rfl
        refine one_ (i := 20) (N := some 45) #[true, true, true, true, true, true, true, true, true, true, true, true, true, true, true, true, true, true, true, true, true, true, false, false, true, true, true, false, false, false, false, false, false, false, false, false, false, false] rfl rfl (by kernel_rfl) (by decide) (fun K hK => ?_)
        refine goes_ Try.func15 (by kernel_rfl) rfl #[.string other, .string mac] (by rfl) rfl rfl (by simp only [List.map_toArray, List.map_cons, List.map_nil]; rfl) ?_
        with_reducible refine (framed_own _ ho hm).mono ?_
        rintro e u10 ⟨rfl, hu10⟩
        refine ⟨_, rfl, ?_⟩
        have Ku10 := Aside0.mk hu10
        clear hu10
        refine hK.out _ _ ⟨pw_cell_below Ku10.out hHeld.1, pw_cell_below Ku10.out hHeld.2.1, pw_cell_below Ku10.out hHeld.2.2.1, pw_cell_below Ku10.out hHeld.2.2.2.1, pw_cell_below Ku10.out hHeld.2.2.2.2.1, pw_cell_below Ku10.out hHeld.2.2.2.2.2.1, pw_cell_below Ku10.out hHeld.2.2.2.2.2.2.1, pw_cell_below Ku10.out hHeld.2.2.2.2.2.2.2.1, pw_cell_below Ku10.out hHeld.2.2.2.2.2.2.2.2.1, pw_cell_below Ku10.out hHeld.2.2.2.2.2.2.2.2.2.1, pw_cell_below Ku10.out hHeld.2.2.2.2.2.2.2.2.2.2.1, below_step hHeld.2.2.2.2.2.2.2.2.2.2.2 Ku10.out⟩ (fun hHeld => ?_)
        clear hK K
        refine norm_ (a' := ?_) ?_ ?_
        rotate_left
        · show Act.put _ (some 45) _ = _
          simp only [Act.put, List.setIfInBounds_toArray, List.set_cons_zero, List.set_cons_succ, i64_w, i32_w]
          rfl
        refine pure_ (i := 22) (N := some 47) (v := ?_) (a' := ?_) #[true, true, true, true, true, true, true, true, true, true, true, true, true, true, true, true, true, true, true, true, true, true, true, false, true, true, true, false, false, false, false, false, false, false, false, false, false, false] rfl rfl (by kernel_rfl) (fun _ _ _ h => h) (Or.inl ⟨by rfl, ?_⟩) ?_ ?_
        rotate_left
        · intro w'
          go_simp
          first | with_reducible rfl | (simp only [if_neg z1, if_neg z2, if_neg z3, he0, hE, hE2]; with_reducible rfl)
        rotate_left
        · simp only [Act.put, List.setIfInBounds_toArray, List.set_cons_zero, List.set_cons_succ, i64_w, i32_w]
          rfl
        refine one_ (i := 23) (N := some 48) #[true, true, true, true, true, true, true, true, true, true, true, true, true, true, true, true, true, true, true, true, true, true, true, true, true, true, true, false, false, false, false, false, false, false, false, false, false, false] rfl rfl (by kernel_rfl) (by decide) (fun K hK => ?_)
        refine goes_ Try.func13 (by kernel_rfl) rfl #[.agg #[.string mac, .bool false, .bool false, .bool false, .bool false, .bool false, .bool false, .slice none 0 0, .slice none 0 0, .bool false, .slice none 0 0], .string (plainF other mac ++ c)] (by rfl) rfl rfl (by simp only [List.map_toArray, List.map_cons, List.map_nil]; rfl) ?_
        with_reducible refine (adm_flat _ _ HA.out).mono ?_
        rintro e u13 ⟨rfl, hu13⟩
        refine ⟨_, rfl, ?_⟩
        have Ku13 := Aside0.mk hu13
        clear hu13
        refine hK.out _ _ ⟨pw_cell_below Ku13.out hHeld.1, pw_cell_below Ku13.out hHeld.2.1, pw_cell_below Ku13.out hHeld.2.2.1, pw_cell_below Ku13.out hHeld.2.2.2.1, pw_cell_below Ku13.out hHeld.2.2.2.2.1, pw_cell_below Ku13.out hHeld.2.2.2.2.2.1, pw_cell_below Ku13.out hHeld.2.2.2.2.2.2.1, pw_cell_below Ku13.out hHeld.2.2.2.2.2.2.2.1, pw_cell_below Ku13.out hHeld.2.2.2.2.2.2.2.2.1, pw_cell_below Ku13.out hHeld.2.2.2.2.2.2.2.2.2.1, pw_cell_below Ku13.out hHeld.2.2.2.2.2.2.2.2.2.2.1, below_step hHeld.2.2.2.2.2.2.2.2.2.2.2 Ku13.out⟩ (fun hHeld => ?_)
        clear hK K
        refine norm_ (a' := ?_) ?_ ?_
        rotate_left
        · show Act.put _ (some 48) _ = _
          simp only [Act.put, List.setIfInBounds_toArray, List.set_cons_zero, List.set_cons_succ, i64_w, i32_w]
          rfl
        refine pure_ (i := 27) (N := some 52) (v := ?_) (a' := ?_) #[true, true, true, true, true, true, true, true, true, true, true, true, true, true, true, true, true, true, true, true, true, true, true, true, true, true, true, true, false, false, false, false, false, false, false, false, false, false] rfl rfl (by kernel_rfl) (fun _ _ _ h => h) (Or.inl ⟨by rfl, ?_⟩) ?_ ?_
        rotate_left
        · intro w'
          go_simp
          first | with_reducible rfl | (simp only [if_neg z1, if_neg z2, if_neg z3, he0, hE, hE2]; with_reducible rfl)
        rotate_left
        · simp only [Act.put, List.setIfInBounds_toArray, List.set_cons_zero, List.set_cons_succ, i64_w, i32_w]
          rfl
        refine pure_ (i := 28) (N := some 53) (v := ?_) (a' := ?_) #[true, true, true, true, true, true, true, true, true, true, true, true, true, true, true, true, true, true, true, true, true, true, true, true, true, true, true, true, true, false, false, false, false, false, false, false, false, false] rfl rfl (by kernel_rfl) (fun _ _ _ h => h) (Or.inl ⟨by rfl, ?_⟩) ?_ ?_
        rotate_left
        · intro w'
          go_simp
          first | with_reducible rfl | (simp only [if_neg z1, if_neg z2, if_neg z3, he0, hE, hE2]; with_reducible rfl)
        rotate_left
        · simp only [Act.put, List.setIfInBounds_toArray, List.set_cons_zero, List.set_cons_succ, i64_w, i32_w]
          rfl
        refine pure_ (i := 29) (N := some 54) (v := ?_) (a' := ?_) #[true, true, true, true, true, true, true, true, true, true, true, true, true, true, true, true, true, true, true, true, true, true, true, true, true, true, true, true, true, true, false, false, false, false, false, false, false, false] rfl rfl (by kernel_rfl) (fun _ _ _ h => h) (Or.inl ⟨by rfl, ?_⟩) ?_ ?_
        rotate_left
        · intro w'
          go_simp
          first | with_reducible rfl | (simp only [if_neg z1, if_neg z2, if_neg z3, he0, hE, hE2]; with_reducible rfl)
        rotate_left
        · simp only [Act.put, List.setIfInBounds_toArray, List.set_cons_zero, List.set_cons_succ, i64_w, i32_w]
          rfl
        refine pure_ (i := 30) (N := some 55) (v := ?_) (a' := ?_) #[true, true, true, true, true, true, true, true, true, true, true, true, true, true, true, true, true, true, true, true, true, true, true, true, true, true, true, true, true, true, true, false, false, false, false, false, false, false] rfl rfl (by kernel_rfl) (fun _ _ _ h => h) (Or.inl ⟨by rfl, ?_⟩) ?_ ?_
        rotate_left
        · intro w'
          go_simp
          first | with_reducible rfl | (simp only [if_neg z1, if_neg z2, if_neg z3, he0, hE, hE2]; with_reducible rfl)
        rotate_left
        · simp only [Act.put, List.setIfInBounds_toArray, List.set_cons_zero, List.set_cons_succ, i64_w, i32_w]
          rfl
        refine pure_ (i := 31) (N := some 56) (v := ?_) (a' := ?_) #[true, true, true, true, true, true, true, true, true, true, true, true, true, true, true, true, true, true, true, true, true, true, true, true, true, true, true, true, true, true, true, true, false, false, false, false, false, false] rfl rfl (by kernel_rfl) (fun _ _ _ h => h) (Or.inl ⟨by rfl, ?_⟩) ?_ ?_
        rotate_left
        · intro w'
          go_simp
          first | with_reducible rfl | (simp only [if_neg z1, if_neg z2, if_neg z3, he0, hE, hE2]; with_reducible rfl)
        rotate_left
        · simp only [Act.put, List.setIfInBounds_toArray, List.set_cons_zero, List.set_cons_succ, i64_w, i32_w]
          rfl
        refine pure_ (i := 32) (N := some 57) (v := ?_) (a' := ?_) #[true, true, true, true, true, true, true, true, true, true, true, true, true, true, true, true, true, true, true, true, true, true, true, true, true, true, true, true, true, true, true, true, true, false, false, false, false, false] rfl rfl (by kernel_rfl) (fun _ _ _ h => h) (Or.inl ⟨by rfl, ?_⟩) ?_ ?_
        rotate_left
        · intro w'
          go_simp
          first | with_reducible rfl | (simp only [if_neg z1, if_neg z2, if_neg z3, he0, hE, hE2]; with_reducible rfl)
        rotate_left
        · simp only [Act.put, List.setIfInBounds_toArray, List.set_cons_zero, List.set_cons_succ, i64_w, i32_w]
          rfl
        refine pure_ (i := 33) (N := some 58) (v := ?_) (a' := ?_) #[true, true, true, true, true, true, true, true, true, true, true, true, true, true, true, true, true, true, true, true, true, true, true, true, true, true, true, true, true, true, true, true, true, true, false, false, false, false] rfl rfl (by kernel_rfl) (fun _ _ _ h => h) (Or.inl ⟨by rfl, ?_⟩) ?_ ?_
        rotate_left
        · intro w'
          go_simp
          first | with_reducible rfl | (simp only [if_neg z1, if_neg z2, if_neg z3, he0, hE, hE2]; with_reducible rfl)
        rotate_left
        · simp only [Act.put, List.setIfInBounds_toArray, List.set_cons_zero, List.set_cons_succ, i64_w, i32_w]
          rfl
        refine pure_ (i := 34) (N := some 59) (v := ?_) (a' := ?_) #[true, true, true, true, true, true, true, true, true, true, true, true, true, true, true, true, true, true, true, true, true, true, true, true, true, true, true, true, true, true, true, true, true, true, true, false, false, false] rfl rfl (by kernel_rfl) (fun _ _ _ h => h) (Or.inl ⟨by rfl, ?_⟩) ?_ ?_
        rotate_left
        · intro w'
          go_simp
          first | with_reducible rfl | (simp only [if_neg z1, if_neg z2, if_neg z3, he0, hE, hE2]; with_reducible rfl)
        rotate_left
        · simp only [Act.put, List.setIfInBounds_toArray, List.set_cons_zero, List.set_cons_succ, i64_w, i32_w]
          rfl
        refine one_ (i := 35) (N := some 60) #[true, true, true, true, true, true, true, true, true, true, true, true, true, true, true, true, true, true, true, true, true, true, true, true, true, true, true, true, true, true, true, true, true, true, true, true, false, false] rfl rfl (by kernel_rfl) (by decide) (fun K hK => ?_)
        refine goes_ Try.func10 (by kernel_rfl) rfl #[] (by rfl) rfl rfl (by simp only [List.map_toArray, List.map_cons, List.map_nil] <;> rfl) ?_
        with_reducible refine (fixed_f _).mono ?_
        rintro e u14 ⟨rfl, hu14⟩
        refine ⟨_, rfl, ?_⟩
        have Ku14 := Aside0.mk hu14
        clear hu14
        refine hK.out _ _ ⟨pw_cell_below Ku14.out hHeld.1, pw_cell_below Ku14.out hHeld.2.1, pw_cell_below Ku14.out hHeld.2.2.1, pw_cell_below Ku14.out hHeld.2.2.2.1, pw_cell_below Ku14.out hHeld.2.2.2.2.1, pw_cell_below Ku14.out hHeld.2.2.2.2.2.1, pw_cell_below Ku14.out hHeld.2.2.2.2.2.2.1, pw_cell_below Ku14.out hHeld.2.2.2.2.2.2.2.1, pw_cell_below Ku14.out hHeld.2.2.2.2.2.2.2.2.1, pw_cell_below Ku14.out hHeld.2.2.2.2.2.2.2.2.2.1, pw_cell_below Ku14.out hHeld.2.2.2.2.2.2.2.2.2.2.1, below_step hHeld.2.2.2.2.2.2.2.2.2.2.2 Ku14.out⟩ (fun hHeld => ?_)
        clear hK K
        refine norm_ (a' := ?_) ?_ ?_
        rotate_left
        · show Act.put _ (some 60) _ = _
          simp only [Act.put, List.setIfInBounds_toArray, List.set_cons_zero, List.set_cons_succ, i64_w, i32_w]
          rfl
        refine pure_ (i := 36) (N := some 61) (v := ?_) (a' := ?_) #[true, true, true, true, true, true, true, true, true, true, true, true, true, true, true, true, true, true, true, true, true, true, true, true, true, true, true, true, true, true, true, true, true, true, true, true, true, false] rfl rfl (by kernel_rfl) (fun _ _ _ h => h) (Or.inl ⟨by rfl, ?_⟩) ?_ ?_
        rotate_left
        · intro w'
          go_simp
          first | with_reducible rfl | (simp only [if_neg z1, if_neg z2, if_neg z3, he0, hE, hE2]; with_reducible rfl)
        rotate_left
        · simp only [Act.put, List.setIfInBounds_toArray, List.set_cons_zero, List.set_cons_succ, i64_w, i32_w]
          rfl
        refine pure_ (i := 37) (N := some 6) (v := ?_) (a' := ?_) #[true, true, true, true, true, true, true, true, true, true, true, true, true, true, true, true, true, true, true, true, true, true, true, true, true, true, true, true, true, true, true, true, true, true, true, true, true, true] rfl rfl (by kernel_rfl) (fun _ _ _ h => h) (Or.inl ⟨by rfl, ?_⟩) ?_ ?_
        rotate_left
        · intro w'
          go_simp
          first | with_reducible rfl | (simp only [if_neg z1, if_neg z2, if_neg z3, he0, hE, hE2]; with_reducible rfl)
        rotate_left
        · simp only [Act.put, List.setIfInBounds_toArray, List.set_cons_zero, List.set_cons_succ, i64_w, i32_w]
          rfl
        refine done_ (by kernel_rfl) ?_
        go_wp2
        go_ret
        exact ⟨rfl, below_step B4.out hHeld.2.2.2.2.2.2.2.2.2.2.2⟩
  · have pc0 : w_1.cell? ⟨g, 0, none⟩ = some (.string mac) := (blk_cell BX1.out 0).trans rfl
    have pc1 : w_1.cell? ⟨g, 1, none⟩ = some (.bool false) := (blk_cell BX1.out 1).trans rfl
    have pc2 : w_1.cell? ⟨g, 2, none⟩ = some (.bool false) := (blk_cell BX1.out 2).trans rfl
    have pc3 : w_1.cell? ⟨g, 3, none⟩ = some (.bool false) := (blk_cell BX1.out 3).trans rfl
    have pc4 : w_1.cell? ⟨g, 4, none⟩ = some (.bool false) := (blk_cell BX1.out 4).trans rfl
    have pc5 : w_1.cell? ⟨g, 5, none⟩ = some (.bool false) := (blk_cell BX1.out 5).trans rfl
    have pc6 : w_1.cell? ⟨g, 6, none⟩ = some (.bool false) := (blk_cell BX1.out 6).trans rfl
    have pc7 : w_1.cell? ⟨g, 7, none⟩ = some (.slice none 0 0) := (blk_cell BX1.out 7).trans rfl
    have pc8 : w_1.cell? ⟨g, 8, none⟩ = some (.slice none 0 0) := (blk_cell BX1.out 8).trans rfl
    have pc9 : w_1.cell? ⟨g, 9, none⟩ = some (.bool false) := (blk_cell BX1.out 9).trans rfl
    have pc10 : w_1.cell? ⟨g, 10, none⟩ = some (.slice none 0 0) := (blk_cell BX1.out 10).trans rfl
    go_wp2_with fail
    clear pc0 pc1 pc2 pc3 pc4 pc5 pc6 pc7 pc8 pc9 pc10
    refine (check_bad w_1 hk).mono ?_
    rintro e w_3 ⟨rfl, hb_⟩
    have B4 := Aside0.mk (below_step B2.out hb_)
    have K4_g := Aside0.mk (blk_below BX1.out hb_)
    clear hb_ B2 BX1
    go_wp2_with fail
    refine (fixed_f w_3).mono ?_
    rintro e w_5 ⟨rfl, hb_⟩
    have B6 := Aside0.mk (below_step B4.out hb_)
    have K6_g := Aside0.mk (blk_below K4_g.out hb_)
    clear hb_ B4 K4_g
    go_wp2
    go_ret
    exact ⟨rfl, B6.out⟩
end Go.Proofs.Ytnckogdplcijiaa.Hand
