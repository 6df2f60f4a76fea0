/- Filters: contracts by hand, and the laws over them. -/
import Derived.Test.YtnckogdplcijiaaOwn
import Derived.Test.YtnckogdplcijiaaFF
namespace Go.Proofs.Ytnckogdplcijiaa.Hand
open Go Go.RowKit Go.Proofs.YtnckogdplcijiaaW.PrintWords Go.Proofs.YtnckogdplcijiaaW.PrintLast Go.Proofs.YtnckogdplcijiaaW.PrintMore Go.Proofs.Ytnckogdplcijiaa.Mth Go.Proofs.Ytnckogdplcijiaa.P Go.Proofs.Ytnckogdplcijiaa.Own Go.Proofs Go.Proofs.Ytnckogdplcijiaa.Fl
set_option linter.unusedVariables false
set_option linter.unusedSimpArgs false
set_option maxHeartbeats 16000000 in
set_option maxRecDepth 100000 in
theorem FilterChecks (F : Flt) (S : Sl) (s : ByteArray) (w : World) (hf : FV w F S) (hs : s.size ≤ 140737488351232) : Calls Try.prog 3 #[.agg #[.string F.m, .bool F.b1, .bool F.b2, .bool F.b3, .bool F.b4, .bool F.b5, .bool F.b6, .slice S.A7 F.us.length S.c7, .slice S.A8 F.ms.length S.c8, .bool F.b9, .slice S.A10 F.vs.length S.c10], .string s] w fun e w' => e = .returned (.bool true) ∧ Below w.heap.size w w' := by
  have HF := Aside0.mk hf
  clear hf
  have hu := Try.underlying25
  go_enter Try.func3, Try.ntmps3
  go_upto_region 1 with (fail)
  obtain ⟨w_1, hw_⟩ : ∃ w_, w.alloc (.cells #[.string F.m, .bool F.b1, .bool F.b2, .bool F.b3, .bool F.b4, .bool F.b5, .bool F.b6, .slice S.A7 F.us.length S.c7, .slice S.A8 F.ms.length S.c8, .bool F.b9, .slice S.A10 F.vs.length S.c10] 25) = w_ := ⟨_, rfl⟩
  have ha_ : Below w.heap.size w w_1 := by rw [← hw_]; exact below_alloc (Below.refl _ _) _
  have BX1 : Aside0 (w_1.heap[w.heap.size]? = some (.cells #[.string F.m, .bool F.b1, .bool F.b2, .bool F.b3, .bool F.b4, .bool F.b5, .bool F.b6, .slice S.A7 F.us.length S.c7, .slice S.A8 F.ms.length S.c8, .bool F.b9, .slice S.A10 F.vs.length S.c10] 25 (0, 0))) := ⟨by rw [← hw_]; exact blk_new w _⟩
  have hgB : w.heap.size ≤ w.heap.size := ((Below.refl w.heap.size w)).size
  rw [hw_]
  clear hw_
  obtain ⟨g, hg_⟩ : ∃ g_, w.heap.size = g_ := ⟨_, rfl⟩
  have G_g : Aside0 (w.heap.size ≤ g) := ⟨Nat.le_trans hgB (Nat.le_of_eq hg_)⟩
  rw [hg_] at BX1
  rw [hg_]
  clear hg_ hgB
  have B2 := Aside0.mk (below_step (Below.refl w.heap.size w) ha_)
  clear ha_ 
  have pc0 : w_1.cell? ⟨g, 0, none⟩ = some (.string F.m) := (blk_cell BX1.out 0).trans rfl
  have pc1 : w_1.cell? ⟨g, 1, none⟩ = some (.bool F.b1) := (blk_cell BX1.out 1).trans rfl
  have pc2 : w_1.cell? ⟨g, 2, none⟩ = some (.bool F.b2) := (blk_cell BX1.out 2).trans rfl
  have pc3 : w_1.cell? ⟨g, 3, none⟩ = some (.bool F.b3) := (blk_cell BX1.out 3).trans rfl
  have pc4 : w_1.cell? ⟨g, 4, none⟩ = some (.bool F.b4) := (blk_cell BX1.out 4).trans rfl
  have pc5 : w_1.cell? ⟨g, 5, none⟩ = some (.bool F.b5) := (blk_cell BX1.out 5).trans rfl
  have pc6 : w_1.cell? ⟨g, 6, none⟩ = some (.bool F.b6) := (blk_cell BX1.out 6).trans rfl
  have pc7 : w_1.cell? ⟨g, 7, none⟩ = some (.slice S.A7 F.us.length S.c7) := (blk_cell BX1.out 7).trans rfl
  have pc8 : w_1.cell? ⟨g, 8, none⟩ = some (.slice S.A8 F.ms.length S.c8) := (blk_cell BX1.out 8).trans rfl
  have pc9 : w_1.cell? ⟨g, 9, none⟩ = some (.bool F.b9) := (blk_cell BX1.out 9).trans rfl
  have pc10 : w_1.cell? ⟨g, 10, none⟩ = some (.slice S.A10 F.vs.length S.c10) := (blk_cell BX1.out 10).trans rfl
  go_wp2_with fail
  clear pc0 pc1 pc2 pc3 pc4 pc5 pc6 pc7 pc8 pc9 pc10
  refine (bound_f F S w_1 (HF.out.below B2.out)).mono ?_
  rintro e w_3 ⟨rfl, hb_⟩
  have B4 := Aside0.mk (below_step B2.out hb_)
  have K4_g := Aside0.mk (blk_below BX1.out hb_)
  clear hb_ B2 BX1
  have HG := Aside0.mk HF.out.bound
  have SM := Aside0.mk (boundF_small F)
  obtain ⟨G, hG⟩ : ∃ G, boundF F = G := ⟨_, rfl⟩
  rw [hG] at HG SM
  rw [hG]
  clear hG HF
  have pc0 : w_3.cell? ⟨g, 0, none⟩ = some (.string F.m) := (blk_cell K4_g.out 0).trans rfl
  have pf0 := blk_frozen K4_g.out 0
  have pc1 : w_3.cell? ⟨g, 1, none⟩ = some (.bool F.b1) := (blk_cell K4_g.out 1).trans rfl
  have pf1 := blk_frozen K4_g.out 1
  have pc2 : w_3.cell? ⟨g, 2, none⟩ = some (.bool F.b2) := (blk_cell K4_g.out 2).trans rfl
  have pf2 := blk_frozen K4_g.out 2
  have pc3 : w_3.cell? ⟨g, 3, none⟩ = some (.bool F.b3) := (blk_cell K4_g.out 3).trans rfl
  have pf3 := blk_frozen K4_g.out 3
  have pc4 : w_3.cell? ⟨g, 4, none⟩ = some (.bool F.b4) := (blk_cell K4_g.out 4).trans rfl
  have pf4 := blk_frozen K4_g.out 4
  have pc5 : w_3.cell? ⟨g, 5, none⟩ = some (.bool F.b5) := (blk_cell K4_g.out 5).trans rfl
  have pf5 := blk_frozen K4_g.out 5
  have pc6 : w_3.cell? ⟨g, 6, none⟩ = some (.bool F.b6) := (blk_cell K4_g.out 6).trans rfl
  have pf6 := blk_frozen K4_g.out 6
  have pc7 : w_3.cell? ⟨g, 7, none⟩ = some (.slice S.A7 F.us.length S.c7) := (blk_cell K4_g.out 7).trans rfl
  have pf7 := blk_frozen K4_g.out 7
  have pc8 : w_3.cell? ⟨g, 8, none⟩ = some (.slice S.A8 F.ms.length S.c8) := (blk_cell K4_g.out 8).trans rfl
  have pf8 := blk_frozen K4_g.out 8
  have pc9 : w_3.cell? ⟨g, 9, none⟩ = some (.bool F.b9) := (blk_cell K4_g.out 9).trans rfl
  have pf9 := blk_frozen K4_g.out 9
  have pc10 : w_3.cell? ⟨g, 10, none⟩ = some (.slice S.A10 F.vs.length S.c10) := (blk_cell K4_g.out 10).trans rfl
  have pf10 := blk_frozen K4_g.out 10
  go_upto_region 2 with (fail)
  clear pc0 pf0 pc1 pf1 pc2 pf2 pc3 pf3 pc4 pf4 pc5 pf5 pc6 pf6 pc7 pf7 pc8 pf8 pc9 pf9 pc10 pf10
  obtain ⟨w_5, hw_⟩ : ∃ w_, (((((((((((w_3.setCell ⟨g, 0, none⟩ (.string G.m)).setCell ⟨g, 1, none⟩ (.bool G.b1)).setCell ⟨g, 2, none⟩ (.bool G.b2)).setCell ⟨g, 3, none⟩ (.bool G.b3)).setCell ⟨g, 4, none⟩ (.bool G.b4)).setCell ⟨g, 5, none⟩ (.bool G.b5)).setCell ⟨g, 6, none⟩ (.bool G.b6)).setCell ⟨g, 7, none⟩ (.slice S.A7 G.us.length S.c7)).setCell ⟨g, 8, none⟩ (.slice S.A8 G.ms.length S.c8)).setCell ⟨g, 9, none⟩ (.bool G.b9)).setCell ⟨g, 10, none⟩ (.slice S.A10 G.vs.length S.c10)) = w_ := ⟨_, rfl⟩
  have hu_ : Upd w_3 w_5 (fun k => k = g) := by rw [← hw_]; exact (flt_at g w_3 (.string G.m) (.bool G.b1) (.bool G.b2) (.bool G.b3) (.bool G.b4) (.bool G.b5) (.bool G.b6) (.slice S.A7 G.us.length S.c7) (.slice S.A8 G.ms.length S.c8) (.bool G.b9) (.slice S.A10 G.vs.length S.c10) K4_g.out).2
  have K6_g : Aside0 (w_5.heap[g]? = some (.cells #[.string G.m, .bool G.b1, .bool G.b2, .bool G.b3, .bool G.b4, .bool G.b5, .bool G.b6, .slice S.A7 G.us.length S.c7, .slice S.A8 G.ms.length S.c8, .bool G.b9, .slice S.A10 G.vs.length S.c10] 25 (0, 0))) := ⟨by rw [← hw_]; exact (flt_at g w_3 (.string G.m) (.bool G.b1) (.bool G.b2) (.bool G.b3) (.bool G.b4) (.bool G.b5) (.bool G.b6) (.slice S.A7 G.us.length S.c7) (.slice S.A8 G.ms.length S.c8) (.bool G.b9) (.slice S.A10 G.vs.length S.c10) K4_g.out).1⟩
  rw [hw_]
  clear hw_
  have B6 := Aside0.mk (B4.out.trans (hu_.toBelow (B := w.heap.size) (fun k hk => by rw [hk]; exact G_g.out) (B4.out).size))
  clear hu_ B4 K4_g
  obtain ⟨c, hc_⟩ : ∃ c, checkS G.m G.us G.ms G.vs = c := ⟨_, rfl⟩
  have HC := Aside0.mk hc_
  obtain ⟨b, hb_⟩ : ∃ b, adm G s = b := ⟨_, rfl⟩
  have HA := Aside0.mk hb_
  clear hc_ hb_
  have cc : (c == c) = true := beq_self_eq_true _
  have bb : (b == b) = true := beq_self_eq_true _
  refine start_ (n := 18) (S := fun w' => w'.cell? ⟨g, 0, none⟩ = some (.string G.m) ∧ w'.cell? ⟨g, 1, none⟩ = some (.bool G.b1) ∧ w'.cell? ⟨g, 2, none⟩ = some (.bool G.b2) ∧ w'.cell? ⟨g, 3, none⟩ = some (.bool G.b3) ∧ w'.cell? ⟨g, 4, none⟩ = some (.bool G.b4) ∧ w'.cell? ⟨g, 5, none⟩ = some (.bool G.b5) ∧ w'.cell? ⟨g, 6, none⟩ = some (.bool G.b6) ∧ w'.cell? ⟨g, 7, none⟩ = some (.slice S.A7 G.us.length S.c7) ∧ w'.cell? ⟨g, 8, none⟩ = some (.slice S.A8 G.ms.length S.c8) ∧ w'.cell? ⟨g, 9, none⟩ = some (.bool G.b9) ∧ w'.cell? ⟨g, 10, none⟩ = some (.slice S.A10 G.vs.length S.c10) ∧ Below w_5.heap.size w_5 w') (ds := []) #[false, false, false, false, false, false, false, false, false, false, false, false, false, false, false, false, false, false] (by kernel_rfl) rfl rfl ⟨(blk_cell K6_g.out 0).trans rfl, (blk_cell K6_g.out 1).trans rfl, (blk_cell K6_g.out 2).trans rfl, (blk_cell K6_g.out 3).trans rfl, (blk_cell K6_g.out 4).trans rfl, (blk_cell K6_g.out 5).trans rfl, (blk_cell K6_g.out 6).trans rfl, (blk_cell K6_g.out 7).trans rfl, (blk_cell K6_g.out 8).trans rfl, (blk_cell K6_g.out 9).trans rfl, (blk_cell K6_g.out 10).trans rfl, below_drew1 (Below.refl _ _)⟩ (fun hHeld => ?_)
  refine one_ (i := 0) (N := some 7) #[true, false, false, false, false, false, false, false, false, false, false, false, false, false, false, false, false, false] rfl rfl (by kernel_rfl) (by decide) (fun K hK => ?_)
  refine goes_ Try.func10 (by kernel_rfl) rfl #[] (by rfl) rfl rfl (by simp only [List.map_toArray, List.map_cons, List.map_nil] <;> rfl) ?_
  with_reducible refine (fixed_f _).mono ?_
  rintro e u1 ⟨rfl, hu1⟩
  refine ⟨_, rfl, ?_⟩
  have Ku1 := Aside0.mk hu1
  clear hu1
  refine hK.out _ _ ⟨pw_cell_below Ku1.out hHeld.1, pw_cell_below Ku1.out hHeld.2.1, pw_cell_below Ku1.out hHeld.2.2.1, pw_cell_below Ku1.out hHeld.2.2.2.1, pw_cell_below Ku1.out hHeld.2.2.2.2.1, pw_cell_below Ku1.out hHeld.2.2.2.2.2.1, pw_cell_below Ku1.out hHeld.2.2.2.2.2.2.1, pw_cell_below Ku1.out hHeld.2.2.2.2.2.2.2.1, pw_cell_below Ku1.out hHeld.2.2.2.2.2.2.2.2.1, pw_cell_below Ku1.out hHeld.2.2.2.2.2.2.2.2.2.1, pw_cell_below Ku1.out hHeld.2.2.2.2.2.2.2.2.2.2.1, below_step hHeld.2.2.2.2.2.2.2.2.2.2.2 Ku1.out⟩ (fun hHeld => ?_)
  clear hK K
  refine norm_ (a' := ?_) ?_ ?_
  rotate_left
  · show Act.put _ (some 7) _ = _
    simp only [Act.put, List.setIfInBounds_toArray, List.set_cons_zero, List.set_cons_succ, i64_w, i32_w]
    rfl
  refine pure_ (i := 1) (N := some 8) (v := ?_) (a' := ?_) #[true, true, false, false, false, false, false, false, false, false, false, false, false, false, false, false, false, false] rfl rfl (by kernel_rfl) (fun _ _ _ h => h) (Or.inl ⟨by rfl, ?_⟩) ?_ ?_
  rotate_left
  · intro w'
    go_simp
    with_reducible rfl
  rotate_left
  · simp only [Act.put, List.setIfInBounds_toArray, List.set_cons_zero, List.set_cons_succ, i64_w, i32_w]
    rfl
  refine take_ (i := 2) (N := some 9) (v := ?_) (a' := ?_) #[true, true, true, false, false, false, false, false, false, false, false, false, false, false, false, false, false, false] rfl rfl (by kernel_rfl) (fun _ _ _ h => h) (Or.inl ⟨by rfl, ?_⟩) hHeld ?_ ?_
  rotate_left
  · rintro w' ⟨s0, s1, s2, s3, s4, s5, s6, s7, s8, s9, s10, s11⟩
    go_simp
    with_reducible rfl
  rotate_left
  · simp only [Act.put, List.setIfInBounds_toArray, List.set_cons_zero, List.set_cons_succ, i64_w, i32_w]
    rfl
  refine take_ (i := 4) (N := some 11) (v := ?_) (a' := ?_) #[true, true, true, false, true, false, false, false, false, false, false, false, false, false, false, false, false, false] rfl rfl (by kernel_rfl) (fun _ _ _ h => h) (Or.inl ⟨by rfl, ?_⟩) hHeld ?_ ?_
  rotate_left
  · rintro w' ⟨s0, s1, s2, s3, s4, s5, s6, s7, s8, s9, s10, s11⟩
    go_simp
    with_reducible rfl
  rotate_left
  · simp only [Act.put, List.setIfInBounds_toArray, List.set_cons_zero, List.set_cons_succ, i64_w, i32_w]
    rfl
  refine one_ (i := 3) (N := some 10) #[true, true, true, true, true, false, false, false, false, false, false, false, false, false, false, false, false, false] rfl rfl (by kernel_rfl) (by decide) (fun K hK => ?_)
  refine goes_ Try.func11 (by kernel_rfl) rfl #[.agg #[.string G.m, .bool G.b1, .bool G.b2, .bool G.b3, .bool G.b4, .bool G.b5, .bool G.b6, .slice S.A7 G.us.length S.c7, .slice S.A8 G.ms.length S.c8, .bool G.b9, .slice S.A10 G.vs.length S.c10]] (by rfl) rfl rfl (by simp only [List.map_toArray, List.map_cons, List.map_nil]; rfl) ?_
  with_reducible refine (check_at G S _ HC.out (HG.out.below (below_step B6.out hHeld.2.2.2.2.2.2.2.2.2.2.2))).mono ?_
  rintro e u2 ⟨rfl, hu2⟩
  refine ⟨_, rfl, ?_⟩
  have Ku2 := Aside0.mk hu2
  clear hu2
  refine hK.out _ _ ⟨pw_cell_below Ku2.out hHeld.1, pw_cell_below Ku2.out hHeld.2.1, pw_cell_below Ku2.out hHeld.2.2.1, pw_cell_below Ku2.out hHeld.2.2.2.1, pw_cell_below Ku2.out hHeld.2.2.2.2.1, pw_cell_below Ku2.out hHeld.2.2.2.2.2.1, pw_cell_below Ku2.out hHeld.2.2.2.2.2.2.1, pw_cell_below Ku2.out hHeld.2.2.2.2.2.2.2.1, pw_cell_below Ku2.out hHeld.2.2.2.2.2.2.2.2.1, pw_cell_below Ku2.out hHeld.2.2.2.2.2.2.2.2.2.1, pw_cell_below Ku2.out hHeld.2.2.2.2.2.2.2.2.2.2.1, below_step hHeld.2.2.2.2.2.2.2.2.2.2.2 Ku2.out⟩ (fun hHeld => ?_)
  clear hK K
  refine norm_ (a' := ?_) ?_ ?_
  rotate_left
  · show Act.put _ (some 10) _ = _
    simp only [Act.put, List.setIfInBounds_toArray, List.set_cons_zero, List.set_cons_succ, i64_w, i32_w]
    rfl
  refine one_ (i := 5) (N := some 12) #[true, true, true, true, true, true, false, false, false, false, false, false, false, false, false, false, false, false] rfl rfl (by kernel_rfl) (by decide) (fun K hK => ?_)
  refine goes_ Try.func12 (by kernel_rfl) rfl #[.agg #[.string G.m, .bool G.b1, .bool G.b2, .bool G.b3, .bool G.b4, .bool G.b5, .bool G.b6, .slice S.A7 G.us.length S.c7, .slice S.A8 G.ms.length S.c8, .bool G.b9, .slice S.A10 G.vs.length S.c10]] (by rfl) rfl rfl (by simp only [List.map_toArray, List.map_cons, List.map_nil]; rfl) ?_
  with_reducible refine (rcheck_at G S _ HC.out (HG.out.below (below_step B6.out hHeld.2.2.2.2.2.2.2.2.2.2.2)) SM.out).mono ?_
  rintro e u3 ⟨rfl, hu3⟩
  refine ⟨_, rfl, ?_⟩
  have Ku3 := Aside0.mk hu3
  clear hu3
  refine hK.out _ _ ⟨pw_cell_below Ku3.out hHeld.1, pw_cell_below Ku3.out hHeld.2.1, pw_cell_below Ku3.out hHeld.2.2.1, pw_cell_below Ku3.out hHeld.2.2.2.1, pw_cell_below Ku3.out hHeld.2.2.2.2.1, pw_cell_below Ku3.out hHeld.2.2.2.2.2.1, pw_cell_below Ku3.out hHeld.2.2.2.2.2.2.1, pw_cell_below Ku3.out hHeld.2.2.2.2.2.2.2.1, pw_cell_below Ku3.out hHeld.2.2.2.2.2.2.2.2.1, pw_cell_below Ku3.out hHeld.2.2.2.2.2.2.2.2.2.1, pw_cell_below Ku3.out hHeld.2.2.2.2.2.2.2.2.2.2.1, below_step hHeld.2.2.2.2.2.2.2.2.2.2.2 Ku3.out⟩ (fun hHeld => ?_)
  clear hK K
  refine norm_ (a' := ?_) ?_ ?_
  rotate_left
  · show Act.put _ (some 12) _ = _
    simp only [Act.put, List.setIfInBounds_toArray, List.set_cons_zero, List.set_cons_succ, i64_w, i32_w]
    rfl
  refine pure_ (i := 6) (N := some 13) (v := ?_) (a' := ?_) #[true, true, true, true, true, true, true, false, false, false, false, false, false, false, false, false, false, false] rfl rfl (by kernel_rfl) (fun _ _ _ h => h) (Or.inl ⟨by rfl, ?_⟩) ?_ ?_
  rotate_left
  · intro w'
    go_simp
    with_reducible rfl
  rotate_left
  · simp only [Act.put, List.setIfInBounds_toArray, List.set_cons_zero, List.set_cons_succ, i64_w, i32_w]
    rfl
  refine pure_ (i := 7) (N := some 14) (v := ?_) (a' := ?_) #[true, true, true, true, true, true, true, true, false, false, false, false, false, false, false, false, false, false] rfl rfl (by kernel_rfl) (fun _ _ _ h => h) (Or.inl ⟨by rfl, ?_⟩) ?_ ?_
  rotate_left
  · intro w'
    go_simp
    with_reducible rfl
  rotate_left
  · simp only [Act.put, List.setIfInBounds_toArray, List.set_cons_zero, List.set_cons_succ, i64_w, i32_w]
    rfl
  refine pure_ (i := 8) (N := some 15) (v := ?_) (a' := ?_) #[true, true, true, true, true, true, true, true, true, false, false, false, false, false, false, false, false, false] rfl rfl (by kernel_rfl) (fun _ _ _ h => h) (Or.inl ⟨by rfl, ?_⟩) ?_ ?_
  rotate_left
  · intro w'
    go_simp
    with_reducible rfl
  rotate_left
  · simp only [Act.put, List.setIfInBounds_toArray, List.set_cons_zero, List.set_cons_succ, i64_w, i32_w]
    rfl
  refine pure_ (i := 10) (N := some 17) (v := ?_) (a' := ?_) #[true, true, true, true, true, true, true, true, true, false, true, false, false, false, false, false, false, false] rfl rfl (by kernel_rfl) (fun _ _ _ h => h) (Or.inl ⟨by rfl, ?_⟩) ?_ ?_
  rotate_left
  · intro w'
    go_simp
    with_reducible rfl
  rotate_left
  · simp only [Act.put, List.setIfInBounds_toArray, List.set_cons_zero, List.set_cons_succ, i64_w, i32_w]
    rfl
  refine pure_ (i := 13) (N := some 20) (v := ?_) (a' := ?_) #[true, true, true, true, true, true, true, true, true, false, true, false, false, true, false, false, false, false] rfl rfl (by kernel_rfl) (fun _ _ _ h => h) (Or.inl ⟨by rfl, ?_⟩) ?_ ?_
  rotate_left
  · intro w'
    go_simp
    with_reducible rfl
  rotate_left
  · simp only [Act.put, List.setIfInBounds_toArray, List.set_cons_zero, List.set_cons_succ, i64_w, i32_w]
    rfl
  refine take_ (i := 9) (N := some 16) (v := ?_) (a' := ?_) #[true, true, true, true, true, true, true, true, true, true, true, false, false, true, false, false, false, false] rfl rfl (by kernel_rfl) (fun _ _ _ h => h) (Or.inl ⟨by rfl, ?_⟩) hHeld ?_ ?_
  rotate_left
  · rintro w' ⟨s0, s1, s2, s3, s4, s5, s6, s7, s8, s9, s10, s11⟩
    go_simp
    with_reducible rfl
  rotate_left
  · simp only [Act.put, List.setIfInBounds_toArray, List.set_cons_zero, List.set_cons_succ, i64_w, i32_w]
    rfl
  refine take_ (i := 12) (N := some 19) (v := ?_) (a' := ?_) #[true, true, true, true, true, true, true, true, true, true, true, false, true, true, false, false, false, false] rfl rfl (by kernel_rfl) (fun _ _ _ h => h) (Or.inl ⟨by rfl, ?_⟩) hHeld ?_ ?_
  rotate_left
  · rintro w' ⟨s0, s1, s2, s3, s4, s5, s6, s7, s8, s9, s10, s11⟩
    go_simp
    with_reducible rfl
  rotate_left
  · simp only [Act.put, List.setIfInBounds_toArray, List.set_cons_zero, List.set_cons_succ, i64_w, i32_w]
    rfl
  refine one_ (i := 11) (N := some 18) #[true, true, true, true, true, true, true, true, true, true, true, true, true, true, false, false, false, false] rfl rfl (by kernel_rfl) (by decide) (fun K hK => ?_)
  refine goes_ Try.func13 (by kernel_rfl) rfl #[.agg #[.string G.m, .bool G.b1, .bool G.b2, .bool G.b3, .bool G.b4, .bool G.b5, .bool G.b6, .slice S.A7 G.us.length S.c7, .slice S.A8 G.ms.length S.c8, .bool G.b9, .slice S.A10 G.vs.length S.c10], .string s] (by rfl) rfl rfl (by simp only [List.map_toArray, List.map_cons, List.map_nil]; rfl) ?_
  with_reducible refine (adm_at G S s _ HA.out (HG.out.below (below_step B6.out hHeld.2.2.2.2.2.2.2.2.2.2.2)) SM.out).mono ?_
  rintro e u4 ⟨rfl, hu4⟩
  refine ⟨_, rfl, ?_⟩
  have Ku4 := Aside0.mk hu4
  clear hu4
  refine hK.out _ _ ⟨pw_cell_below Ku4.out hHeld.1, pw_cell_below Ku4.out hHeld.2.1, pw_cell_below Ku4.out hHeld.2.2.1, pw_cell_below Ku4.out hHeld.2.2.2.1, pw_cell_below Ku4.out hHeld.2.2.2.2.1, pw_cell_below Ku4.out hHeld.2.2.2.2.2.1, pw_cell_below Ku4.out hHeld.2.2.2.2.2.2.1, pw_cell_below Ku4.out hHeld.2.2.2.2.2.2.2.1, pw_cell_below Ku4.out hHeld.2.2.2.2.2.2.2.2.1, pw_cell_below Ku4.out hHeld.2.2.2.2.2.2.2.2.2.1, pw_cell_below Ku4.out hHeld.2.2.2.2.2.2.2.2.2.2.1, below_step hHeld.2.2.2.2.2.2.2.2.2.2.2 Ku4.out⟩ (fun hHeld => ?_)
  clear hK K
  refine norm_ (a' := ?_) ?_ ?_
  rotate_left
  · show Act.put _ (some 18) _ = _
    simp only [Act.put, List.setIfInBounds_toArray, List.set_cons_zero, List.set_cons_succ, i64_w, i32_w]
    rfl
  refine one_ (i := 14) (N := some 21) #[true, true, true, true, true, true, true, true, true, true, true, true, true, true, true, false, false, false] rfl rfl (by kernel_rfl) (by decide) (fun K hK => ?_)
  refine goes_ Try.func14 (by kernel_rfl) rfl #[.agg #[.string G.m, .bool G.b1, .bool G.b2, .bool G.b3, .bool G.b4, .bool G.b5, .bool G.b6, .slice S.A7 G.us.length S.c7, .slice S.A8 G.ms.length S.c8, .bool G.b9, .slice S.A10 G.vs.length S.c10], .string s] (by rfl) rfl rfl (by simp only [List.map_toArray, List.map_cons, List.map_nil]; rfl) ?_
  with_reducible refine (radm_at G S s _ HA.out (HG.out.below (below_step B6.out hHeld.2.2.2.2.2.2.2.2.2.2.2)) SM.out hs).mono ?_
  rintro e u5 ⟨rfl, hu5⟩
  refine ⟨_, rfl, ?_⟩
  have Ku5 := Aside0.mk hu5
  clear hu5
  refine hK.out _ _ ⟨pw_cell_below Ku5.out hHeld.1, pw_cell_below Ku5.out hHeld.2.1, pw_cell_below Ku5.out hHeld.2.2.1, pw_cell_below Ku5.out hHeld.2.2.2.1, pw_cell_below Ku5.out hHeld.2.2.2.2.1, pw_cell_below Ku5.out hHeld.2.2.2.2.2.1, pw_cell_below Ku5.out hHeld.2.2.2.2.2.2.1, pw_cell_below Ku5.out hHeld.2.2.2.2.2.2.2.1, pw_cell_below Ku5.out hHeld.2.2.2.2.2.2.2.2.1, pw_cell_below Ku5.out hHeld.2.2.2.2.2.2.2.2.2.1, pw_cell_below Ku5.out hHeld.2.2.2.2.2.2.2.2.2.2.1, below_step hHeld.2.2.2.2.2.2.2.2.2.2.2 Ku5.out⟩ (fun hHeld => ?_)
  clear hK K
  refine norm_ (a' := ?_) ?_ ?_
  rotate_left
  · show Act.put _ (some 21) _ = _
    simp only [Act.put, List.setIfInBounds_toArray, List.set_cons_zero, List.set_cons_succ, i64_w, i32_w]
    rfl
  refine pure_ (i := 15) (N := some 22) (v := ?_) (a' := ?_) #[true, true, true, true, true, true, true, true, true, true, true, true, true, true, true, true, false, false] rfl rfl (by kernel_rfl) (fun _ _ _ h => h) (Or.inl ⟨by rfl, ?_⟩) ?_ ?_
  rotate_left
  · intro w'
    go_simp
    with_reducible rfl
  rotate_left
  · simp only [Act.put, List.setIfInBounds_toArray, List.set_cons_zero, List.set_cons_succ, i64_w, i32_w]
    rfl
  refine pure_ (i := 16) (N := some 23) (v := ?_) (a' := ?_) #[true, true, true, true, true, true, true, true, true, true, true, true, true, true, true, true, true, false] rfl rfl (by kernel_rfl) (fun _ _ _ h => h) (Or.inl ⟨by rfl, ?_⟩) ?_ ?_
  rotate_left
  · intro w'
    go_simp
    with_reducible rfl
  rotate_left
  · simp only [Act.put, List.setIfInBounds_toArray, List.set_cons_zero, List.set_cons_succ, i64_w, i32_w]
    rfl
  refine pure_ (i := 17) (N := some 4) (v := ?_) (a' := ?_) #[true, true, true, true, true, true, true, true, true, true, true, true, true, true, true, true, true, true] rfl rfl (by kernel_rfl) (fun _ _ _ h => h) (Or.inl ⟨by rfl, ?_⟩) ?_ ?_
  rotate_left
  · intro w'
    go_simp
    with_reducible rfl
  rotate_left
  · simp only [Act.put, List.setIfInBounds_toArray, List.set_cons_zero, List.set_cons_succ, i64_w, i32_w]
    rfl
  refine done_ (by kernel_rfl) ?_
  go_wp2
  go_ret
  exact ⟨rfl, below_step B6.out hHeld.2.2.2.2.2.2.2.2.2.2.2⟩
end Go.Proofs.Ytnckogdplcijiaa.Hand
