/- Filters: contracts by hand, and the laws over them. -/
import Derived.Test.YtnckogdplcijiaaOwn
import Derived.Test.YtnckogdplcijiaaLG
namespace Go.Proofs.Ytnckogdplcijiaa.Hand
open Go Go.RowKit Go.Proofs.YtnckogdplcijiaaW.PrintWords Go.Proofs.YtnckogdplcijiaaW.PrintLast Go.Proofs.YtnckogdplcijiaaW.PrintMore Go.Proofs.Ytnckogdplcijiaa.Mth Go.Proofs.Ytnckogdplcijiaa.P Go.Proofs.Ytnckogdplcijiaa.Own Go.Proofs Go.Proofs.Ytnckogdplcijiaa.Fl
set_option linter.unusedVariables false
set_option linter.unusedSimpArgs false
set_option maxHeartbeats 16000000 in
set_option maxRecDepth 100000 in
theorem FilterGrows (F : Flt) (S : Sl) (s mac : ByteArray) (w : World) (hf : FV w F S) (h1 : s.size ≤ 140737488351232) (h2 : mac.size ≤ 140737488351232) : Calls Try.prog 4 #[.agg #[.string F.m, .bool F.b1, .bool F.b2, .bool F.b3, .bool F.b4, .bool F.b5, .bool F.b6, .slice S.A7 F.us.length S.c7, .slice S.A8 F.ms.length S.c8, .bool F.b9, .slice S.A10 F.vs.length S.c10], .string s, .string mac] w fun e w' => e = .returned (.bool true) ∧ Below w.heap.size w w' := by
  have HF := Aside0.mk hf
  clear hf
  have hu := Try.underlying25
  go_enter Try.func4, Try.ntmps4
  go_upto_region 1 with (fail)
  obtain ⟨w_1, hw_⟩ : ∃ w_, w.alloc (.cells #[.string F.m, .bool F.b1, .bool F.b2, .bool F.b3, .bool F.b4, .bool F.b5, .bool F.b6, .slice S.A7 F.us.length S.c7, .slice S.A8 F.ms.length S.c8, .bool F.b9, .slice S.A10 F.vs.length S.c10] 25) = w_ := ⟨_, rfl⟩
  have ha_ : Below w.heap.size w w_1 := by rw [← hw_]; exact below_alloc (Below.refl _ _) _
  have BX1 : Aside0 (w_1.heap[w.heap.size]? = some (.cells #[.string F.m, .bool F.b1, .bool F.b2, .bool F.b3, .bool F.b4, .bool F.b5, .bool F.b6, .slice S.A7 F.us.length S.c7, .slice S.A8 F.ms.length S.c8, .bool F.b9, .slice S.A10 F.vs.length S.c10] 25 (0, 0))) := ⟨by rw [← hw_]; exact blk_new w _⟩
  have hgB : w.heap.size ≤ w.heap.size := ((Below.refl w.heap.size w)).size
  rw [hw_]
  clear hw_
  obtain ⟨g, hg_⟩ : ∃ g_, w.heap.size = g_ := ⟨_, rfl⟩
  have G_g : Aside0 (w.heap.size ≤ g) := ⟨Nat.le_trans hgB (Nat.le_of_eq hg_)⟩
  rw [hg_] at BX1
  rw [hg_]
  clear hg_ hgB
  have B2 := Aside0.mk (below_step (Below.refl w.heap.size w) ha_)
  clear ha_ 
  have pc0 : w_1.cell? ⟨g, 0, none⟩ = some (.string F.m) := (blk_cell BX1.out 0).trans rfl
  have pc1 : w_1.cell? ⟨g, 1, none⟩ = some (.bool F.b1) := (blk_cell BX1.out 1).trans rfl
  have pc2 : w_1.cell? ⟨g, 2, none⟩ = some (.bool F.b2) := (blk_cell BX1.out 2).trans rfl
  have pc3 : w_1.cell? ⟨g, 3, none⟩ = some (.bool F.b3) := (blk_cell BX1.out 3).trans rfl
  have pc4 : w_1.cell? ⟨g, 4, none⟩ = some (.bool F.b4) := (blk_cell BX1.out 4).trans rfl
  have pc5 : w_1.cell? ⟨g, 5, none⟩ = some (.bool F.b5) := (blk_cell BX1.out 5).trans rfl
  have pc6 : w_1.cell? ⟨g, 6, none⟩ = some (.bool F.b6) := (blk_cell BX1.out 6).trans rfl
  have pc7 : w_1.cell? ⟨g, 7, none⟩ = some (.slice S.A7 F.us.length S.c7) := (blk_cell BX1.out 7).trans rfl
  have pc8 : w_1.cell? ⟨g, 8, none⟩ = some (.slice S.A8 F.ms.length S.c8) := (blk_cell BX1.out 8).trans rfl
  have pc9 : w_1.cell? ⟨g, 9, none⟩ = some (.bool F.b9) := (blk_cell BX1.out 9).trans rfl
  have pc10 : w_1.cell? ⟨g, 10, none⟩ = some (.slice S.A10 F.vs.length S.c10) := (blk_cell BX1.out 10).trans rfl
  go_wp2_with fail
  clear pc0 pc1 pc2 pc3 pc4 pc5 pc6 pc7 pc8 pc9 pc10
  refine (bound_f F S w_1 (HF.out.below B2.out)).mono ?_
  rintro e w_3 ⟨rfl, hb_⟩
  have B4 := Aside0.mk (below_step B2.out hb_)
  have K4_g := Aside0.mk (blk_below BX1.out hb_)
  clear hb_ B2 BX1
  have HG := Aside0.mk HF.out.bound
  have SM := Aside0.mk (boundF_small F)
  have MB := Aside0.mk (@May.of_bound F)
  obtain ⟨G, hG⟩ : ∃ G, boundF F = G := ⟨_, rfl⟩
  rw [hG] at HG SM MB
  have GS := Aside0.mk (fun j => grow_small F mac j)
  rw [hG] at GS
  rw [hG]
  clear hG HF
  have pc0 : w_3.cell? ⟨g, 0, none⟩ = some (.string F.m) := (blk_cell K4_g.out 0).trans rfl
  have pf0 := blk_frozen K4_g.out 0
  have pc1 : w_3.cell? ⟨g, 1, none⟩ = some (.bool F.b1) := (blk_cell K4_g.out 1).trans rfl
  have pf1 := blk_frozen K4_g.out 1
  have pc2 : w_3.cell? ⟨g, 2, none⟩ = some (.bool F.b2) := (blk_cell K4_g.out 2).trans rfl
  have pf2 := blk_frozen K4_g.out 2
  have pc3 : w_3.cell? ⟨g, 3, none⟩ = some (.bool F.b3) := (blk_cell K4_g.out 3).trans rfl
  have pf3 := blk_frozen K4_g.out 3
  have pc4 : w_3.cell? ⟨g, 4, none⟩ = some (.bool F.b4) := (blk_cell K4_g.out 4).trans rfl
  have pf4 := blk_frozen K4_g.out 4
  have pc5 : w_3.cell? ⟨g, 5, none⟩ = some (.bool F.b5) := (blk_cell K4_g.out 5).trans rfl
  have pf5 := blk_frozen K4_g.out 5
  have pc6 : w_3.cell? ⟨g, 6, none⟩ = some (.bool F.b6) := (blk_cell K4_g.out 6).trans rfl
  have pf6 := blk_frozen K4_g.out 6
  have pc7 : w_3.cell? ⟨g, 7, none⟩ = some (.slice S.A7 F.us.length S.c7) := (blk_cell K4_g.out 7).trans rfl
  have pf7 := blk_frozen K4_g.out 7
  have pc8 : w_3.cell? ⟨g, 8, none⟩ = some (.slice S.A8 F.ms.length S.c8) := (blk_cell K4_g.out 8).trans rfl
  have pf8 := blk_frozen K4_g.out 8
  have pc9 : w_3.cell? ⟨g, 9, none⟩ = some (.bool F.b9) := (blk_cell K4_g.out 9).trans rfl
  have pf9 := blk_frozen K4_g.out 9
  have pc10 : w_3.cell? ⟨g, 10, none⟩ = some (.slice S.A10 F.vs.length S.c10) := (blk_cell K4_g.out 10).trans rfl
  have pf10 := blk_frozen K4_g.out 10
  go_upto_region 2 with (fail)
  clear pc0 pf0 pc1 pf1 pc2 pf2 pc3 pf3 pc4 pf4 pc5 pf5 pc6 pf6 pc7 pf7 pc8 pf8 pc9 pf9 pc10 pf10
  obtain ⟨w_5, hw_⟩ : ∃ w_, (((((((((((w_3.setCell ⟨g, 0, none⟩ (.string G.m)).setCell ⟨g, 1, none⟩ (.bool G.b1)).setCell ⟨g, 2, none⟩ (.bool G.b2)).setCell ⟨g, 3, none⟩ (.bool G.b3)).setCell ⟨g, 4, none⟩ (.bool G.b4)).setCell ⟨g, 5, none⟩ (.bool G.b5)).setCell ⟨g, 6, none⟩ (.bool G.b6)).setCell ⟨g, 7, none⟩ (.slice S.A7 G.us.length S.c7)).setCell ⟨g, 8, none⟩ (.slice S.A8 G.ms.length S.c8)).setCell ⟨g, 9, none⟩ (.bool G.b9)).setCell ⟨g, 10, none⟩ (.slice S.A10 G.vs.length S.c10)) = w_ := ⟨_, rfl⟩
  have hu_ : Upd w_3 w_5 (fun k => k = g) := by rw [← hw_]; exact (flt_at g w_3 (.string G.m) (.bool G.b1) (.bool G.b2) (.bool G.b3) (.bool G.b4) (.bool G.b5) (.bool G.b6) (.slice S.A7 G.us.length S.c7) (.slice S.A8 G.ms.length S.c8) (.bool G.b9) (.slice S.A10 G.vs.length S.c10) K4_g.out).2
  have K6_g : Aside0 (w_5.heap[g]? = some (.cells #[.string G.m, .bool G.b1, .bool G.b2, .bool G.b3, .bool G.b4, .bool G.b5, .bool G.b6, .slice S.A7 G.us.length S.c7, .slice S.A8 G.ms.length S.c8, .bool G.b9, .slice S.A10 G.vs.length S.c10] 25 (0, 0))) := ⟨by rw [← hw_]; exact (flt_at g w_3 (.string G.m) (.bool G.b1) (.bool G.b2) (.bool G.b3) (.bool G.b4) (.bool G.b5) (.bool G.b6) (.slice S.A7 G.us.length S.c7) (.slice S.A8 G.ms.length S.c8) (.bool G.b9) (.slice S.A10 G.vs.length S.c10) K4_g.out).1⟩
  rw [hw_]
  clear hw_
  have B6 := Aside0.mk (B4.out.trans (hu_.toBelow (B := w.heap.size) (fun k hk => by rw [hk]; exact G_g.out) (B4.out).size))
  clear hu_ B4 K4_g
  have pc0 : w_5.cell? ⟨g, 0, none⟩ = some (.string G.m) := (blk_cell K6_g.out 0).trans rfl
  have pc1 : w_5.cell? ⟨g, 1, none⟩ = some (.bool G.b1) := (blk_cell K6_g.out 1).trans rfl
  have pc2 : w_5.cell? ⟨g, 2, none⟩ = some (.bool G.b2) := (blk_cell K6_g.out 2).trans rfl
  have pc3 : w_5.cell? ⟨g, 3, none⟩ = some (.bool G.b3) := (blk_cell K6_g.out 3).trans rfl
  have pc4 : w_5.cell? ⟨g, 4, none⟩ = some (.bool G.b4) := (blk_cell K6_g.out 4).trans rfl
  have pc5 : w_5.cell? ⟨g, 5, none⟩ = some (.bool G.b5) := (blk_cell K6_g.out 5).trans rfl
  have pc6 : w_5.cell? ⟨g, 6, none⟩ = some (.bool G.b6) := (blk_cell K6_g.out 6).trans rfl
  have pc7 : w_5.cell? ⟨g, 7, none⟩ = some (.slice S.A7 G.us.length S.c7) := (blk_cell K6_g.out 7).trans rfl
  have pc8 : w_5.cell? ⟨g, 8, none⟩ = some (.slice S.A8 G.ms.length S.c8) := (blk_cell K6_g.out 8).trans rfl
  have pc9 : w_5.cell? ⟨g, 9, none⟩ = some (.bool G.b9) := (blk_cell K6_g.out 9).trans rfl
  have pc10 : w_5.cell? ⟨g, 10, none⟩ = some (.slice S.A10 G.vs.length S.c10) := (blk_cell K6_g.out 10).trans rfl
  go_wp2_with fail
  clear pc0 pc1 pc2 pc3 pc4 pc5 pc6 pc7 pc8 pc9 pc10
  obtain ⟨b, hb_⟩ : ∃ b, adm G s = b := ⟨_, rfl⟩
  have HA := Aside0.mk hb_
  clear hb_
  refine (adm_at G S s w_5 HA.out (HG.out.below B6.out) SM.out).mono ?_
  rintro e w_7 ⟨rfl, hb_⟩
  have B8 := Aside0.mk (below_step B6.out hb_)
  have K8_g := Aside0.mk (blk_below K6_g.out hb_)
  clear hb_ B6 K6_g
  cases b with
  | false =>
    skip
    go_wp2_with fail
    refine (fixed_f w_7).mono ?_
    rintro e w_9 ⟨rfl, hb_⟩
    have B10 := Aside0.mk (below_step B8.out hb_)
    have K10_g := Aside0.mk (blk_below K8_g.out hb_)
    clear hb_ B8 K8_g
    go_wp2
    go_ret
    exact ⟨rfl, B10.out⟩
  | true =>
    skip
    have pc0 : w_7.cell? ⟨g, 0, none⟩ = some (.string G.m) := (blk_cell K8_g.out 0).trans rfl
    have pc1 : w_7.cell? ⟨g, 1, none⟩ = some (.bool G.b1) := (blk_cell K8_g.out 1).trans rfl
    have pc2 : w_7.cell? ⟨g, 2, none⟩ = some (.bool G.b2) := (blk_cell K8_g.out 2).trans rfl
    have pc3 : w_7.cell? ⟨g, 3, none⟩ = some (.bool G.b3) := (blk_cell K8_g.out 3).trans rfl
    have pc4 : w_7.cell? ⟨g, 4, none⟩ = some (.bool G.b4) := (blk_cell K8_g.out 4).trans rfl
    have pc5 : w_7.cell? ⟨g, 5, none⟩ = some (.bool G.b5) := (blk_cell K8_g.out 5).trans rfl
    have pc6 : w_7.cell? ⟨g, 6, none⟩ = some (.bool G.b6) := (blk_cell K8_g.out 6).trans rfl
    have pc7 : w_7.cell? ⟨g, 7, none⟩ = some (.slice S.A7 G.us.length S.c7) := (blk_cell K8_g.out 7).trans rfl
    have pc8 : w_7.cell? ⟨g, 8, none⟩ = some (.slice S.A8 G.ms.length S.c8) := (blk_cell K8_g.out 8).trans rfl
    have pc9 : w_7.cell? ⟨g, 9, none⟩ = some (.bool G.b9) := (blk_cell K8_g.out 9).trans rfl
    have pc10 : w_7.cell? ⟨g, 10, none⟩ = some (.slice S.A10 G.vs.length S.c10) := (blk_cell K8_g.out 10).trans rfl
    go_upto_region 5 with (fail)
    clear pc0 pc1 pc2 pc3 pc4 pc5 pc6 pc7 pc8 pc9 pc10
    obtain ⟨w_9, hw_⟩ : ∃ w_, w_7.alloc (.cells #[.string G.m, .bool G.b1, .bool G.b2, .bool G.b3, .bool G.b4, .bool G.b5, .bool G.b6, .slice S.A7 G.us.length S.c7, .slice S.A8 G.ms.length S.c8, .bool G.b9, .slice S.A10 G.vs.length S.c10, .string G.m, .bool G.b1, .bool G.b2, .bool G.b3, .bool G.b4, .bool G.b5, .bool G.b6, .slice S.A7 G.us.length S.c7, .slice S.A8 G.ms.length S.c8, .bool G.b9, .slice S.A10 G.vs.length S.c10, .string G.m, .bool G.b1, .bool G.b2, .bool G.b3, .bool G.b4, .bool G.b5, .bool G.b6, .slice S.A7 G.us.length S.c7, .slice S.A8 G.ms.length S.c8, .bool G.b9, .slice S.A10 G.vs.length S.c10, .string G.m, .bool G.b1, .bool G.b2, .bool G.b3, .bool G.b4, .bool G.b5, .bool G.b6, .slice S.A7 G.us.length S.c7, .slice S.A8 G.ms.length S.c8, .bool G.b9, .slice S.A10 G.vs.length S.c10, .string G.m, .bool G.b1, .bool G.b2, .bool G.b3, .bool G.b4, .bool G.b5, .bool G.b6, .slice S.A7 G.us.length S.c7, .slice S.A8 G.ms.length S.c8, .bool G.b9, .slice S.A10 G.vs.length S.c10, .string G.m, .bool G.b1, .bool G.b2, .bool G.b3, .bool G.b4, .bool G.b5, .bool G.b6, .slice S.A7 G.us.length S.c7, .slice S.A8 G.ms.length S.c8, .bool G.b9, .slice S.A10 G.vs.length S.c10] 25) = w_ := ⟨_, rfl⟩
    have ha_ : Below w_7.heap.size w_7 w_9 := by rw [← hw_]; exact below_alloc (Below.refl _ _) _
    have BX9 : Aside0 (w_9.heap[w_7.heap.size]? = some (.cells #[.string G.m, .bool G.b1, .bool G.b2, .bool G.b3, .bool G.b4, .bool G.b5, .bool G.b6, .slice S.A7 G.us.length S.c7, .slice S.A8 G.ms.length S.c8, .bool G.b9, .slice S.A10 G.vs.length S.c10, .string G.m, .bool G.b1, .bool G.b2, .bool G.b3, .bool G.b4, .bool G.b5, .bool G.b6, .slice S.A7 G.us.length S.c7, .slice S.A8 G.ms.length S.c8, .bool G.b9, .slice S.A10 G.vs.length S.c10, .string G.m, .bool G.b1, .bool G.b2, .bool G.b3, .bool G.b4, .bool G.b5, .bool G.b6, .slice S.A7 G.us.length S.c7, .slice S.A8 G.ms.length S.c8, .bool G.b9, .slice S.A10 G.vs.length S.c10, .string G.m, .bool G.b1, .bool G.b2, .bool G.b3, .bool G.b4, .bool G.b5, .bool G.b6, .slice S.A7 G.us.length S.c7, .slice S.A8 G.ms.length S.c8, .bool G.b9, .slice S.A10 G.vs.length S.c10, .string G.m, .bool G.b1, .bool G.b2, .bool G.b3, .bool G.b4, .bool G.b5, .bool G.b6, .slice S.A7 G.us.length S.c7, .slice S.A8 G.ms.length S.c8, .bool G.b9, .slice S.A10 G.vs.length S.c10, .string G.m, .bool G.b1, .bool G.b2, .bool G.b3, .bool G.b4, .bool G.b5, .bool G.b6, .slice S.A7 G.us.length S.c7, .slice S.A8 G.ms.length S.c8, .bool G.b9, .slice S.A10 G.vs.length S.c10] 25 (0, 0))) := ⟨by rw [← hw_]; exact blk_new w_7 _⟩
    have hgB : w.heap.size ≤ w_7.heap.size := (B8.out).size
    have hl_g : g < w_7.heap.size := blk_lt K8_g.out
    rw [hw_]
    clear hw_
    obtain ⟨bl, hg_⟩ : ∃ g_, w_7.heap.size = g_ := ⟨_, rfl⟩
    have G_bl : Aside0 (w.heap.size ≤ bl) := ⟨Nat.le_trans hgB (Nat.le_of_eq hg_)⟩
    rw [hg_] at BX9 hl_g
    rw [hg_]
    clear hg_ hgB
    have E_g_bl := Aside0.mk hl_g
    clear hl_g
    have B10 := Aside0.mk (below_step B8.out ha_)
    have K10_g := Aside0.mk (blk_below K8_g.out ha_)
    clear ha_ B8 K8_g
    have pc1 : w_9.cell? ⟨bl, 1, none⟩ = some (.bool G.b1) := (blk_cell BX9.out 1).trans rfl
    have pf1 := blk_frozen BX9.out 1
    go_upto_region 6 with (fail)
    clear pc1 pf1
    obtain ⟨w_11, hw_⟩ : ∃ w_, w_9.setCell ⟨bl, 1, none⟩ (.bool true) = w_ := ⟨_, rfl⟩
    have hu_ : Upd w_9 w_11 (fun k => k = bl) := by rw [← hw_]; exact (Upd.refl w_9 (fun k => k = bl)).set (p := ⟨bl, 1, none⟩) (.inl rfl) _
    have K12_bl : Aside0 (w_11.heap[bl]? = some (.cells #[.string G.m, .bool true, .bool G.b2, .bool G.b3, .bool G.b4, .bool G.b5, .bool G.b6, .slice S.A7 G.us.length S.c7, .slice S.A8 G.ms.length S.c8, .bool G.b9, .slice S.A10 G.vs.length S.c10, .string G.m, .bool G.b1, .bool G.b2, .bool G.b3, .bool G.b4, .bool G.b5, .bool G.b6, .slice S.A7 G.us.length S.c7, .slice S.A8 G.ms.length S.c8, .bool G.b9, .slice S.A10 G.vs.length S.c10, .string G.m, .bool G.b1, .bool G.b2, .bool G.b3, .bool G.b4, .bool G.b5, .bool G.b6, .slice S.A7 G.us.length S.c7, .slice S.A8 G.ms.length S.c8, .bool G.b9, .slice S.A10 G.vs.length S.c10, .string G.m, .bool G.b1, .bool G.b2, .bool G.b3, .bool G.b4, .bool G.b5, .bool G.b6, .slice S.A7 G.us.length S.c7, .slice S.A8 G.ms.length S.c8, .bool G.b9, .slice S.A10 G.vs.length S.c10, .string G.m, .bool G.b1, .bool G.b2, .bool G.b3, .bool G.b4, .bool G.b5, .bool G.b6, .slice S.A7 G.us.length S.c7, .slice S.A8 G.ms.length S.c8, .bool G.b9, .slice S.A10 G.vs.length S.c10, .string G.m, .bool G.b1, .bool G.b2, .bool G.b3, .bool G.b4, .bool G.b5, .bool G.b6, .slice S.A7 G.us.length S.c7, .slice S.A8 G.ms.length S.c8, .bool G.b9, .slice S.A10 G.vs.length S.c10] 25 (0, 0))) := ⟨by rw [← hw_]; exact blk_put (cs := #[.string G.m, .bool G.b1, .bool G.b2, .bool G.b3, .bool G.b4, .bool G.b5, .bool G.b6, .slice S.A7 G.us.length S.c7, .slice S.A8 G.ms.length S.c8, .bool G.b9, .slice S.A10 G.vs.length S.c10, .string G.m, .bool G.b1, .bool G.b2, .bool G.b3, .bool G.b4, .bool G.b5, .bool G.b6, .slice S.A7 G.us.length S.c7, .slice S.A8 G.ms.length S.c8, .bool G.b9, .slice S.A10 G.vs.length S.c10, .string G.m, .bool G.b1, .bool G.b2, .bool G.b3, .bool G.b4, .bool G.b5, .bool G.b6, .slice S.A7 G.us.length S.c7, .slice S.A8 G.ms.length S.c8, .bool G.b9, .slice S.A10 G.vs.length S.c10, .string G.m, .bool G.b1, .bool G.b2, .bool G.b3, .bool G.b4, .bool G.b5, .bool G.b6, .slice S.A7 G.us.length S.c7, .slice S.A8 G.ms.length S.c8, .bool G.b9, .slice S.A10 G.vs.length S.c10, .string G.m, .bool G.b1, .bool G.b2, .bool G.b3, .bool G.b4, .bool G.b5, .bool G.b6, .slice S.A7 G.us.length S.c7, .slice S.A8 G.ms.length S.c8, .bool G.b9, .slice S.A10 G.vs.length S.c10, .string G.m, .bool G.b1, .bool G.b2, .bool G.b3, .bool G.b4, .bool G.b5, .bool G.b6, .slice S.A7 G.us.length S.c7, .slice S.A8 G.ms.length S.c8, .bool G.b9, .slice S.A10 G.vs.length S.c10]) BX9.out 1 _ rfl⟩
    rw [hw_]
    clear hw_
    have B12 := Aside0.mk (B10.out.trans (hu_.toBelow (B := w.heap.size) (fun k hk => by rw [hk]; exact G_bl.out) (B10.out).size))
    have K12_g := Aside0.mk (hu_.blk K10_g.out (by have := E_g_bl.out; omega))
    clear hu_ B10 K10_g BX9
    have pc13 : w_11.cell? ⟨bl, 13, none⟩ = some (.bool G.b2) := (blk_cell K12_bl.out 13).trans rfl
    have pf13 := blk_frozen K12_bl.out 13
    go_upto_region 7 with (fail)
    clear pc13 pf13
    obtain ⟨w_13, hw_⟩ : ∃ w_, w_11.setCell ⟨bl, 13, none⟩ (.bool true) = w_ := ⟨_, rfl⟩
    have hu_ : Upd w_11 w_13 (fun k => k = bl) := by rw [← hw_]; exact (Upd.refl w_11 (fun k => k = bl)).set (p := ⟨bl, 13, none⟩) (.inl rfl) _
    have K14_bl : Aside0 (w_13.heap[bl]? = some (.cells #[.string G.m, .bool true, .bool G.b2, .bool G.b3, .bool G.b4, .bool G.b5, .bool G.b6, .slice S.A7 G.us.length S.c7, .slice S.A8 G.ms.length S.c8, .bool G.b9, .slice S.A10 G.vs.length S.c10, .string G.m, .bool G.b1, .bool true, .bool G.b3, .bool G.b4, .bool G.b5, .bool G.b6, .slice S.A7 G.us.length S.c7, .slice S.A8 G.ms.length S.c8, .bool G.b9, .slice S.A10 G.vs.length S.c10, .string G.m, .bool G.b1, .bool G.b2, .bool G.b3, .bool G.b4, .bool G.b5, .bool G.b6, .slice S.A7 G.us.length S.c7, .slice S.A8 G.ms.length S.c8, .bool G.b9, .slice S.A10 G.vs.length S.c10, .string G.m, .bool G.b1, .bool G.b2, .bool G.b3, .bool G.b4, .bool G.b5, .bool G.b6, .slice S.A7 G.us.length S.c7, .slice S.A8 G.ms.length S.c8, .bool G.b9, .slice S.A10 G.vs.length S.c10, .string G.m, .bool G.b1, .bool G.b2, .bool G.b3, .bool G.b4, .bool G.b5, .bool G.b6, .slice S.A7 G.us.length S.c7, .slice S.A8 G.ms.length S.c8, .bool G.b9, .slice S.A10 G.vs.length S.c10, .string G.m, .bool G.b1, .bool G.b2, .bool G.b3, .bool G.b4, .bool G.b5, .bool G.b6, .slice S.A7 G.us.length S.c7, .slice S.A8 G.ms.length S.c8, .bool G.b9, .slice S.A10 G.vs.length S.c10] 25 (0, 0))) := ⟨by rw [← hw_]; exact blk_put (cs := #[.string G.m, .bool true, .bool G.b2, .bool G.b3, .bool G.b4, .bool G.b5, .bool G.b6, .slice S.A7 G.us.length S.c7, .slice S.A8 G.ms.length S.c8, .bool G.b9, .slice S.A10 G.vs.length S.c10, .string G.m, .bool G.b1, .bool G.b2, .bool G.b3, .bool G.b4, .bool G.b5, .bool G.b6, .slice S.A7 G.us.length S.c7, .slice S.A8 G.ms.length S.c8, .bool G.b9, .slice S.A10 G.vs.length S.c10, .string G.m, .bool G.b1, .bool G.b2, .bool G.b3, .bool G.b4, .bool G.b5, .bool G.b6, .slice S.A7 G.us.length S.c7, .slice S.A8 G.ms.length S.c8, .bool G.b9, .slice S.A10 G.vs.length S.c10, .string G.m, .bool G.b1, .bool G.b2, .bool G.b3, .bool G.b4, .bool G.b5, .bool G.b6, .slice S.A7 G.us.length S.c7, .slice S.A8 G.ms.length S.c8, .bool G.b9, .slice S.A10 G.vs.length S.c10, .string G.m, .bool G.b1, .bool G.b2, .bool G.b3, .bool G.b4, .bool G.b5, .bool G.b6, .slice S.A7 G.us.length S.c7, .slice S.A8 G.ms.length S.c8, .bool G.b9, .slice S.A10 G.vs.length S.c10, .string G.m, .bool G.b1, .bool G.b2, .bool G.b3, .bool G.b4, .bool G.b5, .bool G.b6, .slice S.A7 G.us.length S.c7, .slice S.A8 G.ms.length S.c8, .bool G.b9, .slice S.A10 G.vs.length S.c10]) K12_bl.out 13 _ rfl⟩
    rw [hw_]
    clear hw_
    have B14 := Aside0.mk (B12.out.trans (hu_.toBelow (B := w.heap.size) (fun k hk => by rw [hk]; exact G_bl.out) (B12.out).size))
    have K14_g := Aside0.mk (hu_.blk K12_g.out (by have := E_g_bl.out; omega))
    clear hu_ B12 K12_g K12_bl
    have pc25 : w_13.cell? ⟨bl, 25, none⟩ = some (.bool G.b3) := (blk_cell K14_bl.out 25).trans rfl
    have pf25 := blk_frozen K14_bl.out 25
    go_upto_region 8 with (fail)
    clear pc25 pf25
    obtain ⟨w_15, hw_⟩ : ∃ w_, w_13.setCell ⟨bl, 25, none⟩ (.bool true) = w_ := ⟨_, rfl⟩
    have hu_ : Upd w_13 w_15 (fun k => k = bl) := by rw [← hw_]; exact (Upd.refl w_13 (fun k => k = bl)).set (p := ⟨bl, 25, none⟩) (.inl rfl) _
    have K16_bl : Aside0 (w_15.heap[bl]? = some (.cells #[.string G.m, .bool true, .bool G.b2, .bool G.b3, .bool G.b4, .bool G.b5, .bool G.b6, .slice S.A7 G.us.length S.c7, .slice S.A8 G.ms.length S.c8, .bool G.b9, .slice S.A10 G.vs.length S.c10, .string G.m, .bool G.b1, .bool true, .bool G.b3, .bool G.b4, .bool G.b5, .bool G.b6, .slice S.A7 G.us.length S.c7, .slice S.A8 G.ms.length S.c8, .bool G.b9, .slice S.A10 G.vs.length S.c10, .string G.m, .bool G.b1, .bool G.b2, .bool true, .bool G.b4, .bool G.b5, .bool G.b6, .slice S.A7 G.us.length S.c7, .slice S.A8 G.ms.length S.c8, .bool G.b9, .slice S.A10 G.vs.length S.c10, .string G.m, .bool G.b1, .bool G.b2, .bool G.b3, .bool G.b4, .bool G.b5, .bool G.b6, .slice S.A7 G.us.length S.c7, .slice S.A8 G.ms.length S.c8, .bool G.b9, .slice S.A10 G.vs.length S.c10, .string G.m, .bool G.b1, .bool G.b2, .bool G.b3, .bool G.b4, .bool G.b5, .bool G.b6, .slice S.A7 G.us.length S.c7, .slice S.A8 G.ms.length S.c8, .bool G.b9, .slice S.A10 G.vs.length S.c10, .string G.m, .bool G.b1, .bool G.b2, .bool G.b3, .bool G.b4, .bool G.b5, .bool G.b6, .slice S.A7 G.us.length S.c7, .slice S.A8 G.ms.length S.c8, .bool G.b9, .slice S.A10 G.vs.length S.c10] 25 (0, 0))) := ⟨by rw [← hw_]; exact blk_put (cs := #[.string G.m, .bool true, .bool G.b2, .bool G.b3, .bool G.b4, .bool G.b5, .bool G.b6, .slice S.A7 G.us.length S.c7, .slice S.A8 G.ms.length S.c8, .bool G.b9, .slice S.A10 G.vs.length S.c10, .string G.m, .bool G.b1, .bool true, .bool G.b3, .bool G.b4, .bool G.b5, .bool G.b6, .slice S.A7 G.us.length S.c7, .slice S.A8 G.ms.length S.c8, .bool G.b9, .slice S.A10 G.vs.length S.c10, .string G.m, .bool G.b1, .bool G.b2, .bool G.b3, .bool G.b4, .bool G.b5, .bool G.b6, .slice S.A7 G.us.length S.c7, .slice S.A8 G.ms.length S.c8, .bool G.b9, .slice S.A10 G.vs.length S.c10, .string G.m, .bool G.b1, .bool G.b2, .bool G.b3, .bool G.b4, .bool G.b5, .bool G.b6, .slice S.A7 G.us.length S.c7, .slice S.A8 G.ms.length S.c8, .bool G.b9, .slice S.A10 G.vs.length S.c10, .string G.m, .bool G.b1, .bool G.b2, .bool G.b3, .bool G.b4, .bool G.b5, .bool G.b6, .slice S.A7 G.us.length S.c7, .slice S.A8 G.ms.length S.c8, .bool G.b9, .slice S.A10 G.vs.length S.c10, .string G.m, .bool G.b1, .bool G.b2, .bool G.b3, .bool G.b4, .bool G.b5, .bool G.b6, .slice S.A7 G.us.length S.c7, .slice S.A8 G.ms.length S.c8, .bool G.b9, .slice S.A10 G.vs.length S.c10]) K14_bl.out 25 _ rfl⟩
    rw [hw_]
    clear hw_
    have B16 := Aside0.mk (B14.out.trans (hu_.toBelow (B := w.heap.size) (fun k hk => by rw [hk]; exact G_bl.out) (B14.out).size))
    have K16_g := Aside0.mk (hu_.blk K14_g.out (by have := E_g_bl.out; omega))
    clear hu_ B14 K14_g K14_bl
    have pc7 : w_15.cell? ⟨g, 7, none⟩ = some (.slice S.A7 G.us.length S.c7) := (blk_cell K16_g.out 7).trans rfl
    have a4 : ∀ o, (w_15.alloc o).cell? ⟨g, 7, none⟩ = some (.slice S.A7 G.us.length S.c7) := fun o => (blk_cell (blk_alloc K16_g.out o) 7).trans rfl
    have HR := Aside0.mk ((HG.out.below B16.out).r7)
    have la : G.us.length ≤ 100000 := SM.out.1
    go_upto_region 9 with (first
      | (at_builtin; refine print_append_row_of (w0 := w_15) Value.string ByteArray.empty w_15.heap.size rfl (.tmp 33) (.tmp 35) 22 9 (.string ByteArray.empty) 16 rfl Try.underlying22 infoG rfl (by decide) (fun _ => rfl) (.slice (some ⟨w_15.heap.size, 0, none⟩) 0 0) [] G.us S.A7 G.us.length S.c7 rfl rfl ?c1 ?c2 ?c3 ?c4 ?c5 ?_; (case c1 => exact own_empty9 w_15 w_15.heap.size (Nat.le_refl _)); (case c2 => exact HR.out.below (below_alloc (Below.refl _ _) _)); (case c3 => exact below_alloc (Below.refl _ _) _); (case c4 => simp); (case c5 => simp only [List.length_nil]; omega); intro v1 wy ho1 hb1 hg1 hf1; have HO1 := Aside0.mk ho1; have HB1 := Aside0.mk hb1; obtain ⟨A1, c1_, rfl⟩ := own_slice ho1; simp only [List.nil_append] at HO1; clear ho1 hb1 hg1 hf1)
      | (at_builtin; refine print_append_of (w0 := w_15) Value.string w_15.heap.size rfl (.tmp 36) (.tmp 38) 22 9 (.string ByteArray.empty) 16 rfl Try.underlying22 infoG rfl (by decide) (.slice A1 G.us.length c1_) G.us mac rfl rfl rfl HO1.out HB1.out HB1.out.size (by omega) ?_; intro v2 wzu ho2 hb2 hg2 hf2; obtain ⟨A2u, c2u, rfl⟩ := own_slice ho2; have NL := Aside0.mk (blk_below K16_bl.out hb2); have hc2 := (blk_cell NL.out 40).trans rfl; have hz2 := blk_frozen NL.out 40; have HO2 := Aside0.mk ho2; have HB2 := Aside0.mk hb2; clear ho2 hb2 hg2 hf2))
    clear pc7
    have hb_ := HB2.out
    have OU_ := R9.mk HO2.out
    clear a4 HR la HO1 HB1 hc2 hz2 NL HO2 HB2
    have B17 := Aside0.mk (below_step B16.out hb_)
    have K17_g := Aside0.mk (blk_below K16_g.out hb_)
    have K17_bl := Aside0.mk (blk_below K16_bl.out hb_)
    clear hb_ B16 K16_g K16_bl
    have OV_Uu := Aside0.mk (OU_)
    clear OU_
    obtain ⟨w_18, hw_⟩ : ∃ w_, wzu.setCell ⟨bl, 40, none⟩ (.slice A2u (G.us.length + 1) c2u) = w_ := ⟨_, rfl⟩
    have hu_ : Upd wzu w_18 (fun k => k = bl) := by rw [← hw_]; exact (Upd.refl wzu (fun k => k = bl)).set (p := ⟨bl, 40, none⟩) (.inl rfl) _
    have K19_bl : Aside0 (w_18.heap[bl]? = some (.cells #[.string G.m, .bool true, .bool G.b2, .bool G.b3, .bool G.b4, .bool G.b5, .bool G.b6, .slice S.A7 G.us.length S.c7, .slice S.A8 G.ms.length S.c8, .bool G.b9, .slice S.A10 G.vs.length S.c10, .string G.m, .bool G.b1, .bool true, .bool G.b3, .bool G.b4, .bool G.b5, .bool G.b6, .slice S.A7 G.us.length S.c7, .slice S.A8 G.ms.length S.c8, .bool G.b9, .slice S.A10 G.vs.length S.c10, .string G.m, .bool G.b1, .bool G.b2, .bool true, .bool G.b4, .bool G.b5, .bool G.b6, .slice S.A7 G.us.length S.c7, .slice S.A8 G.ms.length S.c8, .bool G.b9, .slice S.A10 G.vs.length S.c10, .string G.m, .bool G.b1, .bool G.b2, .bool G.b3, .bool G.b4, .bool G.b5, .bool G.b6, .slice A2u (G.us.length + 1) c2u, .slice S.A8 G.ms.length S.c8, .bool G.b9, .slice S.A10 G.vs.length S.c10, .string G.m, .bool G.b1, .bool G.b2, .bool G.b3, .bool G.b4, .bool G.b5, .bool G.b6, .slice S.A7 G.us.length S.c7, .slice S.A8 G.ms.length S.c8, .bool G.b9, .slice S.A10 G.vs.length S.c10, .string G.m, .bool G.b1, .bool G.b2, .bool G.b3, .bool G.b4, .bool G.b5, .bool G.b6, .slice S.A7 G.us.length S.c7, .slice S.A8 G.ms.length S.c8, .bool G.b9, .slice S.A10 G.vs.length S.c10] 25 (0, 0))) := ⟨by rw [← hw_]; exact blk_put (cs := #[.string G.m, .bool true, .bool G.b2, .bool G.b3, .bool G.b4, .bool G.b5, .bool G.b6, .slice S.A7 G.us.length S.c7, .slice S.A8 G.ms.length S.c8, .bool G.b9, .slice S.A10 G.vs.length S.c10, .string G.m, .bool G.b1, .bool true, .bool G.b3, .bool G.b4, .bool G.b5, .bool G.b6, .slice S.A7 G.us.length S.c7, .slice S.A8 G.ms.length S.c8, .bool G.b9, .slice S.A10 G.vs.length S.c10, .string G.m, .bool G.b1, .bool G.b2, .bool true, .bool G.b4, .bool G.b5, .bool G.b6, .slice S.A7 G.us.length S.c7, .slice S.A8 G.ms.length S.c8, .bool G.b9, .slice S.A10 G.vs.length S.c10, .string G.m, .bool G.b1, .bool G.b2, .bool G.b3, .bool G.b4, .bool G.b5, .bool G.b6, .slice S.A7 G.us.length S.c7, .slice S.A8 G.ms.length S.c8, .bool G.b9, .slice S.A10 G.vs.length S.c10, .string G.m, .bool G.b1, .bool G.b2, .bool G.b3, .bool G.b4, .bool G.b5, .bool G.b6, .slice S.A7 G.us.length S.c7, .slice S.A8 G.ms.length S.c8, .bool G.b9, .slice S.A10 G.vs.length S.c10, .string G.m, .bool G.b1, .bool G.b2, .bool G.b3, .bool G.b4, .bool G.b5, .bool G.b6, .slice S.A7 G.us.length S.c7, .slice S.A8 G.ms.length S.c8, .bool G.b9, .slice S.A10 G.vs.length S.c10]) K17_bl.out 40 _ rfl⟩
    rw [hw_]
    clear hw_
    have B19 := Aside0.mk (B17.out.trans (hu_.toBelow (B := w.heap.size) (fun k hk => by rw [hk]; exact G_bl.out) (B17.out).size))
    have K19_g := Aside0.mk (hu_.blk K17_g.out (by have := E_g_bl.out; omega))
    have O19_Uu := Aside0.mk (OV_Uu.out.box K17_bl.out hu_)
    clear hu_ B17 K17_g OV_Uu K17_bl
    have pc8 : w_18.cell? ⟨g, 8, none⟩ = some (.slice S.A8 G.ms.length S.c8) := (blk_cell K19_g.out 8).trans rfl
    have a4 : ∀ o, (w_18.alloc o).cell? ⟨g, 8, none⟩ = some (.slice S.A8 G.ms.length S.c8) := fun o => (blk_cell (blk_alloc K19_g.out o) 8).trans rfl
    have HR := Aside0.mk ((HG.out.below B19.out).r8)
    have la : G.ms.length ≤ 100000 := SM.out.2.1
    go_upto_region 10 with (first
      | (at_builtin; refine print_append_row_of (w0 := w_18) Value.string ByteArray.empty w_18.heap.size rfl (.tmp 43) (.tmp 45) 22 9 (.string ByteArray.empty) 16 rfl Try.underlying22 infoG rfl (by decide) (fun _ => rfl) (.slice (some ⟨w_18.heap.size, 0, none⟩) 0 0) [] G.ms S.A8 G.ms.length S.c8 rfl rfl ?c1 ?c2 ?c3 ?c4 ?c5 ?_; (case c1 => exact own_empty9 w_18 w_18.heap.size (Nat.le_refl _)); (case c2 => exact HR.out.below (below_alloc (Below.refl _ _) _)); (case c3 => exact below_alloc (Below.refl _ _) _); (case c4 => simp); (case c5 => simp only [List.length_nil]; omega); intro v1 wy ho1 hb1 hg1 hf1; have HO1 := Aside0.mk ho1; have HB1 := Aside0.mk hb1; obtain ⟨A1, c1_, rfl⟩ := own_slice ho1; simp only [List.nil_append] at HO1; clear ho1 hb1 hg1 hf1)
      | (at_builtin; refine print_append_of (w0 := w_18) Value.string w_18.heap.size rfl (.tmp 46) (.tmp 48) 22 9 (.string ByteArray.empty) 16 rfl Try.underlying22 infoG rfl (by decide) (.slice A1 G.ms.length c1_) G.ms mac rfl rfl rfl HO1.out HB1.out HB1.out.size (by omega) ?_; intro v2 wzm ho2 hb2 hg2 hf2; obtain ⟨A2m, c2m, rfl⟩ := own_slice ho2; have NL := Aside0.mk (blk_below K19_bl.out hb2); have hc2 := (blk_cell NL.out 52).trans rfl; have hz2 := blk_frozen NL.out 52; have HO2 := Aside0.mk ho2; have HB2 := Aside0.mk hb2; clear ho2 hb2 hg2 hf2))
    clear pc8
    have hb_ := HB2.out
    have OU_ := R9.mk HO2.out
    clear a4 HR la HO1 HB1 hc2 hz2 NL HO2 HB2
    have B20 := Aside0.mk (below_step B19.out hb_)
    have K20_g := Aside0.mk (blk_below K19_g.out hb_)
    have K20_bl := Aside0.mk (blk_below K19_bl.out hb_)
    have O20_Uu := Aside0.mk (O19_Uu.out.below hb_)
    clear hb_ B19 K19_g K19_bl O19_Uu
    have OV_Um := Aside0.mk (OU_)
    clear OU_
    obtain ⟨w_21, hw_⟩ : ∃ w_, wzm.setCell ⟨bl, 52, none⟩ (.slice A2m (G.ms.length + 1) c2m) = w_ := ⟨_, rfl⟩
    have hu_ : Upd wzm w_21 (fun k => k = bl) := by rw [← hw_]; exact (Upd.refl wzm (fun k => k = bl)).set (p := ⟨bl, 52, none⟩) (.inl rfl) _
    have K22_bl : Aside0 (w_21.heap[bl]? = some (.cells #[.string G.m, .bool true, .bool G.b2, .bool G.b3, .bool G.b4, .bool G.b5, .bool G.b6, .slice S.A7 G.us.length S.c7, .slice S.A8 G.ms.length S.c8, .bool G.b9, .slice S.A10 G.vs.length S.c10, .string G.m, .bool G.b1, .bool true, .bool G.b3, .bool G.b4, .bool G.b5, .bool G.b6, .slice S.A7 G.us.length S.c7, .slice S.A8 G.ms.length S.c8, .bool G.b9, .slice S.A10 G.vs.length S.c10, .string G.m, .bool G.b1, .bool G.b2, .bool true, .bool G.b4, .bool G.b5, .bool G.b6, .slice S.A7 G.us.length S.c7, .slice S.A8 G.ms.length S.c8, .bool G.b9, .slice S.A10 G.vs.length S.c10, .string G.m, .bool G.b1, .bool G.b2, .bool G.b3, .bool G.b4, .bool G.b5, .bool G.b6, .slice A2u (G.us.length + 1) c2u, .slice S.A8 G.ms.length S.c8, .bool G.b9, .slice S.A10 G.vs.length S.c10, .string G.m, .bool G.b1, .bool G.b2, .bool G.b3, .bool G.b4, .bool G.b5, .bool G.b6, .slice S.A7 G.us.length S.c7, .slice A2m (G.ms.length + 1) c2m, .bool G.b9, .slice S.A10 G.vs.length S.c10, .string G.m, .bool G.b1, .bool G.b2, .bool G.b3, .bool G.b4, .bool G.b5, .bool G.b6, .slice S.A7 G.us.length S.c7, .slice S.A8 G.ms.length S.c8, .bool G.b9, .slice S.A10 G.vs.length S.c10] 25 (0, 0))) := ⟨by rw [← hw_]; exact blk_put (cs := #[.string G.m, .bool true, .bool G.b2, .bool G.b3, .bool G.b4, .bool G.b5, .bool G.b6, .slice S.A7 G.us.length S.c7, .slice S.A8 G.ms.length S.c8, .bool G.b9, .slice S.A10 G.vs.length S.c10, .string G.m, .bool G.b1, .bool true, .bool G.b3, .bool G.b4, .bool G.b5, .bool G.b6, .slice S.A7 G.us.length S.c7, .slice S.A8 G.ms.length S.c8, .bool G.b9, .slice S.A10 G.vs.length S.c10, .string G.m, .bool G.b1, .bool G.b2, .bool true, .bool G.b4, .bool G.b5, .bool G.b6, .slice S.A7 G.us.length S.c7, .slice S.A8 G.ms.length S.c8, .bool G.b9, .slice S.A10 G.vs.length S.c10, .string G.m, .bool G.b1, .bool G.b2, .bool G.b3, .bool G.b4, .bool G.b5, .bool G.b6, .slice A2u (G.us.length + 1) c2u, .slice S.A8 G.ms.length S.c8, .bool G.b9, .slice S.A10 G.vs.length S.c10, .string G.m, .bool G.b1, .bool G.b2, .bool G.b3, .bool G.b4, .bool G.b5, .bool G.b6, .slice S.A7 G.us.length S.c7, .slice S.A8 G.ms.length S.c8, .bool G.b9, .slice S.A10 G.vs.length S.c10, .string G.m, .bool G.b1, .bool G.b2, .bool G.b3, .bool G.b4, .bool G.b5, .bool G.b6, .slice S.A7 G.us.length S.c7, .slice S.A8 G.ms.length S.c8, .bool G.b9, .slice S.A10 G.vs.length S.c10]) K20_bl.out 52 _ rfl⟩
    rw [hw_]
    clear hw_
    have B22 := Aside0.mk (B20.out.trans (hu_.toBelow (B := w.heap.size) (fun k hk => by rw [hk]; exact G_bl.out) (B20.out).size))
    have K22_g := Aside0.mk (hu_.blk K20_g.out (by have := E_g_bl.out; omega))
    have O22_Uu := Aside0.mk (O20_Uu.out.box K20_bl.out hu_)
    have O22_Um := Aside0.mk (OV_Um.out.box K20_bl.out hu_)
    clear hu_ B20 K20_g O20_Uu OV_Um K20_bl
    have pc64 : w_21.cell? ⟨bl, 64, none⟩ = some (.bool G.b9) := (blk_cell K22_bl.out 64).trans rfl
    have pf64 := blk_frozen K22_bl.out 64
    go_upto_region 11 with (fail)
    clear pc64 pf64
    obtain ⟨w_23, hw_⟩ : ∃ w_, w_21.setCell ⟨bl, 64, none⟩ (.bool false) = w_ := ⟨_, rfl⟩
    have hu_ : Upd w_21 w_23 (fun k => k = bl) := by rw [← hw_]; exact (Upd.refl w_21 (fun k => k = bl)).set (p := ⟨bl, 64, none⟩) (.inl rfl) _
    have K24_bl : Aside0 (w_23.heap[bl]? = some (.cells #[.string G.m, .bool true, .bool G.b2, .bool G.b3, .bool G.b4, .bool G.b5, .bool G.b6, .slice S.A7 G.us.length S.c7, .slice S.A8 G.ms.length S.c8, .bool G.b9, .slice S.A10 G.vs.length S.c10, .string G.m, .bool G.b1, .bool true, .bool G.b3, .bool G.b4, .bool G.b5, .bool G.b6, .slice S.A7 G.us.length S.c7, .slice S.A8 G.ms.length S.c8, .bool G.b9, .slice S.A10 G.vs.length S.c10, .string G.m, .bool G.b1, .bool G.b2, .bool true, .bool G.b4, .bool G.b5, .bool G.b6, .slice S.A7 G.us.length S.c7, .slice S.A8 G.ms.length S.c8, .bool G.b9, .slice S.A10 G.vs.length S.c10, .string G.m, .bool G.b1, .bool G.b2, .bool G.b3, .bool G.b4, .bool G.b5, .bool G.b6, .slice A2u (G.us.length + 1) c2u, .slice S.A8 G.ms.length S.c8, .bool G.b9, .slice S.A10 G.vs.length S.c10, .string G.m, .bool G.b1, .bool G.b2, .bool G.b3, .bool G.b4, .bool G.b5, .bool G.b6, .slice S.A7 G.us.length S.c7, .slice A2m (G.ms.length + 1) c2m, .bool G.b9, .slice S.A10 G.vs.length S.c10, .string G.m, .bool G.b1, .bool G.b2, .bool G.b3, .bool G.b4, .bool G.b5, .bool G.b6, .slice S.A7 G.us.length S.c7, .slice S.A8 G.ms.length S.c8, .bool false, .slice S.A10 G.vs.length S.c10] 25 (0, 0))) := ⟨by rw [← hw_]; exact blk_put (cs := #[.string G.m, .bool true, .bool G.b2, .bool G.b3, .bool G.b4, .bool G.b5, .bool G.b6, .slice S.A7 G.us.length S.c7, .slice S.A8 G.ms.length S.c8, .bool G.b9, .slice S.A10 G.vs.length S.c10, .string G.m, .bool G.b1, .bool true, .bool G.b3, .bool G.b4, .bool G.b5, .bool G.b6, .slice S.A7 G.us.length S.c7, .slice S.A8 G.ms.length S.c8, .bool G.b9, .slice S.A10 G.vs.length S.c10, .string G.m, .bool G.b1, .bool G.b2, .bool true, .bool G.b4, .bool G.b5, .bool G.b6, .slice S.A7 G.us.length S.c7, .slice S.A8 G.ms.length S.c8, .bool G.b9, .slice S.A10 G.vs.length S.c10, .string G.m, .bool G.b1, .bool G.b2, .bool G.b3, .bool G.b4, .bool G.b5, .bool G.b6, .slice A2u (G.us.length + 1) c2u, .slice S.A8 G.ms.length S.c8, .bool G.b9, .slice S.A10 G.vs.length S.c10, .string G.m, .bool G.b1, .bool G.b2, .bool G.b3, .bool G.b4, .bool G.b5, .bool G.b6, .slice S.A7 G.us.length S.c7, .slice A2m (G.ms.length + 1) c2m, .bool G.b9, .slice S.A10 G.vs.length S.c10, .string G.m, .bool G.b1, .bool G.b2, .bool G.b3, .bool G.b4, .bool G.b5, .bool G.b6, .slice S.A7 G.us.length S.c7, .slice S.A8 G.ms.length S.c8, .bool G.b9, .slice S.A10 G.vs.length S.c10]) K22_bl.out 64 _ rfl⟩
    rw [hw_]
    clear hw_
    have B24 := Aside0.mk (B22.out.trans (hu_.toBelow (B := w.heap.size) (fun k hk => by rw [hk]; exact G_bl.out) (B22.out).size))
    have K24_g := Aside0.mk (hu_.blk K22_g.out (by have := E_g_bl.out; omega))
    have O24_Uu := Aside0.mk (O22_Uu.out.box K22_bl.out hu_)
    have O24_Um := Aside0.mk (O22_Um.out.box K22_bl.out hu_)
    clear hu_ B22 K22_g O22_Uu O22_Um K22_bl
    go_wp2_with fail
    go_loopg [8] 6 (fun gk v8 w' => ∃ i : Int, v8 = .int .i64 i ∧ Aside0 (0 ≤ i ∧ i + gk = 6) ∧ Aside0 (Below w_23.heap.size w_23 w'))
    case atStart => exact ⟨0, rfl, ⟨by omega, by omega⟩, ⟨Below.refl _ _⟩⟩
    case round =>
      obtain ⟨i, rfl, hk, hb⟩ := hrel
      have hkk := hk.out
      have hbr_ := hb.out
      have B25 := Aside0.mk (below_step B24.out hbr_)
      have K25_g := Aside0.mk (blk_below K24_g.out hbr_)
      have K25_bl := Aside0.mk (blk_below K24_bl.out hbr_)
      have O25_Uu := Aside0.mk (O24_Uu.out.below hbr_)
      have O25_Um := Aside0.mk (O24_Um.out.below hbr_)
      clear hbr_ B24 K24_g K24_bl O24_Uu O24_Um
      have hi : i = 0 ∨ i = 1 ∨ i = 2 ∨ i = 3 ∨ i = 4 ∨ i = 5 ∨ i = 6 := by omega
      rcases hi with rfl | rfl | rfl | rfl | rfl | rfl | rfl
      · have pc0 : wr.cell? ⟨bl, 0, none⟩ = some (.string G.m) := (blk_cell K25_bl.out 0).trans rfl
        have pc1 : wr.cell? ⟨bl, 1, none⟩ = some (.bool true) := (blk_cell K25_bl.out 1).trans rfl
        have pc2 : wr.cell? ⟨bl, 2, none⟩ = some (.bool G.b2) := (blk_cell K25_bl.out 2).trans rfl
        have pc3 : wr.cell? ⟨bl, 3, none⟩ = some (.bool G.b3) := (blk_cell K25_bl.out 3).trans rfl
        have pc4 : wr.cell? ⟨bl, 4, none⟩ = some (.bool G.b4) := (blk_cell K25_bl.out 4).trans rfl
        have pc5 : wr.cell? ⟨bl, 5, none⟩ = some (.bool G.b5) := (blk_cell K25_bl.out 5).trans rfl
        have pc6 : wr.cell? ⟨bl, 6, none⟩ = some (.bool G.b6) := (blk_cell K25_bl.out 6).trans rfl
        have pc7 : wr.cell? ⟨bl, 7, none⟩ = some (.slice S.A7 G.us.length S.c7) := (blk_cell K25_bl.out 7).trans rfl
        have pc8 : wr.cell? ⟨bl, 8, none⟩ = some (.slice S.A8 G.ms.length S.c8) := (blk_cell K25_bl.out 8).trans rfl
        have pc9 : wr.cell? ⟨bl, 9, none⟩ = some (.bool G.b9) := (blk_cell K25_bl.out 9).trans rfl
        have pc10 : wr.cell? ⟨bl, 10, none⟩ = some (.slice S.A10 G.vs.length S.c10) := (blk_cell K25_bl.out 10).trans rfl
        go_wp2_with fail
        clear pc0 pc1 pc2 pc3 pc4 pc5 pc6 pc7 pc8 pc9 pc10
        refine (adm_at (growF G mac 0) S s wr (grow_adm mac HA.out 0) (grow_fv mac (HG.out.below B25.out)).1 (GS.out 0)).mono ?_
        rintro e w_26 ⟨rfl, hb_⟩
        have BB := Aside0.mk (below_step hb.out hb_)
        clear hb_
        obtain ⟨kk, rfl⟩ : ∃ m, gk = m + 1 := ⟨gk - 1, by omega⟩
        go_wp2_with fail
        go_roundg kk
        case measure => omega
        case rel => exact ⟨1, rfl, ⟨by omega, by omega⟩, BB⟩
      · have pc11 : wr.cell? ⟨bl, 11, none⟩ = some (.string G.m) := (blk_cell K25_bl.out 11).trans rfl
        have pc12 : wr.cell? ⟨bl, 12, none⟩ = some (.bool G.b1) := (blk_cell K25_bl.out 12).trans rfl
        have pc13 : wr.cell? ⟨bl, 13, none⟩ = some (.bool true) := (blk_cell K25_bl.out 13).trans rfl
        have pc14 : wr.cell? ⟨bl, 14, none⟩ = some (.bool G.b3) := (blk_cell K25_bl.out 14).trans rfl
        have pc15 : wr.cell? ⟨bl, 15, none⟩ = some (.bool G.b4) := (blk_cell K25_bl.out 15).trans rfl
        have pc16 : wr.cell? ⟨bl, 16, none⟩ = some (.bool G.b5) := (blk_cell K25_bl.out 16).trans rfl
        have pc17 : wr.cell? ⟨bl, 17, none⟩ = some (.bool G.b6) := (blk_cell K25_bl.out 17).trans rfl
        have pc18 : wr.cell? ⟨bl, 18, none⟩ = some (.slice S.A7 G.us.length S.c7) := (blk_cell K25_bl.out 18).trans rfl
        have pc19 : wr.cell? ⟨bl, 19, none⟩ = some (.slice S.A8 G.ms.length S.c8) := (blk_cell K25_bl.out 19).trans rfl
        have pc20 : wr.cell? ⟨bl, 20, none⟩ = some (.bool G.b9) := (blk_cell K25_bl.out 20).trans rfl
        have pc21 : wr.cell? ⟨bl, 21, none⟩ = some (.slice S.A10 G.vs.length S.c10) := (blk_cell K25_bl.out 21).trans rfl
        go_wp2_with fail
        clear pc11 pc12 pc13 pc14 pc15 pc16 pc17 pc18 pc19 pc20 pc21
        refine (adm_at (growF G mac 1) S s wr (grow_adm mac HA.out 1) (grow_fv mac (HG.out.below B25.out)).2.1 (GS.out 1)).mono ?_
        rintro e w_26 ⟨rfl, hb_⟩
        have BB := Aside0.mk (below_step hb.out hb_)
        clear hb_
        obtain ⟨kk, rfl⟩ : ∃ m, gk = m + 1 := ⟨gk - 1, by omega⟩
        go_wp2_with fail
        go_roundg kk
        case measure => omega
        case rel => exact ⟨2, rfl, ⟨by omega, by omega⟩, BB⟩
      · have pc22 : wr.cell? ⟨bl, 22, none⟩ = some (.string G.m) := (blk_cell K25_bl.out 22).trans rfl
        have pc23 : wr.cell? ⟨bl, 23, none⟩ = some (.bool G.b1) := (blk_cell K25_bl.out 23).trans rfl
        have pc24 : wr.cell? ⟨bl, 24, none⟩ = some (.bool G.b2) := (blk_cell K25_bl.out 24).trans rfl
        have pc25 : wr.cell? ⟨bl, 25, none⟩ = some (.bool true) := (blk_cell K25_bl.out 25).trans rfl
        have pc26 : wr.cell? ⟨bl, 26, none⟩ = some (.bool G.b4) := (blk_cell K25_bl.out 26).trans rfl
        have pc27 : wr.cell? ⟨bl, 27, none⟩ = some (.bool G.b5) := (blk_cell K25_bl.out 27).trans rfl
        have pc28 : wr.cell? ⟨bl, 28, none⟩ = some (.bool G.b6) := (blk_cell K25_bl.out 28).trans rfl
        have pc29 : wr.cell? ⟨bl, 29, none⟩ = some (.slice S.A7 G.us.length S.c7) := (blk_cell K25_bl.out 29).trans rfl
        have pc30 : wr.cell? ⟨bl, 30, none⟩ = some (.slice S.A8 G.ms.length S.c8) := (blk_cell K25_bl.out 30).trans rfl
        have pc31 : wr.cell? ⟨bl, 31, none⟩ = some (.bool G.b9) := (blk_cell K25_bl.out 31).trans rfl
        have pc32 : wr.cell? ⟨bl, 32, none⟩ = some (.slice S.A10 G.vs.length S.c10) := (blk_cell K25_bl.out 32).trans rfl
        go_wp2_with fail
        clear pc22 pc23 pc24 pc25 pc26 pc27 pc28 pc29 pc30 pc31 pc32
        refine (adm_at (growF G mac 2) S s wr (grow_adm mac HA.out 2) (grow_fv mac (HG.out.below B25.out)).2.2.1 (GS.out 2)).mono ?_
        rintro e w_26 ⟨rfl, hb_⟩
        have BB := Aside0.mk (below_step hb.out hb_)
        clear hb_
        obtain ⟨kk, rfl⟩ : ∃ m, gk = m + 1 := ⟨gk - 1, by omega⟩
        go_wp2_with fail
        go_roundg kk
        case measure => omega
        case rel => exact ⟨3, rfl, ⟨by omega, by omega⟩, BB⟩
      · have pc33 : wr.cell? ⟨bl, 33, none⟩ = some (.string G.m) := (blk_cell K25_bl.out 33).trans rfl
        have pc34 : wr.cell? ⟨bl, 34, none⟩ = some (.bool G.b1) := (blk_cell K25_bl.out 34).trans rfl
        have pc35 : wr.cell? ⟨bl, 35, none⟩ = some (.bool G.b2) := (blk_cell K25_bl.out 35).trans rfl
        have pc36 : wr.cell? ⟨bl, 36, none⟩ = some (.bool G.b3) := (blk_cell K25_bl.out 36).trans rfl
        have pc37 : wr.cell? ⟨bl, 37, none⟩ = some (.bool G.b4) := (blk_cell K25_bl.out 37).trans rfl
        have pc38 : wr.cell? ⟨bl, 38, none⟩ = some (.bool G.b5) := (blk_cell K25_bl.out 38).trans rfl
        have pc39 : wr.cell? ⟨bl, 39, none⟩ = some (.bool G.b6) := (blk_cell K25_bl.out 39).trans rfl
        have pc40 : wr.cell? ⟨bl, 40, none⟩ = some (.slice A2u (G.us.length + 1) c2u) := (blk_cell K25_bl.out 40).trans rfl
        have pc41 : wr.cell? ⟨bl, 41, none⟩ = some (.slice S.A8 G.ms.length S.c8) := (blk_cell K25_bl.out 41).trans rfl
        have pc42 : wr.cell? ⟨bl, 42, none⟩ = some (.bool G.b9) := (blk_cell K25_bl.out 42).trans rfl
        have pc43 : wr.cell? ⟨bl, 43, none⟩ = some (.slice S.A10 G.vs.length S.c10) := (blk_cell K25_bl.out 43).trans rfl
        go_wp2_with fail
        clear pc33 pc34 pc35 pc36 pc37 pc38 pc39 pc40 pc41 pc42 pc43
        refine (adm_g3 wr HA.out (HG.out.below B25.out) O25_Uu.out (GS.out 3)).mono ?_
        rintro e w_26 ⟨rfl, hb_⟩
        have BB := Aside0.mk (below_step hb.out hb_)
        clear hb_
        obtain ⟨kk, rfl⟩ : ∃ m, gk = m + 1 := ⟨gk - 1, by omega⟩
        go_wp2_with fail
        go_roundg kk
        case measure => omega
        case rel => exact ⟨4, rfl, ⟨by omega, by omega⟩, BB⟩
      · have pc44 : wr.cell? ⟨bl, 44, none⟩ = some (.string G.m) := (blk_cell K25_bl.out 44).trans rfl
        have pc45 : wr.cell? ⟨bl, 45, none⟩ = some (.bool G.b1) := (blk_cell K25_bl.out 45).trans rfl
        have pc46 : wr.cell? ⟨bl, 46, none⟩ = some (.bool G.b2) := (blk_cell K25_bl.out 46).trans rfl
        have pc47 : wr.cell? ⟨bl, 47, none⟩ = some (.bool G.b3) := (blk_cell K25_bl.out 47).trans rfl
        have pc48 : wr.cell? ⟨bl, 48, none⟩ = some (.bool G.b4) := (blk_cell K25_bl.out 48).trans rfl
        have pc49 : wr.cell? ⟨bl, 49, none⟩ = some (.bool G.b5) := (blk_cell K25_bl.out 49).trans rfl
        have pc50 : wr.cell? ⟨bl, 50, none⟩ = some (.bool G.b6) := (blk_cell K25_bl.out 50).trans rfl
        have pc51 : wr.cell? ⟨bl, 51, none⟩ = some (.slice S.A7 G.us.length S.c7) := (blk_cell K25_bl.out 51).trans rfl
        have pc52 : wr.cell? ⟨bl, 52, none⟩ = some (.slice A2m (G.ms.length + 1) c2m) := (blk_cell K25_bl.out 52).trans rfl
        have pc53 : wr.cell? ⟨bl, 53, none⟩ = some (.bool G.b9) := (blk_cell K25_bl.out 53).trans rfl
        have pc54 : wr.cell? ⟨bl, 54, none⟩ = some (.slice S.A10 G.vs.length S.c10) := (blk_cell K25_bl.out 54).trans rfl
        go_wp2_with fail
        clear pc44 pc45 pc46 pc47 pc48 pc49 pc50 pc51 pc52 pc53 pc54
        refine (adm_g4 wr HA.out (HG.out.below B25.out) O25_Um.out (GS.out 4)).mono ?_
        rintro e w_26 ⟨rfl, hb_⟩
        have BB := Aside0.mk (below_step hb.out hb_)
        clear hb_
        obtain ⟨kk, rfl⟩ : ∃ m, gk = m + 1 := ⟨gk - 1, by omega⟩
        go_wp2_with fail
        go_roundg kk
        case measure => omega
        case rel => exact ⟨5, rfl, ⟨by omega, by omega⟩, BB⟩
      · have pc55 : wr.cell? ⟨bl, 55, none⟩ = some (.string G.m) := (blk_cell K25_bl.out 55).trans rfl
        have pc56 : wr.cell? ⟨bl, 56, none⟩ = some (.bool G.b1) := (blk_cell K25_bl.out 56).trans rfl
        have pc57 : wr.cell? ⟨bl, 57, none⟩ = some (.bool G.b2) := (blk_cell K25_bl.out 57).trans rfl
        have pc58 : wr.cell? ⟨bl, 58, none⟩ = some (.bool G.b3) := (blk_cell K25_bl.out 58).trans rfl
        have pc59 : wr.cell? ⟨bl, 59, none⟩ = some (.bool G.b4) := (blk_cell K25_bl.out 59).trans rfl
        have pc60 : wr.cell? ⟨bl, 60, none⟩ = some (.bool G.b5) := (blk_cell K25_bl.out 60).trans rfl
        have pc61 : wr.cell? ⟨bl, 61, none⟩ = some (.bool G.b6) := (blk_cell K25_bl.out 61).trans rfl
        have pc62 : wr.cell? ⟨bl, 62, none⟩ = some (.slice S.A7 G.us.length S.c7) := (blk_cell K25_bl.out 62).trans rfl
        have pc63 : wr.cell? ⟨bl, 63, none⟩ = some (.slice S.A8 G.ms.length S.c8) := (blk_cell K25_bl.out 63).trans rfl
        have pc64 : wr.cell? ⟨bl, 64, none⟩ = some (.bool false) := (blk_cell K25_bl.out 64).trans rfl
        have pc65 : wr.cell? ⟨bl, 65, none⟩ = some (.slice S.A10 G.vs.length S.c10) := (blk_cell K25_bl.out 65).trans rfl
        go_wp2_with fail
        clear pc55 pc56 pc57 pc58 pc59 pc60 pc61 pc62 pc63 pc64 pc65
        refine (adm_at (growF G mac 5) S s wr (grow_adm mac HA.out 5) (grow_fv mac (HG.out.below B25.out)).2.2.2 (GS.out 5)).mono ?_
        rintro e w_26 ⟨rfl, hb_⟩
        have BB := Aside0.mk (below_step hb.out hb_)
        clear hb_
        obtain ⟨kk, rfl⟩ : ∃ m, gk = m + 1 := ⟨gk - 1, by omega⟩
        go_wp2_with fail
        go_roundg kk
        case measure => omega
        case rel => exact ⟨6, rfl, ⟨by omega, by omega⟩, BB⟩
      · go_wp2_with fail
        refine (fixed_f wr).mono ?_
        rintro e w_26 ⟨rfl, hb_⟩
        have B27 := Aside0.mk (below_step B25.out hb_)
        have K27_g := Aside0.mk (blk_below K25_g.out hb_)
        have K27_bl := Aside0.mk (blk_below K25_bl.out hb_)
        have O27_Uu := Aside0.mk (O25_Uu.out.below hb_)
        have O27_Um := Aside0.mk (O25_Um.out.below hb_)
        clear hb_ B25 K25_g K25_bl O25_Uu O25_Um
        go_wp2
        go_ret
        exact ⟨rfl, B27.out⟩
end Go.Proofs.Ytnckogdplcijiaa.Hand
