/- Filters: contracts by hand, and the laws over them. -/
import Derived.Test.YtnckogdplcijiaaOwn
import Derived.Test.YtnckogdplcijiaaLS
namespace Go.Proofs.Ytnckogdplcijiaa.Hand
open Go Go.RowKit Go.Proofs.YtnckogdplcijiaaW.PrintWords Go.Proofs.YtnckogdplcijiaaW.PrintLast Go.Proofs.YtnckogdplcijiaaW.PrintMore Go.Proofs.Ytnckogdplcijiaa.Mth Go.Proofs.Ytnckogdplcijiaa.P Go.Proofs.Ytnckogdplcijiaa.Own Go.Proofs Go.Proofs.Ytnckogdplcijiaa.Fl
set_option linter.unusedVariables false
set_option linter.unusedSimpArgs false
set_option maxHeartbeats 16000000 in
set_option maxRecDepth 100000 in
theorem FilterSets (F : Flt) (S : Sl) (n : Int) (w : World) (hf : FV w F S) (wn : (Lit.int .i64 n).wf = true) : Calls Try.prog 6 #[.agg #[.string F.m, .bool F.b1, .bool F.b2, .bool F.b3, .bool F.b4, .bool F.b5, .bool F.b6, .slice S.A7 F.us.length S.c7, .slice S.A8 F.ms.length S.c8, .bool F.b9, .slice S.A10 F.vs.length S.c10], .int .i64 n] w fun e w' => e = .returned (.bool true) ∧ Below w.heap.size w w' := by
  have HF := Aside0.mk hf
  clear hf
  have hu := Try.underlying25
  go_enter Try.func6, Try.ntmps6
  go_upto_region 1 with (fail)
  obtain ⟨w_1, hw_⟩ : ∃ w_, w.alloc (.cells #[.string F.m, .bool F.b1, .bool F.b2, .bool F.b3, .bool F.b4, .bool F.b5, .bool F.b6, .slice S.A7 F.us.length S.c7, .slice S.A8 F.ms.length S.c8, .bool F.b9, .slice S.A10 F.vs.length S.c10] 25) = w_ := ⟨_, rfl⟩
  have ha_ : Below w.heap.size w w_1 := by rw [← hw_]; exact below_alloc (Below.refl _ _) _
  have BX1 : Aside0 (w_1.heap[w.heap.size]? = some (.cells #[.string F.m, .bool F.b1, .bool F.b2, .bool F.b3, .bool F.b4, .bool F.b5, .bool F.b6, .slice S.A7 F.us.length S.c7, .slice S.A8 F.ms.length S.c8, .bool F.b9, .slice S.A10 F.vs.length S.c10] 25 (0, 0))) := ⟨by rw [← hw_]; exact blk_new w _⟩
  have hgB : w.heap.size ≤ w.heap.size := ((Below.refl w.heap.size w)).size
  rw [hw_]
  clear hw_
  obtain ⟨g, hg_⟩ : ∃ g_, w.heap.size = g_ := ⟨_, rfl⟩
  have G_g : Aside0 (w.heap.size ≤ g) := ⟨Nat.le_trans hgB (Nat.le_of_eq hg_)⟩
  rw [hg_] at BX1
  rw [hg_]
  clear hg_ hgB
  have B2 := Aside0.mk (below_step (Below.refl w.heap.size w) ha_)
  clear ha_ 
  have pc0 : w_1.cell? ⟨g, 0, none⟩ = some (.string F.m) := (blk_cell BX1.out 0).trans rfl
  have pc1 : w_1.cell? ⟨g, 1, none⟩ = some (.bool F.b1) := (blk_cell BX1.out 1).trans rfl
  have pc2 : w_1.cell? ⟨g, 2, none⟩ = some (.bool F.b2) := (blk_cell BX1.out 2).trans rfl
  have pc3 : w_1.cell? ⟨g, 3, none⟩ = some (.bool F.b3) := (blk_cell BX1.out 3).trans rfl
  have pc4 : w_1.cell? ⟨g, 4, none⟩ = some (.bool F.b4) := (blk_cell BX1.out 4).trans rfl
  have pc5 : w_1.cell? ⟨g, 5, none⟩ = some (.bool F.b5) := (blk_cell BX1.out 5).trans rfl
  have pc6 : w_1.cell? ⟨g, 6, none⟩ = some (.bool F.b6) := (blk_cell BX1.out 6).trans rfl
  have pc7 : w_1.cell? ⟨g, 7, none⟩ = some (.slice S.A7 F.us.length S.c7) := (blk_cell BX1.out 7).trans rfl
  have pc8 : w_1.cell? ⟨g, 8, none⟩ = some (.slice S.A8 F.ms.length S.c8) := (blk_cell BX1.out 8).trans rfl
  have pc9 : w_1.cell? ⟨g, 9, none⟩ = some (.bool F.b9) := (blk_cell BX1.out 9).trans rfl
  have pc10 : w_1.cell? ⟨g, 10, none⟩ = some (.slice S.A10 F.vs.length S.c10) := (blk_cell BX1.out 10).trans rfl
  go_wp2_with fail
  clear pc0 pc1 pc2 pc3 pc4 pc5 pc6 pc7 pc8 pc9 pc10
  refine (bound_f F S w_1 (HF.out.below B2.out)).mono ?_
  rintro e w_3 ⟨rfl, hb_⟩
  have B4 := Aside0.mk (below_step B2.out hb_)
  have K4_g := Aside0.mk (blk_below BX1.out hb_)
  clear hb_ B2 BX1
  have HG := Aside0.mk HF.out.bound
  have SM := Aside0.mk (boundF_small F)
  have MB := Aside0.mk (@May.of_bound F)
  obtain ⟨G, hG⟩ : ∃ G, boundF F = G := ⟨_, rfl⟩
  rw [hG] at HG SM MB
  have AX := Aside0.mk (addR_small n F)
  rw [hG] at AX
  have AD := Aside0.mk (delR_small n F)
  rw [hG] at AD
  rw [hG]
  clear hG HF
  have pc0 : w_3.cell? ⟨g, 0, none⟩ = some (.string F.m) := (blk_cell K4_g.out 0).trans rfl
  have pf0 := blk_frozen K4_g.out 0
  have pc1 : w_3.cell? ⟨g, 1, none⟩ = some (.bool F.b1) := (blk_cell K4_g.out 1).trans rfl
  have pf1 := blk_frozen K4_g.out 1
  have pc2 : w_3.cell? ⟨g, 2, none⟩ = some (.bool F.b2) := (blk_cell K4_g.out 2).trans rfl
  have pf2 := blk_frozen K4_g.out 2
  have pc3 : w_3.cell? ⟨g, 3, none⟩ = some (.bool F.b3) := (blk_cell K4_g.out 3).trans rfl
  have pf3 := blk_frozen K4_g.out 3
  have pc4 : w_3.cell? ⟨g, 4, none⟩ = some (.bool F.b4) := (blk_cell K4_g.out 4).trans rfl
  have pf4 := blk_frozen K4_g.out 4
  have pc5 : w_3.cell? ⟨g, 5, none⟩ = some (.bool F.b5) := (blk_cell K4_g.out 5).trans rfl
  have pf5 := blk_frozen K4_g.out 5
  have pc6 : w_3.cell? ⟨g, 6, none⟩ = some (.bool F.b6) := (blk_cell K4_g.out 6).trans rfl
  have pf6 := blk_frozen K4_g.out 6
  have pc7 : w_3.cell? ⟨g, 7, none⟩ = some (.slice S.A7 F.us.length S.c7) := (blk_cell K4_g.out 7).trans rfl
  have pf7 := blk_frozen K4_g.out 7
  have pc8 : w_3.cell? ⟨g, 8, none⟩ = some (.slice S.A8 F.ms.length S.c8) := (blk_cell K4_g.out 8).trans rfl
  have pf8 := blk_frozen K4_g.out 8
  have pc9 : w_3.cell? ⟨g, 9, none⟩ = some (.bool F.b9) := (blk_cell K4_g.out 9).trans rfl
  have pf9 := blk_frozen K4_g.out 9
  have pc10 : w_3.cell? ⟨g, 10, none⟩ = some (.slice S.A10 F.vs.length S.c10) := (blk_cell K4_g.out 10).trans rfl
  have pf10 := blk_frozen K4_g.out 10
  go_upto_region 2 with (fail)
  clear pc0 pf0 pc1 pf1 pc2 pf2 pc3 pf3 pc4 pf4 pc5 pf5 pc6 pf6 pc7 pf7 pc8 pf8 pc9 pf9 pc10 pf10
  obtain ⟨w_5, hw_⟩ : ∃ w_, (((((((((((w_3.setCell ⟨g, 0, none⟩ (.string G.m)).setCell ⟨g, 1, none⟩ (.bool G.b1)).setCell ⟨g, 2, none⟩ (.bool G.b2)).setCell ⟨g, 3, none⟩ (.bool G.b3)).setCell ⟨g, 4, none⟩ (.bool G.b4)).setCell ⟨g, 5, none⟩ (.bool G.b5)).setCell ⟨g, 6, none⟩ (.bool G.b6)).setCell ⟨g, 7, none⟩ (.slice S.A7 G.us.length S.c7)).setCell ⟨g, 8, none⟩ (.slice S.A8 G.ms.length S.c8)).setCell ⟨g, 9, none⟩ (.bool G.b9)).setCell ⟨g, 10, none⟩ (.slice S.A10 G.vs.length S.c10)) = w_ := ⟨_, rfl⟩
  have hu_ : Upd w_3 w_5 (fun k => k = g) := by rw [← hw_]; exact (flt_at g w_3 (.string G.m) (.bool G.b1) (.bool G.b2) (.bool G.b3) (.bool G.b4) (.bool G.b5) (.bool G.b6) (.slice S.A7 G.us.length S.c7) (.slice S.A8 G.ms.length S.c8) (.bool G.b9) (.slice S.A10 G.vs.length S.c10) K4_g.out).2
  have K6_g : Aside0 (w_5.heap[g]? = some (.cells #[.string G.m, .bool G.b1, .bool G.b2, .bool G.b3, .bool G.b4, .bool G.b5, .bool G.b6, .slice S.A7 G.us.length S.c7, .slice S.A8 G.ms.length S.c8, .bool G.b9, .slice S.A10 G.vs.length S.c10] 25 (0, 0))) := ⟨by rw [← hw_]; exact (flt_at g w_3 (.string G.m) (.bool G.b1) (.bool G.b2) (.bool G.b3) (.bool G.b4) (.bool G.b5) (.bool G.b6) (.slice S.A7 G.us.length S.c7) (.slice S.A8 G.ms.length S.c8) (.bool G.b9) (.slice S.A10 G.vs.length S.c10) K4_g.out).1⟩
  rw [hw_]
  clear hw_
  have B6 := Aside0.mk (B4.out.trans (hu_.toBelow (B := w.heap.size) (fun k hk => by rw [hk]; exact G_g.out) (B4.out).size))
  clear hu_ B4 K4_g
  obtain ⟨X, hX⟩ : ∃ x_, addR n G = x_ := ⟨_, rfl⟩
  rw [hX] at AX
  obtain ⟨D, hD⟩ : ∃ x_, delR n G = x_ := ⟨_, rfl⟩
  rw [hD] at AD
  obtain ⟨e0, hE⟩ : ∃ x_, errR n G = x_ := ⟨_, rfl⟩
  have ee : (e0 != e0) = false := bne_self_eq_false e0
  go_wp2_with fail
  go_loopg [5] 2 (fun gk v5 w' => ∃ i : Nat, v5 = .int .i64 (i : Int) ∧ Aside0 (i + gk = 2) ∧ Aside0 (w'.heap[g]? = some (.cells #[.string G.m, .bool G.b1, .bool G.b2, .bool G.b3, .bool G.b4, .bool G.b5, .bool G.b6, .slice S.A7 G.us.length S.c7, .slice S.A8 G.ms.length S.c8, .bool G.b9, .slice S.A10 G.vs.length S.c10] 25 (0, 0))) ∧ Aside0 (Below w.heap.size w w'))
  case atStart => exact ⟨0, rfl, ⟨rfl⟩, K6_g, B6⟩
  case round =>
    obtain ⟨i, rfl, hk, hgb, hbb⟩ := hrel
    have hkk := hk.out
    have wi : IntKind.i64.wrap ((i : Int) + 1) = ((i + 1 : Nat) : Int) := by rw [IntKind.wrap_i64]; omega
    clear K6_g B6
    have hlg := blk_lt hgb.out
    by_cases hi : i < 2
    · have c1 : decide ((i : Int) < 2) = true := decide_eq_true (by omega)
      have c2 : decide ((i : Int) ≤ 1) = true := decide_eq_true (by omega)
      obtain ⟨ki, rfl⟩ : ∃ m, gk = m + 1 := ⟨gk - 1, by omega⟩
      have pc0 : wr.cell? ⟨g, 0, none⟩ = some (.string G.m) := (blk_cell hgb.out 0).trans rfl
      have pc1 : wr.cell? ⟨g, 1, none⟩ = some (.bool G.b1) := (blk_cell hgb.out 1).trans rfl
      have pc2 : wr.cell? ⟨g, 2, none⟩ = some (.bool G.b2) := (blk_cell hgb.out 2).trans rfl
      have pc3 : wr.cell? ⟨g, 3, none⟩ = some (.bool G.b3) := (blk_cell hgb.out 3).trans rfl
      have pc4 : wr.cell? ⟨g, 4, none⟩ = some (.bool G.b4) := (blk_cell hgb.out 4).trans rfl
      have pc5 : wr.cell? ⟨g, 5, none⟩ = some (.bool G.b5) := (blk_cell hgb.out 5).trans rfl
      have pc6 : wr.cell? ⟨g, 6, none⟩ = some (.bool G.b6) := (blk_cell hgb.out 6).trans rfl
      have pc7 : wr.cell? ⟨g, 7, none⟩ = some (.slice S.A7 G.us.length S.c7) := (blk_cell hgb.out 7).trans rfl
      have pc8 : wr.cell? ⟨g, 8, none⟩ = some (.slice S.A8 G.ms.length S.c8) := (blk_cell hgb.out 8).trans rfl
      have pc9 : wr.cell? ⟨g, 9, none⟩ = some (.bool G.b9) := (blk_cell hgb.out 9).trans rfl
      have pc10 : wr.cell? ⟨g, 10, none⟩ = some (.slice S.A10 G.vs.length S.c10) := (blk_cell hgb.out 10).trans rfl
      go_wp2_with fail
      clear pc0 pc1 pc2 pc3 pc4 pc5 pc6 pc7 pc8 pc9 pc10
      refine (add_any n hX hE S wr (HG.out.below hbb.out) SM.out).mono ?_
      rintro e w_7 ⟨SX, rfl, ho_, hb_⟩
      have ho_ := ho_.weaken (hbb.out).size
      have B8 := Aside0.mk (below_step hbb.out hb_)
      have K8_g := Aside0.mk (blk_below hgb.out hb_)
      clear hb_ hbb hgb
      have OV_SX := Aside0.mk (ho_)
      clear ho_
      go_upto_region 6 with (fail)
      obtain ⟨w_9, hw_⟩ : ∃ w_, w_7.alloc (.cells #[.string X.m, .bool X.b1, .bool X.b2, .bool X.b3, .bool X.b4, .bool X.b5, .bool X.b6, .slice SX.A7 X.us.length SX.c7, .slice SX.A8 X.ms.length SX.c8, .bool X.b9, .slice SX.A10 X.vs.length SX.c10] 25) = w_ := ⟨_, rfl⟩
      have ha_ : Below w_7.heap.size w_7 w_9 := by rw [← hw_]; exact below_alloc (Below.refl _ _) _
      have BX9 : Aside0 (w_9.heap[w_7.heap.size]? = some (.cells #[.string X.m, .bool X.b1, .bool X.b2, .bool X.b3, .bool X.b4, .bool X.b5, .bool X.b6, .slice SX.A7 X.us.length SX.c7, .slice SX.A8 X.ms.length SX.c8, .bool X.b9, .slice SX.A10 X.vs.length SX.c10] 25 (0, 0))) := ⟨by rw [← hw_]; exact blk_new w_7 _⟩
      have hgB : w.heap.size ≤ w_7.heap.size := (B8.out).size
      have hl_g : g < w_7.heap.size := blk_lt K8_g.out
      rw [hw_]
      clear hw_
      obtain ⟨b1x, hg_⟩ : ∃ g_, w_7.heap.size = g_ := ⟨_, rfl⟩
      have G_b1x : Aside0 (w.heap.size ≤ b1x) := ⟨Nat.le_trans hgB (Nat.le_of_eq hg_)⟩
      rw [hg_] at BX9 hl_g
      rw [hg_]
      clear hg_ hgB
      have E_g_b1x := Aside0.mk hl_g
      clear hl_g
      have B10 := Aside0.mk (below_step B8.out ha_)
      have K10_g := Aside0.mk (blk_below K8_g.out ha_)
      have O10_SX := Aside0.mk (OV_SX.out.below ha_)
      clear ha_ B8 K8_g OV_SX
      have pc0 : w_9.cell? ⟨g, 0, none⟩ = some (.string G.m) := (blk_cell K10_g.out 0).trans rfl
      have pc1 : w_9.cell? ⟨g, 1, none⟩ = some (.bool G.b1) := (blk_cell K10_g.out 1).trans rfl
      have pc2 : w_9.cell? ⟨g, 2, none⟩ = some (.bool G.b2) := (blk_cell K10_g.out 2).trans rfl
      have pc3 : w_9.cell? ⟨g, 3, none⟩ = some (.bool G.b3) := (blk_cell K10_g.out 3).trans rfl
      have pc4 : w_9.cell? ⟨g, 4, none⟩ = some (.bool G.b4) := (blk_cell K10_g.out 4).trans rfl
      have pc5 : w_9.cell? ⟨g, 5, none⟩ = some (.bool G.b5) := (blk_cell K10_g.out 5).trans rfl
      have pc6 : w_9.cell? ⟨g, 6, none⟩ = some (.bool G.b6) := (blk_cell K10_g.out 6).trans rfl
      have pc7 : w_9.cell? ⟨g, 7, none⟩ = some (.slice S.A7 G.us.length S.c7) := (blk_cell K10_g.out 7).trans rfl
      have pc8 : w_9.cell? ⟨g, 8, none⟩ = some (.slice S.A8 G.ms.length S.c8) := (blk_cell K10_g.out 8).trans rfl
      have pc9 : w_9.cell? ⟨g, 9, none⟩ = some (.bool G.b9) := (blk_cell K10_g.out 9).trans rfl
      have pc10 : w_9.cell? ⟨g, 10, none⟩ = some (.slice S.A10 G.vs.length S.c10) := (blk_cell K10_g.out 10).trans rfl
      go_wp2_with fail
      clear pc0 pc1 pc2 pc3 pc4 pc5 pc6 pc7 pc8 pc9 pc10
      refine (set_any1 n hX hE S w_9 (HG.out.below B10.out) SM.out).mono ?_
      rintro e w_11 ⟨SB, rfl, ho_, hb_⟩
      have B12 := Aside0.mk (below_step B10.out hb_)
      have K12_g := Aside0.mk (blk_below K10_g.out hb_)
      have K12_b1x := Aside0.mk (blk_below BX9.out hb_)
      have O12_SX := Aside0.mk (O10_SX.out.below hb_)
      clear hb_ B10 K10_g BX9 O10_SX
      have OV_SB := Aside0.mk (ho_)
      clear ho_
      go_upto_region 7 with (fail)
      obtain ⟨w_13, hw_⟩ : ∃ w_, w_11.alloc (.cells #[.string X.m, .bool X.b1, .bool X.b2, .bool X.b3, .bool X.b4, .bool X.b5, .bool X.b6, .slice SB.A7 X.us.length SB.c7, .slice SB.A8 X.ms.length SB.c8, .bool X.b9, .slice SB.A10 X.vs.length SB.c10] 25) = w_ := ⟨_, rfl⟩
      have ha_ : Below w_11.heap.size w_11 w_13 := by rw [← hw_]; exact below_alloc (Below.refl _ _) _
      have BX13 : Aside0 (w_13.heap[w_11.heap.size]? = some (.cells #[.string X.m, .bool X.b1, .bool X.b2, .bool X.b3, .bool X.b4, .bool X.b5, .bool X.b6, .slice SB.A7 X.us.length SB.c7, .slice SB.A8 X.ms.length SB.c8, .bool X.b9, .slice SB.A10 X.vs.length SB.c10] 25 (0, 0))) := ⟨by rw [← hw_]; exact blk_new w_11 _⟩
      have hgB : w.heap.size ≤ w_11.heap.size := (B12.out).size
      have hl_g : g < w_11.heap.size := blk_lt K12_g.out
      have hl_b1x : b1x < w_11.heap.size := blk_lt K12_b1x.out
      rw [hw_]
      clear hw_
      obtain ⟨b2x, hg_⟩ : ∃ g_, w_11.heap.size = g_ := ⟨_, rfl⟩
      have G_b2x : Aside0 (w.heap.size ≤ b2x) := ⟨Nat.le_trans hgB (Nat.le_of_eq hg_)⟩
      rw [hg_] at BX13 hl_g hl_b1x
      rw [hg_]
      clear hg_ hgB
      have E_g_b2x := Aside0.mk hl_g
      clear hl_g
      have E_b1x_b2x := Aside0.mk hl_b1x
      clear hl_b1x
      have B14 := Aside0.mk (below_step B12.out ha_)
      have K14_g := Aside0.mk (blk_below K12_g.out ha_)
      have K14_b1x := Aside0.mk (blk_below K12_b1x.out ha_)
      have O14_SX := Aside0.mk (O12_SX.out.below ha_)
      have O14_SB := Aside0.mk (OV_SB.out.below ha_)
      clear ha_ B12 K12_g K12_b1x O12_SX OV_SB
      have pc0 : w_13.cell? ⟨g, 0, none⟩ = some (.string G.m) := (blk_cell K14_g.out 0).trans rfl
      have pc1 : w_13.cell? ⟨g, 1, none⟩ = some (.bool G.b1) := (blk_cell K14_g.out 1).trans rfl
      have pc2 : w_13.cell? ⟨g, 2, none⟩ = some (.bool G.b2) := (blk_cell K14_g.out 2).trans rfl
      have pc3 : w_13.cell? ⟨g, 3, none⟩ = some (.bool G.b3) := (blk_cell K14_g.out 3).trans rfl
      have pc4 : w_13.cell? ⟨g, 4, none⟩ = some (.bool G.b4) := (blk_cell K14_g.out 4).trans rfl
      have pc5 : w_13.cell? ⟨g, 5, none⟩ = some (.bool G.b5) := (blk_cell K14_g.out 5).trans rfl
      have pc6 : w_13.cell? ⟨g, 6, none⟩ = some (.bool G.b6) := (blk_cell K14_g.out 6).trans rfl
      have pc7 : w_13.cell? ⟨g, 7, none⟩ = some (.slice S.A7 G.us.length S.c7) := (blk_cell K14_g.out 7).trans rfl
      have pc8 : w_13.cell? ⟨g, 8, none⟩ = some (.slice S.A8 G.ms.length S.c8) := (blk_cell K14_g.out 8).trans rfl
      have pc9 : w_13.cell? ⟨g, 9, none⟩ = some (.bool G.b9) := (blk_cell K14_g.out 9).trans rfl
      have pc10 : w_13.cell? ⟨g, 10, none⟩ = some (.slice S.A10 G.vs.length S.c10) := (blk_cell K14_g.out 10).trans rfl
      go_wp2_with fail
      clear pc0 pc1 pc2 pc3 pc4 pc5 pc6 pc7 pc8 pc9 pc10
      refine (del_any n hD hE S w_13 (HG.out.below B14.out) SM.out).mono ?_
      rintro e w_15 ⟨SD, rfl, ho_, hb_⟩
      have ho_ := ho_.weaken (B14.out).size
      have B16 := Aside0.mk (below_step B14.out hb_)
      have K16_g := Aside0.mk (blk_below K14_g.out hb_)
      have K16_b1x := Aside0.mk (blk_below K14_b1x.out hb_)
      have K16_b2x := Aside0.mk (blk_below BX13.out hb_)
      have O16_SX := Aside0.mk (O14_SX.out.below hb_)
      have O16_SB := Aside0.mk (O14_SB.out.below hb_)
      clear hb_ B14 K14_g K14_b1x BX13 O14_SX O14_SB
      have OV_SD := Aside0.mk (ho_)
      clear ho_
      go_upto_region 8 with (fail)
      obtain ⟨w_17, hw_⟩ : ∃ w_, w_15.alloc (.cells #[.string D.m, .bool D.b1, .bool D.b2, .bool D.b3, .bool D.b4, .bool D.b5, .bool D.b6, .slice SD.A7 D.us.length SD.c7, .slice SD.A8 D.ms.length SD.c8, .bool D.b9, .slice SD.A10 D.vs.length SD.c10] 25) = w_ := ⟨_, rfl⟩
      have ha_ : Below w_15.heap.size w_15 w_17 := by rw [← hw_]; exact below_alloc (Below.refl _ _) _
      have BX17 : Aside0 (w_17.heap[w_15.heap.size]? = some (.cells #[.string D.m, .bool D.b1, .bool D.b2, .bool D.b3, .bool D.b4, .bool D.b5, .bool D.b6, .slice SD.A7 D.us.length SD.c7, .slice SD.A8 D.ms.length SD.c8, .bool D.b9, .slice SD.A10 D.vs.length SD.c10] 25 (0, 0))) := ⟨by rw [← hw_]; exact blk_new w_15 _⟩
      have hgB : w.heap.size ≤ w_15.heap.size := (B16.out).size
      have hl_g : g < w_15.heap.size := blk_lt K16_g.out
      have hl_b1x : b1x < w_15.heap.size := blk_lt K16_b1x.out
      have hl_b2x : b2x < w_15.heap.size := blk_lt K16_b2x.out
      rw [hw_]
      clear hw_
      obtain ⟨b3x, hg_⟩ : ∃ g_, w_15.heap.size = g_ := ⟨_, rfl⟩
      have G_b3x : Aside0 (w.heap.size ≤ b3x) := ⟨Nat.le_trans hgB (Nat.le_of_eq hg_)⟩
      rw [hg_] at BX17 hl_g hl_b1x hl_b2x
      rw [hg_]
      clear hg_ hgB
      have E_g_b3x := Aside0.mk hl_g
      clear hl_g
      have E_b1x_b3x := Aside0.mk hl_b1x
      clear hl_b1x
      have E_b2x_b3x := Aside0.mk hl_b2x
      clear hl_b2x
      have B18 := Aside0.mk (below_step B16.out ha_)
      have K18_g := Aside0.mk (blk_below K16_g.out ha_)
      have K18_b1x := Aside0.mk (blk_below K16_b1x.out ha_)
      have K18_b2x := Aside0.mk (blk_below K16_b2x.out ha_)
      have O18_SX := Aside0.mk (O16_SX.out.below ha_)
      have O18_SB := Aside0.mk (O16_SB.out.below ha_)
      have O18_SD := Aside0.mk (OV_SD.out.below ha_)
      clear ha_ B16 K16_g K16_b1x K16_b2x O16_SX O16_SB OV_SD
      have pc0 : w_17.cell? ⟨g, 0, none⟩ = some (.string G.m) := (blk_cell K18_g.out 0).trans rfl
      have pc1 : w_17.cell? ⟨g, 1, none⟩ = some (.bool G.b1) := (blk_cell K18_g.out 1).trans rfl
      have pc2 : w_17.cell? ⟨g, 2, none⟩ = some (.bool G.b2) := (blk_cell K18_g.out 2).trans rfl
      have pc3 : w_17.cell? ⟨g, 3, none⟩ = some (.bool G.b3) := (blk_cell K18_g.out 3).trans rfl
      have pc4 : w_17.cell? ⟨g, 4, none⟩ = some (.bool G.b4) := (blk_cell K18_g.out 4).trans rfl
      have pc5 : w_17.cell? ⟨g, 5, none⟩ = some (.bool G.b5) := (blk_cell K18_g.out 5).trans rfl
      have pc6 : w_17.cell? ⟨g, 6, none⟩ = some (.bool G.b6) := (blk_cell K18_g.out 6).trans rfl
      have pc7 : w_17.cell? ⟨g, 7, none⟩ = some (.slice S.A7 G.us.length S.c7) := (blk_cell K18_g.out 7).trans rfl
      have pc8 : w_17.cell? ⟨g, 8, none⟩ = some (.slice S.A8 G.ms.length S.c8) := (blk_cell K18_g.out 8).trans rfl
      have pc9 : w_17.cell? ⟨g, 9, none⟩ = some (.bool G.b9) := (blk_cell K18_g.out 9).trans rfl
      have pc10 : w_17.cell? ⟨g, 10, none⟩ = some (.slice S.A10 G.vs.length S.c10) := (blk_cell K18_g.out 10).trans rfl
      go_wp2_with fail
      clear pc0 pc1 pc2 pc3 pc4 pc5 pc6 pc7 pc8 pc9 pc10
      refine (set_any0 n hD hE S w_17 (HG.out.below B18.out) SM.out).mono ?_
      rintro e w_19 ⟨SE, rfl, ho_, hb_⟩
      have B20 := Aside0.mk (below_step B18.out hb_)
      have K20_g := Aside0.mk (blk_below K18_g.out hb_)
      have K20_b1x := Aside0.mk (blk_below K18_b1x.out hb_)
      have K20_b2x := Aside0.mk (blk_below K18_b2x.out hb_)
      have K20_b3x := Aside0.mk (blk_below BX17.out hb_)
      have O20_SX := Aside0.mk (O18_SX.out.below hb_)
      have O20_SB := Aside0.mk (O18_SB.out.below hb_)
      have O20_SD := Aside0.mk (O18_SD.out.below hb_)
      clear hb_ B18 K18_g K18_b1x K18_b2x BX17 O18_SX O18_SB O18_SD
      have OV_SE := Aside0.mk (ho_)
      clear ho_
      go_upto_region 9 with (fail)
      obtain ⟨w_21, hw_⟩ : ∃ w_, w_19.alloc (.cells #[.string D.m, .bool D.b1, .bool D.b2, .bool D.b3, .bool D.b4, .bool D.b5, .bool D.b6, .slice SE.A7 D.us.length SE.c7, .slice SE.A8 D.ms.length SE.c8, .bool D.b9, .slice SE.A10 D.vs.length SE.c10] 25) = w_ := ⟨_, rfl⟩
      have ha_ : Below w_19.heap.size w_19 w_21 := by rw [← hw_]; exact below_alloc (Below.refl _ _) _
      have BX21 : Aside0 (w_21.heap[w_19.heap.size]? = some (.cells #[.string D.m, .bool D.b1, .bool D.b2, .bool D.b3, .bool D.b4, .bool D.b5, .bool D.b6, .slice SE.A7 D.us.length SE.c7, .slice SE.A8 D.ms.length SE.c8, .bool D.b9, .slice SE.A10 D.vs.length SE.c10] 25 (0, 0))) := ⟨by rw [← hw_]; exact blk_new w_19 _⟩
      have hgB : w.heap.size ≤ w_19.heap.size := (B20.out).size
      have hl_g : g < w_19.heap.size := blk_lt K20_g.out
      have hl_b1x : b1x < w_19.heap.size := blk_lt K20_b1x.out
      have hl_b2x : b2x < w_19.heap.size := blk_lt K20_b2x.out
      have hl_b3x : b3x < w_19.heap.size := blk_lt K20_b3x.out
      rw [hw_]
      clear hw_
      obtain ⟨b4x, hg_⟩ : ∃ g_, w_19.heap.size = g_ := ⟨_, rfl⟩
      have G_b4x : Aside0 (w.heap.size ≤ b4x) := ⟨Nat.le_trans hgB (Nat.le_of_eq hg_)⟩
      rw [hg_] at BX21 hl_g hl_b1x hl_b2x hl_b3x
      rw [hg_]
      clear hg_ hgB
      have E_g_b4x := Aside0.mk hl_g
      clear hl_g
      have E_b1x_b4x := Aside0.mk hl_b1x
      clear hl_b1x
      have E_b2x_b4x := Aside0.mk hl_b2x
      clear hl_b2x
      have E_b3x_b4x := Aside0.mk hl_b3x
      clear hl_b3x
      have B22 := Aside0.mk (below_step B20.out ha_)
      have K22_g := Aside0.mk (blk_below K20_g.out ha_)
      have K22_b1x := Aside0.mk (blk_below K20_b1x.out ha_)
      have K22_b2x := Aside0.mk (blk_below K20_b2x.out ha_)
      have K22_b3x := Aside0.mk (blk_below K20_b3x.out ha_)
      have O22_SX := Aside0.mk (O20_SX.out.below ha_)
      have O22_SB := Aside0.mk (O20_SB.out.below ha_)
      have O22_SD := Aside0.mk (O20_SD.out.below ha_)
      have O22_SE := Aside0.mk (OV_SE.out.below ha_)
      clear ha_ B20 K20_g K20_b1x K20_b2x K20_b3x O20_SX O20_SB O20_SD OV_SE
      have pc0 : w_21.cell? ⟨b1x, 0, none⟩ = some (.string X.m) := (blk_cell K22_b1x.out 0).trans rfl
      have pc1 : w_21.cell? ⟨b1x, 1, none⟩ = some (.bool X.b1) := (blk_cell K22_b1x.out 1).trans rfl
      have pc2 : w_21.cell? ⟨b1x, 2, none⟩ = some (.bool X.b2) := (blk_cell K22_b1x.out 2).trans rfl
      have pc3 : w_21.cell? ⟨b1x, 3, none⟩ = some (.bool X.b3) := (blk_cell K22_b1x.out 3).trans rfl
      have pc4 : w_21.cell? ⟨b1x, 4, none⟩ = some (.bool X.b4) := (blk_cell K22_b1x.out 4).trans rfl
      have pc5 : w_21.cell? ⟨b1x, 5, none⟩ = some (.bool X.b5) := (blk_cell K22_b1x.out 5).trans rfl
      have pc6 : w_21.cell? ⟨b1x, 6, none⟩ = some (.bool X.b6) := (blk_cell K22_b1x.out 6).trans rfl
      have pc7 : w_21.cell? ⟨b1x, 7, none⟩ = some (.slice SX.A7 X.us.length SX.c7) := (blk_cell K22_b1x.out 7).trans rfl
      have pc8 : w_21.cell? ⟨b1x, 8, none⟩ = some (.slice SX.A8 X.ms.length SX.c8) := (blk_cell K22_b1x.out 8).trans rfl
      have pc9 : w_21.cell? ⟨b1x, 9, none⟩ = some (.bool X.b9) := (blk_cell K22_b1x.out 9).trans rfl
      have pc10 : w_21.cell? ⟨b1x, 10, none⟩ = some (.slice SX.A10 X.vs.length SX.c10) := (blk_cell K22_b1x.out 10).trans rfl
      have qc0 : w_21.cell? ⟨b2x, 0, none⟩ = some (.string X.m) := (blk_cell K22_b2x.out 0).trans rfl
      have qc1 : w_21.cell? ⟨b2x, 1, none⟩ = some (.bool X.b1) := (blk_cell K22_b2x.out 1).trans rfl
      have qc2 : w_21.cell? ⟨b2x, 2, none⟩ = some (.bool X.b2) := (blk_cell K22_b2x.out 2).trans rfl
      have qc3 : w_21.cell? ⟨b2x, 3, none⟩ = some (.bool X.b3) := (blk_cell K22_b2x.out 3).trans rfl
      have qc4 : w_21.cell? ⟨b2x, 4, none⟩ = some (.bool X.b4) := (blk_cell K22_b2x.out 4).trans rfl
      have qc5 : w_21.cell? ⟨b2x, 5, none⟩ = some (.bool X.b5) := (blk_cell K22_b2x.out 5).trans rfl
      have qc6 : w_21.cell? ⟨b2x, 6, none⟩ = some (.bool X.b6) := (blk_cell K22_b2x.out 6).trans rfl
      have qc7 : w_21.cell? ⟨b2x, 7, none⟩ = some (.slice SB.A7 X.us.length SB.c7) := (blk_cell K22_b2x.out 7).trans rfl
      have qc8 : w_21.cell? ⟨b2x, 8, none⟩ = some (.slice SB.A8 X.ms.length SB.c8) := (blk_cell K22_b2x.out 8).trans rfl
      have qc9 : w_21.cell? ⟨b2x, 9, none⟩ = some (.bool X.b9) := (blk_cell K22_b2x.out 9).trans rfl
      have qc10 : w_21.cell? ⟨b2x, 10, none⟩ = some (.slice SB.A10 X.vs.length SB.c10) := (blk_cell K22_b2x.out 10).trans rfl
      go_wp2_with fail
      clear pc0 pc1 pc2 pc3 pc4 pc5 pc6 pc7 pc8 pc9 pc10
      clear qc0 qc1 qc2 qc3 qc4 qc5 qc6 qc7 qc8 qc9 qc10
      refine (same_f X SX SB w_21 O22_SX.out.fv O22_SB.out AX.out).mono ?_
      rintro e w_23 ⟨rfl, hb_⟩
      have B24 := Aside0.mk (below_step B22.out hb_)
      have K24_g := Aside0.mk (blk_below K22_g.out hb_)
      have K24_b1x := Aside0.mk (blk_below K22_b1x.out hb_)
      have K24_b2x := Aside0.mk (blk_below K22_b2x.out hb_)
      have K24_b3x := Aside0.mk (blk_below K22_b3x.out hb_)
      have K24_b4x := Aside0.mk (blk_below BX21.out hb_)
      have O24_SX := Aside0.mk (O22_SX.out.below hb_)
      have O24_SB := Aside0.mk (O22_SB.out.below hb_)
      have O24_SD := Aside0.mk (O22_SD.out.below hb_)
      have O24_SE := Aside0.mk (O22_SE.out.below hb_)
      clear hb_ B22 K22_g K22_b1x K22_b2x K22_b3x BX21 O22_SX O22_SB O22_SD O22_SE
      have pc0 : w_23.cell? ⟨b3x, 0, none⟩ = some (.string D.m) := (blk_cell K24_b3x.out 0).trans rfl
      have pc1 : w_23.cell? ⟨b3x, 1, none⟩ = some (.bool D.b1) := (blk_cell K24_b3x.out 1).trans rfl
      have pc2 : w_23.cell? ⟨b3x, 2, none⟩ = some (.bool D.b2) := (blk_cell K24_b3x.out 2).trans rfl
      have pc3 : w_23.cell? ⟨b3x, 3, none⟩ = some (.bool D.b3) := (blk_cell K24_b3x.out 3).trans rfl
      have pc4 : w_23.cell? ⟨b3x, 4, none⟩ = some (.bool D.b4) := (blk_cell K24_b3x.out 4).trans rfl
      have pc5 : w_23.cell? ⟨b3x, 5, none⟩ = some (.bool D.b5) := (blk_cell K24_b3x.out 5).trans rfl
      have pc6 : w_23.cell? ⟨b3x, 6, none⟩ = some (.bool D.b6) := (blk_cell K24_b3x.out 6).trans rfl
      have pc7 : w_23.cell? ⟨b3x, 7, none⟩ = some (.slice SD.A7 D.us.length SD.c7) := (blk_cell K24_b3x.out 7).trans rfl
      have pc8 : w_23.cell? ⟨b3x, 8, none⟩ = some (.slice SD.A8 D.ms.length SD.c8) := (blk_cell K24_b3x.out 8).trans rfl
      have pc9 : w_23.cell? ⟨b3x, 9, none⟩ = some (.bool D.b9) := (blk_cell K24_b3x.out 9).trans rfl
      have pc10 : w_23.cell? ⟨b3x, 10, none⟩ = some (.slice SD.A10 D.vs.length SD.c10) := (blk_cell K24_b3x.out 10).trans rfl
      have qc0 : w_23.cell? ⟨b4x, 0, none⟩ = some (.string D.m) := (blk_cell K24_b4x.out 0).trans rfl
      have qc1 : w_23.cell? ⟨b4x, 1, none⟩ = some (.bool D.b1) := (blk_cell K24_b4x.out 1).trans rfl
      have qc2 : w_23.cell? ⟨b4x, 2, none⟩ = some (.bool D.b2) := (blk_cell K24_b4x.out 2).trans rfl
      have qc3 : w_23.cell? ⟨b4x, 3, none⟩ = some (.bool D.b3) := (blk_cell K24_b4x.out 3).trans rfl
      have qc4 : w_23.cell? ⟨b4x, 4, none⟩ = some (.bool D.b4) := (blk_cell K24_b4x.out 4).trans rfl
      have qc5 : w_23.cell? ⟨b4x, 5, none⟩ = some (.bool D.b5) := (blk_cell K24_b4x.out 5).trans rfl
      have qc6 : w_23.cell? ⟨b4x, 6, none⟩ = some (.bool D.b6) := (blk_cell K24_b4x.out 6).trans rfl
      have qc7 : w_23.cell? ⟨b4x, 7, none⟩ = some (.slice SE.A7 D.us.length SE.c7) := (blk_cell K24_b4x.out 7).trans rfl
      have qc8 : w_23.cell? ⟨b4x, 8, none⟩ = some (.slice SE.A8 D.ms.length SE.c8) := (blk_cell K24_b4x.out 8).trans rfl
      have qc9 : w_23.cell? ⟨b4x, 9, none⟩ = some (.bool D.b9) := (blk_cell K24_b4x.out 9).trans rfl
      have qc10 : w_23.cell? ⟨b4x, 10, none⟩ = some (.slice SE.A10 D.vs.length SE.c10) := (blk_cell K24_b4x.out 10).trans rfl
      go_wp2_with fail
      clear pc0 pc1 pc2 pc3 pc4 pc5 pc6 pc7 pc8 pc9 pc10
      clear qc0 qc1 qc2 qc3 qc4 qc5 qc6 qc7 qc8 qc9 qc10
      refine (same_f D SD SE w_23 O24_SD.out.fv O24_SE.out AD.out).mono ?_
      rintro e w_25 ⟨rfl, hb_⟩
      have B26 := Aside0.mk (below_step B24.out hb_)
      have K26_g := Aside0.mk (blk_below K24_g.out hb_)
      have K26_b1x := Aside0.mk (blk_below K24_b1x.out hb_)
      have K26_b2x := Aside0.mk (blk_below K24_b2x.out hb_)
      have K26_b3x := Aside0.mk (blk_below K24_b3x.out hb_)
      have K26_b4x := Aside0.mk (blk_below K24_b4x.out hb_)
      have O26_SX := Aside0.mk (O24_SX.out.below hb_)
      have O26_SB := Aside0.mk (O24_SB.out.below hb_)
      have O26_SD := Aside0.mk (O24_SD.out.below hb_)
      have O26_SE := Aside0.mk (O24_SE.out.below hb_)
      clear hb_ B24 K24_g K24_b1x K24_b2x K24_b3x K24_b4x O24_SX O24_SB O24_SD O24_SE
      clear O26_SB O26_SE K26_b2x K26_b4x
      have bx := AX.out.2.2
      have bd := AD.out.1
      go_wp2_with fail
      go_loopg [14] X.vs.length (fun gk v14 w' => ∃ (k : Nat) (l : List Int), v14 = .int .i64 (k : Int) ∧ Aside0 (k + gk = X.vs.length) ∧ Aside0 (l.length = X.vs.length) ∧ Aside0 (w'.heap[g]? = some (.cells #[.string G.m, .bool G.b1, .bool G.b2, .bool G.b3, .bool G.b4, .bool G.b5, .bool G.b6, .slice S.A7 G.us.length S.c7, .slice S.A8 G.ms.length S.c8, .bool G.b9, .slice S.A10 G.vs.length S.c10] 25 (0, 0))) ∧ Aside0 (w'.heap[b1x]? = some (.cells #[.string X.m, .bool X.b1, .bool X.b2, .bool X.b3, .bool X.b4, .bool X.b5, .bool X.b6, .slice SX.A7 X.us.length SX.c7, .slice SX.A8 X.ms.length SX.c8, .bool X.b9, .slice SX.A10 X.vs.length SX.c10] 25 (0, 0))) ∧ Aside0 (w'.heap[b3x]? = some (.cells #[.string D.m, .bool D.b1, .bool D.b2, .bool D.b3, .bool D.b4, .bool D.b5, .bool D.b6, .slice SD.A7 D.us.length SD.c7, .slice SD.A8 D.ms.length SD.c8, .bool D.b9, .slice SD.A10 D.vs.length SD.c10] 25 (0, 0))) ∧ Aside0 (w'.ownsRow w.heap.size 3 1 (.slice SX.A10 X.vs.length SX.c10) X.vs.length (encs (Value.int .i64) l)) ∧ Aside0 (w'.ownsRow w.heap.size 9 1 (.slice SD.A7 D.us.length SD.c7) D.us.length (encs Value.string D.us)) ∧ Aside0 (Below w.heap.size w w'))
      case atStart => exact ⟨0, X.vs, rfl, ⟨by omega⟩, ⟨rfl⟩, K26_g, K26_b1x, K26_b3x, ⟨O26_SX.out.o10⟩, ⟨O26_SD.out.o7⟩, B26⟩
      case round =>
        clear K26_g K26_b1x K26_b3x O26_SX O26_SD B26
        obtain ⟨k, l, rfl, hk2, hl2, hg2, ha2, hc2, ho, hu2, hb2⟩ := hrel
        have hkk2 := hk2.out
        have hll2 := hl2.out
        have wk : IntKind.i64.wrap ((k : Int) + 1) = ((k + 1 : Nat) : Int) := by rw [IntKind.wrap_i64]; omega
        by_cases hj : k < X.vs.length
        · have c3 : decide ((k : Int) < (X.vs.length : Int)) = true := decide_eq_true (by omega)
          obtain ⟨gx, cx, hs, -, -⟩ := ho.out.form (by omega)
          injection hs with hs1 hs2 hs3
          clear hs2 hs3
          have ho2 := ho.out
          rw [hs1] at ho2
          have hat := own_at_of (d := 0) ho2 (k : Int) (by omega) (by omega)
          have hst := (own_store_of ho2 (k : Int) (-1)).1
          have hrs := row_store ho2 (by decide) k (.int .i64 (-1))
          rw [Int.toNat_natCast] at hat hst
          have hat1 := hat.1
          have hat2 := hat.2
          have pc10 : wr.cell? ⟨b1x, 10, none⟩ = some (.slice (some ⟨gx, 0, none⟩) X.vs.length SX.c10) := by rw [← hs1]; exact (blk_cell ha2.out 10).trans rfl
          have i0 : decide (0 ≤ (k : Int)) = true := decide_eq_true (by omega)
          have HST := Aside0.mk hst
          have HRS := Aside0.mk hrs
          clear hst hrs hat ho2
          obtain ⟨kk, rfl⟩ : ∃ m, gk = m + 1 := ⟨gk - 1, by omega⟩
          go_wp2_with fail
          try rw [wk]
          go_roundg kk
          case measure => omega
          case rel => exact ⟨k + 1, l.set k (-1), rfl, ⟨by omega⟩, ⟨by rw [List.length_set]; exact hl2.out⟩, ⟨HRS.out.2.2.1 _ _ hg2.out⟩, ⟨HRS.out.2.2.1 _ _ ha2.out⟩, ⟨HRS.out.2.2.1 _ _ hc2.out⟩, ⟨by rw [hs1]; exact HST.out⟩, ⟨HRS.out.2.2.2 _ _ _ _ _ (by decide) hu2.out⟩, ⟨below_set hb2.out HRS.out.1⟩⟩
        · have c3 : decide ((k : Int) < (X.vs.length : Int)) = false := decide_eq_false (by omega)
          have pc10 : wr.cell? ⟨b1x, 10, none⟩ = some (.slice SX.A10 X.vs.length SX.c10) := (blk_cell ha2.out 10).trans rfl
          go_wp2_with fail
          clear pc10 ha2 ho
          go_loopg [15] D.us.length (fun gk v15 w' => ∃ (k : Nat) (l : List ByteArray), v15 = .int .i64 (k : Int) ∧ Aside0 (k + gk = D.us.length) ∧ Aside0 (l.length = D.us.length) ∧ Aside0 (w'.heap[g]? = some (.cells #[.string G.m, .bool G.b1, .bool G.b2, .bool G.b3, .bool G.b4, .bool G.b5, .bool G.b6, .slice S.A7 G.us.length S.c7, .slice S.A8 G.ms.length S.c8, .bool G.b9, .slice S.A10 G.vs.length S.c10] 25 (0, 0))) ∧ Aside0 (w'.heap[b3x]? = some (.cells #[.string D.m, .bool D.b1, .bool D.b2, .bool D.b3, .bool D.b4, .bool D.b5, .bool D.b6, .slice SD.A7 D.us.length SD.c7, .slice SD.A8 D.ms.length SD.c8, .bool D.b9, .slice SD.A10 D.vs.length SD.c10] 25 (0, 0))) ∧ Aside0 (w'.ownsRow w.heap.size 9 1 (.slice SD.A7 D.us.length SD.c7) D.us.length (encs Value.string l)) ∧ Aside0 (Below w.heap.size w w'))
          case atStart => exact ⟨0, D.us, rfl, ⟨by omega⟩, ⟨rfl⟩, hg2, hc2, hu2, hb2⟩
          case round =>
            clear hg2 hc2 hu2 hb2 hk2 hkk2 hl2 hll2 wk hj c3
            obtain ⟨k, l, rfl, hk2, hl2, hg2, hc2, ho, hb2⟩ := hrel
            have hkk2 := hk2.out
            have hll2 := hl2.out
            have wk : IntKind.i64.wrap ((k : Int) + 1) = ((k + 1 : Nat) : Int) := by rw [IntKind.wrap_i64]; omega
            by_cases hj : k < D.us.length
            · have c3 : decide ((k : Int) < (D.us.length : Int)) = true := decide_eq_true (by omega)
              obtain ⟨gx, cx, hs, -, -⟩ := ho.out.form (by omega)
              injection hs with hs1 hs2 hs3
              clear hs2 hs3
              have ho2 := ho.out
              rw [hs1] at ho2
              have hat := own_at_of (d := ByteArray.empty) ho2 (k : Int) (by omega) (by omega)
              have hst := (own_store_of ho2 (k : Int) (⟨#[]⟩ : ByteArray)).1
              have hrs := row_store ho2 (by decide) k (.string ⟨#[]⟩)
              rw [Int.toNat_natCast] at hat hst
              have hat1 := hat.1
              have hat2 := hat.2
              have pc7 : wr.cell? ⟨b3x, 7, none⟩ = some (.slice (some ⟨gx, 0, none⟩) D.us.length SD.c7) := by rw [← hs1]; exact (blk_cell hc2.out 7).trans rfl
              have i0 : decide (0 ≤ (k : Int)) = true := decide_eq_true (by omega)
              have HST := Aside0.mk hst
              have HRS := Aside0.mk hrs
              clear hst hrs hat ho2
              obtain ⟨kk, rfl⟩ : ∃ m, gk = m + 1 := ⟨gk - 1, by omega⟩
              go_wp2_with fail
              try rw [wk]
              go_roundg kk
              case measure => omega
              case rel => exact ⟨k + 1, l.set k ⟨#[]⟩, rfl, ⟨by omega⟩, ⟨by rw [List.length_set]; exact hl2.out⟩, ⟨HRS.out.2.2.1 _ _ hg2.out⟩, ⟨HRS.out.2.2.1 _ _ hc2.out⟩, ⟨by rw [hs1]; exact HST.out⟩, ⟨below_set hb2.out HRS.out.1⟩⟩
            · have c3 : decide ((k : Int) < (D.us.length : Int)) = false := decide_eq_false (by omega)
              have pc7 : wr.cell? ⟨b3x, 7, none⟩ = some (.slice SD.A7 D.us.length SD.c7) := (blk_cell hc2.out 7).trans rfl
              go_wp2_with fail
              try rw [wi]
              go_roundg ki
              case measure => omega
              case rel => exact ⟨i + 1, rfl, ⟨by omega⟩, hg2, hb2⟩
    · have c1 : decide ((i : Int) < 2) = false := decide_eq_false (by omega)
      have c2 : decide ((i : Int) ≤ 1) = false := decide_eq_false (by omega)
      go_wp2_with fail
      refine (fixed_f wr).mono ?_
      rintro e w_7 ⟨rfl, hb_⟩
      have B8 := Aside0.mk (below_step hbb.out hb_)
      have K8_g := Aside0.mk (blk_below hgb.out hb_)
      clear hb_ hbb hgb
      go_wp2
      go_ret
      exact ⟨rfl, B8.out⟩
end Go.Proofs.Ytnckogdplcijiaa.Hand
