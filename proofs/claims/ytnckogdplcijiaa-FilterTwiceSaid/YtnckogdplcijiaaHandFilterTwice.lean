/- Filters: contracts by hand, and the laws over them. -/
import Derived.Test.YtnckogdplcijiaaOwn
import Derived.Test.YtnckogdplcijiaaLT
import Derived.Test.YtnckogdplcijiaaFSm
namespace Go.Proofs.Ytnckogdplcijiaa.Hand
open Go Go.RowKit Go.Proofs.YtnckogdplcijiaaW.PrintWords Go.Proofs.YtnckogdplcijiaaW.PrintLast Go.Proofs.YtnckogdplcijiaaW.PrintMore Go.Proofs.Ytnckogdplcijiaa.Mth Go.Proofs.Ytnckogdplcijiaa.P Go.Proofs.Ytnckogdplcijiaa.Own Go.Proofs Go.Proofs.Ytnckogdplcijiaa.Fl
set_option linter.unusedVariables false
set_option linter.unusedSimpArgs false
set_option maxHeartbeats 16000000 in
set_option maxRecDepth 100000 in
theorem FilterTwice (F : Flt) (S : Sl) (a b : Int) (w : World) (hf : FV w F S) (wa : (Lit.int .i64 a).wf = true) (wb : (Lit.int .i64 b).wf = true) : Calls Try.prog 8 #[.agg #[.string F.m, .bool F.b1, .bool F.b2, .bool F.b3, .bool F.b4, .bool F.b5, .bool F.b6, .slice S.A7 F.us.length S.c7, .slice S.A8 F.ms.length S.c8, .bool F.b9, .slice S.A10 F.vs.length S.c10], .int .i64 a, .int .i64 b] w fun e w' => e = .returned (.bool true) ∧ Below w.heap.size w w' := by
  have HF := Aside0.mk hf
  clear hf
  have hu := Try.underlying25
  go_enter Try.func8, Try.ntmps8
  go_upto_region 1 with (fail)
  obtain ⟨w_1, hw_⟩ : ∃ w_, w.alloc (.cells #[.string F.m, .bool F.b1, .bool F.b2, .bool F.b3, .bool F.b4, .bool F.b5, .bool F.b6, .slice S.A7 F.us.length S.c7, .slice S.A8 F.ms.length S.c8, .bool F.b9, .slice S.A10 F.vs.length S.c10] 25) = w_ := ⟨_, rfl⟩
  have ha_ : Below w.heap.size w w_1 := by rw [← hw_]; exact below_alloc (Below.refl _ _) _
  have BX1 : Aside0 (w_1.heap[w.heap.size]? = some (.cells #[.string F.m, .bool F.b1, .bool F.b2, .bool F.b3, .bool F.b4, .bool F.b5, .bool F.b6, .slice S.A7 F.us.length S.c7, .slice S.A8 F.ms.length S.c8, .bool F.b9, .slice S.A10 F.vs.length S.c10] 25 (0, 0))) := ⟨by rw [← hw_]; exact blk_new w _⟩
  have hgB : w.heap.size ≤ w.heap.size := ((Below.refl w.heap.size w)).size
  rw [hw_]
  clear hw_
  obtain ⟨g, hg_⟩ : ∃ g_, w.heap.size = g_ := ⟨_, rfl⟩
  have G_g : Aside0 (w.heap.size ≤ g) := ⟨Nat.le_trans hgB (Nat.le_of_eq hg_)⟩
  rw [hg_] at BX1
  rw [hg_]
  clear hg_ hgB
  have B2 := Aside0.mk (below_step (Below.refl w.heap.size w) ha_)
  clear ha_ 
  have pc0 : w_1.cell? ⟨g, 0, none⟩ = some (.string F.m) := (blk_cell BX1.out 0).trans rfl
  have pc1 : w_1.cell? ⟨g, 1, none⟩ = some (.bool F.b1) := (blk_cell BX1.out 1).trans rfl
  have pc2 : w_1.cell? ⟨g, 2, none⟩ = some (.bool F.b2) := (blk_cell BX1.out 2).trans rfl
  have pc3 : w_1.cell? ⟨g, 3, none⟩ = some (.bool F.b3) := (blk_cell BX1.out 3).trans rfl
  have pc4 : w_1.cell? ⟨g, 4, none⟩ = some (.bool F.b4) := (blk_cell BX1.out 4).trans rfl
  have pc5 : w_1.cell? ⟨g, 5, none⟩ = some (.bool F.b5) := (blk_cell BX1.out 5).trans rfl
  have pc6 : w_1.cell? ⟨g, 6, none⟩ = some (.bool F.b6) := (blk_cell BX1.out 6).trans rfl
  have pc7 : w_1.cell? ⟨g, 7, none⟩ = some (.slice S.A7 F.us.length S.c7) := (blk_cell BX1.out 7).trans rfl
  have pc8 : w_1.cell? ⟨g, 8, none⟩ = some (.slice S.A8 F.ms.length S.c8) := (blk_cell BX1.out 8).trans rfl
  have pc9 : w_1.cell? ⟨g, 9, none⟩ = some (.bool F.b9) := (blk_cell BX1.out 9).trans rfl
  have pc10 : w_1.cell? ⟨g, 10, none⟩ = some (.slice S.A10 F.vs.length S.c10) := (blk_cell BX1.out 10).trans rfl
  go_wp2_with fail
  clear pc0 pc1 pc2 pc3 pc4 pc5 pc6 pc7 pc8 pc9 pc10
  refine (bound_f F S w_1 (HF.out.below B2.out)).mono ?_
  rintro e w_3 ⟨rfl, hb_⟩
  have B4 := Aside0.mk (below_step B2.out hb_)
  have K4_g := Aside0.mk (blk_below BX1.out hb_)
  clear hb_ B2 BX1
  have HG := Aside0.mk HF.out.bound
  have SM := Aside0.mk (boundF_small F)
  have MB := Aside0.mk (@May.of_bound F)
  obtain ⟨G, hG⟩ : ∃ G, boundF F = G := ⟨_, rfl⟩
  rw [hG] at HG SM MB
  rw [hG]
  clear hG HF
  have pc0 : w_3.cell? ⟨g, 0, none⟩ = some (.string F.m) := (blk_cell K4_g.out 0).trans rfl
  have pf0 := blk_frozen K4_g.out 0
  have pc1 : w_3.cell? ⟨g, 1, none⟩ = some (.bool F.b1) := (blk_cell K4_g.out 1).trans rfl
  have pf1 := blk_frozen K4_g.out 1
  have pc2 : w_3.cell? ⟨g, 2, none⟩ = some (.bool F.b2) := (blk_cell K4_g.out 2).trans rfl
  have pf2 := blk_frozen K4_g.out 2
  have pc3 : w_3.cell? ⟨g, 3, none⟩ = some (.bool F.b3) := (blk_cell K4_g.out 3).trans rfl
  have pf3 := blk_frozen K4_g.out 3
  have pc4 : w_3.cell? ⟨g, 4, none⟩ = some (.bool F.b4) := (blk_cell K4_g.out 4).trans rfl
  have pf4 := blk_frozen K4_g.out 4
  have pc5 : w_3.cell? ⟨g, 5, none⟩ = some (.bool F.b5) := (blk_cell K4_g.out 5).trans rfl
  have pf5 := blk_frozen K4_g.out 5
  have pc6 : w_3.cell? ⟨g, 6, none⟩ = some (.bool F.b6) := (blk_cell K4_g.out 6).trans rfl
  have pf6 := blk_frozen K4_g.out 6
  have pc7 : w_3.cell? ⟨g, 7, none⟩ = some (.slice S.A7 F.us.length S.c7) := (blk_cell K4_g.out 7).trans rfl
  have pf7 := blk_frozen K4_g.out 7
  have pc8 : w_3.cell? ⟨g, 8, none⟩ = some (.slice S.A8 F.ms.length S.c8) := (blk_cell K4_g.out 8).trans rfl
  have pf8 := blk_frozen K4_g.out 8
  have pc9 : w_3.cell? ⟨g, 9, none⟩ = some (.bool F.b9) := (blk_cell K4_g.out 9).trans rfl
  have pf9 := blk_frozen K4_g.out 9
  have pc10 : w_3.cell? ⟨g, 10, none⟩ = some (.slice S.A10 F.vs.length S.c10) := (blk_cell K4_g.out 10).trans rfl
  have pf10 := blk_frozen K4_g.out 10
  go_upto_region 2 with (fail)
  clear pc0 pf0 pc1 pf1 pc2 pf2 pc3 pf3 pc4 pf4 pc5 pf5 pc6 pf6 pc7 pf7 pc8 pf8 pc9 pf9 pc10 pf10
  obtain ⟨w_5, hw_⟩ : ∃ w_, (((((((((((w_3.setCell ⟨g, 0, none⟩ (.string G.m)).setCell ⟨g, 1, none⟩ (.bool G.b1)).setCell ⟨g, 2, none⟩ (.bool G.b2)).setCell ⟨g, 3, none⟩ (.bool G.b3)).setCell ⟨g, 4, none⟩ (.bool G.b4)).setCell ⟨g, 5, none⟩ (.bool G.b5)).setCell ⟨g, 6, none⟩ (.bool G.b6)).setCell ⟨g, 7, none⟩ (.slice S.A7 G.us.length S.c7)).setCell ⟨g, 8, none⟩ (.slice S.A8 G.ms.length S.c8)).setCell ⟨g, 9, none⟩ (.bool G.b9)).setCell ⟨g, 10, none⟩ (.slice S.A10 G.vs.length S.c10)) = w_ := ⟨_, rfl⟩
  have hu_ : Upd w_3 w_5 (fun k => k = g) := by rw [← hw_]; exact (flt_at g w_3 (.string G.m) (.bool G.b1) (.bool G.b2) (.bool G.b3) (.bool G.b4) (.bool G.b5) (.bool G.b6) (.slice S.A7 G.us.length S.c7) (.slice S.A8 G.ms.length S.c8) (.bool G.b9) (.slice S.A10 G.vs.length S.c10) K4_g.out).2
  have K6_g : Aside0 (w_5.heap[g]? = some (.cells #[.string G.m, .bool G.b1, .bool G.b2, .bool G.b3, .bool G.b4, .bool G.b5, .bool G.b6, .slice S.A7 G.us.length S.c7, .slice S.A8 G.ms.length S.c8, .bool G.b9, .slice S.A10 G.vs.length S.c10] 25 (0, 0))) := ⟨by rw [← hw_]; exact (flt_at g w_3 (.string G.m) (.bool G.b1) (.bool G.b2) (.bool G.b3) (.bool G.b4) (.bool G.b5) (.bool G.b6) (.slice S.A7 G.us.length S.c7) (.slice S.A8 G.ms.length S.c8) (.bool G.b9) (.slice S.A10 G.vs.length S.c10) K4_g.out).1⟩
  rw [hw_]
  clear hw_
  have B6 := Aside0.mk (B4.out.trans (hu_.toBelow (B := w.heap.size) (fun k hk => by rw [hk]; exact G_g.out) (B4.out).size))
  clear hu_ B4 K4_g
  have pc0 : w_5.cell? ⟨g, 0, none⟩ = some (.string G.m) := (blk_cell K6_g.out 0).trans rfl
  have pc1 : w_5.cell? ⟨g, 1, none⟩ = some (.bool G.b1) := (blk_cell K6_g.out 1).trans rfl
  have pc2 : w_5.cell? ⟨g, 2, none⟩ = some (.bool G.b2) := (blk_cell K6_g.out 2).trans rfl
  have pc3 : w_5.cell? ⟨g, 3, none⟩ = some (.bool G.b3) := (blk_cell K6_g.out 3).trans rfl
  have pc4 : w_5.cell? ⟨g, 4, none⟩ = some (.bool G.b4) := (blk_cell K6_g.out 4).trans rfl
  have pc5 : w_5.cell? ⟨g, 5, none⟩ = some (.bool G.b5) := (blk_cell K6_g.out 5).trans rfl
  have pc6 : w_5.cell? ⟨g, 6, none⟩ = some (.bool G.b6) := (blk_cell K6_g.out 6).trans rfl
  have pc7 : w_5.cell? ⟨g, 7, none⟩ = some (.slice S.A7 G.us.length S.c7) := (blk_cell K6_g.out 7).trans rfl
  have pc8 : w_5.cell? ⟨g, 8, none⟩ = some (.slice S.A8 G.ms.length S.c8) := (blk_cell K6_g.out 8).trans rfl
  have pc9 : w_5.cell? ⟨g, 9, none⟩ = some (.bool G.b9) := (blk_cell K6_g.out 9).trans rfl
  have pc10 : w_5.cell? ⟨g, 10, none⟩ = some (.slice S.A10 G.vs.length S.c10) := (blk_cell K6_g.out 10).trans rfl
  go_wp2_with fail
  clear pc0 pc1 pc2 pc3 pc4 pc5 pc6 pc7 pc8 pc9 pc10
  obtain ⟨n, hn_⟩ : ∃ n_, (bits BinOp.and IntKind.i64 a 65535).tmod 4095 = n_ := ⟨_, rfl⟩
  have N0 : 0 ≤ n := by rw [← hn_]; exact (net_bd a).1
  have N1 : n ≤ 4094 := by rw [← hn_]; exact (net_bd a).2
  rw [hn_]
  clear hn_
  obtain ⟨k, hn_⟩ : ∃ n_, (bits BinOp.and IntKind.i64 b 65535).tmod 4095 = n_ := ⟨_, rfl⟩
  have K0 : 0 ≤ k := by rw [← hn_]; exact (net_bd b).1
  have K1 : k ≤ 4094 := by rw [← hn_]; exact (net_bd b).2
  rw [hn_]
  clear hn_
  by_cases hN : netsS G.vs = true
  · have M0 := Aside0.mk (MB.out hN)
    obtain ⟨X, hX⟩ : ∃ x_, insF n G = x_ := ⟨_, rfl⟩
    have M1 := Aside0.mk (M0.out.ins N0 N1)
    rw [hX] at M1
    refine (add_may (G := X) n hX S w_5 (HG.out.below B6.out) M0.out (by decide) N0 N1).mono ?_
    rintro e w_7 ⟨SX, rfl, ho_, hb_⟩
    have B8 := Aside0.mk (below_step B6.out hb_)
    have K8_g := Aside0.mk (blk_below K6_g.out hb_)
    clear hb_ B6 K6_g
    have OV_SX := Aside0.mk (ho_)
    clear ho_
    go_upto_region 4 with (fail)
    obtain ⟨w_9, hw_⟩ : ∃ w_, w_7.alloc (.cells #[.string X.m, .bool X.b1, .bool X.b2, .bool X.b3, .bool X.b4, .bool X.b5, .bool X.b6, .slice SX.A7 X.us.length SX.c7, .slice SX.A8 X.ms.length SX.c8, .bool X.b9, .slice SX.A10 X.vs.length SX.c10] 25) = w_ := ⟨_, rfl⟩
    have ha_ : Below w_7.heap.size w_7 w_9 := by rw [← hw_]; exact below_alloc (Below.refl _ _) _
    have BX9 : Aside0 (w_9.heap[w_7.heap.size]? = some (.cells #[.string X.m, .bool X.b1, .bool X.b2, .bool X.b3, .bool X.b4, .bool X.b5, .bool X.b6, .slice SX.A7 X.us.length SX.c7, .slice SX.A8 X.ms.length SX.c8, .bool X.b9, .slice SX.A10 X.vs.length SX.c10] 25 (0, 0))) := ⟨by rw [← hw_]; exact blk_new w_7 _⟩
    have hgB : w.heap.size ≤ w_7.heap.size := (B8.out).size
    have hl_g : g < w_7.heap.size := blk_lt K8_g.out
    rw [hw_]
    clear hw_
    obtain ⟨x, hg_⟩ : ∃ g_, w_7.heap.size = g_ := ⟨_, rfl⟩
    have G_x : Aside0 (w.heap.size ≤ x) := ⟨Nat.le_trans hgB (Nat.le_of_eq hg_)⟩
    rw [hg_] at BX9 hl_g
    rw [hg_]
    clear hg_ hgB
    have E_g_x := Aside0.mk hl_g
    clear hl_g
    have B10 := Aside0.mk (below_step B8.out ha_)
    have K10_g := Aside0.mk (blk_below K8_g.out ha_)
    have O10_SX := Aside0.mk (OV_SX.out.below ha_)
    clear ha_ B8 K8_g OV_SX
    have pc0 : w_9.cell? ⟨x, 0, none⟩ = some (.string X.m) := (blk_cell BX9.out 0).trans rfl
    have pc1 : w_9.cell? ⟨x, 1, none⟩ = some (.bool X.b1) := (blk_cell BX9.out 1).trans rfl
    have pc2 : w_9.cell? ⟨x, 2, none⟩ = some (.bool X.b2) := (blk_cell BX9.out 2).trans rfl
    have pc3 : w_9.cell? ⟨x, 3, none⟩ = some (.bool X.b3) := (blk_cell BX9.out 3).trans rfl
    have pc4 : w_9.cell? ⟨x, 4, none⟩ = some (.bool X.b4) := (blk_cell BX9.out 4).trans rfl
    have pc5 : w_9.cell? ⟨x, 5, none⟩ = some (.bool X.b5) := (blk_cell BX9.out 5).trans rfl
    have pc6 : w_9.cell? ⟨x, 6, none⟩ = some (.bool X.b6) := (blk_cell BX9.out 6).trans rfl
    have pc7 : w_9.cell? ⟨x, 7, none⟩ = some (.slice SX.A7 X.us.length SX.c7) := (blk_cell BX9.out 7).trans rfl
    have pc8 : w_9.cell? ⟨x, 8, none⟩ = some (.slice SX.A8 X.ms.length SX.c8) := (blk_cell BX9.out 8).trans rfl
    have pc9 : w_9.cell? ⟨x, 9, none⟩ = some (.bool X.b9) := (blk_cell BX9.out 9).trans rfl
    have pc10 : w_9.cell? ⟨x, 10, none⟩ = some (.slice SX.A10 X.vs.length SX.c10) := (blk_cell BX9.out 10).trans rfl
    go_wp2_with fail
    clear pc0 pc1 pc2 pc3 pc4 pc5 pc6 pc7 pc8 pc9 pc10
    refine (add_may (G := X) n (by rw [← hX]; exact insF_insF M0.out n) SX w_9 O10_SX.out.fv M1.out (by decide) N0 N1).mono ?_
    rintro e w_11 ⟨SY, rfl, ho_, hb_⟩
    have B12 := Aside0.mk (below_step B10.out hb_)
    have K12_g := Aside0.mk (blk_below K10_g.out hb_)
    have K12_x := Aside0.mk (blk_below BX9.out hb_)
    have O12_SX := Aside0.mk (O10_SX.out.below hb_)
    clear hb_ B10 K10_g BX9 O10_SX
    have OV_SY := Aside0.mk (ho_)
    clear ho_
    go_upto_region 7 with (fail)
    obtain ⟨w_13, hw_⟩ : ∃ w_, w_11.alloc (.cells #[.string X.m, .bool X.b1, .bool X.b2, .bool X.b3, .bool X.b4, .bool X.b5, .bool X.b6, .slice SY.A7 X.us.length SY.c7, .slice SY.A8 X.ms.length SY.c8, .bool X.b9, .slice SY.A10 X.vs.length SY.c10] 25) = w_ := ⟨_, rfl⟩
    have ha_ : Below w_11.heap.size w_11 w_13 := by rw [← hw_]; exact below_alloc (Below.refl _ _) _
    have BX13 : Aside0 (w_13.heap[w_11.heap.size]? = some (.cells #[.string X.m, .bool X.b1, .bool X.b2, .bool X.b3, .bool X.b4, .bool X.b5, .bool X.b6, .slice SY.A7 X.us.length SY.c7, .slice SY.A8 X.ms.length SY.c8, .bool X.b9, .slice SY.A10 X.vs.length SY.c10] 25 (0, 0))) := ⟨by rw [← hw_]; exact blk_new w_11 _⟩
    have hgB : w.heap.size ≤ w_11.heap.size := (B12.out).size
    have hl_g : g < w_11.heap.size := blk_lt K12_g.out
    have hl_x : x < w_11.heap.size := blk_lt K12_x.out
    rw [hw_]
    clear hw_
    obtain ⟨y, hg_⟩ : ∃ g_, w_11.heap.size = g_ := ⟨_, rfl⟩
    have G_y : Aside0 (w.heap.size ≤ y) := ⟨Nat.le_trans hgB (Nat.le_of_eq hg_)⟩
    rw [hg_] at BX13 hl_g hl_x
    rw [hg_]
    clear hg_ hgB
    have E_g_y := Aside0.mk hl_g
    clear hl_g
    have E_x_y := Aside0.mk hl_x
    clear hl_x
    have B14 := Aside0.mk (below_step B12.out ha_)
    have K14_g := Aside0.mk (blk_below K12_g.out ha_)
    have K14_x := Aside0.mk (blk_below K12_x.out ha_)
    have O14_SX := Aside0.mk (O12_SX.out.below ha_)
    have O14_SY := Aside0.mk (OV_SY.out.below ha_)
    clear ha_ B12 K12_g K12_x O12_SX OV_SY
    obtain ⟨Z, hZ⟩ : ∃ x_, insF k X = x_ := ⟨_, rfl⟩
    have M2 := Aside0.mk (M1.out.ins K0 K1)
    rw [hZ] at M2
    have pc0 : w_13.cell? ⟨x, 0, none⟩ = some (.string X.m) := (blk_cell K14_x.out 0).trans rfl
    have pc1 : w_13.cell? ⟨x, 1, none⟩ = some (.bool X.b1) := (blk_cell K14_x.out 1).trans rfl
    have pc2 : w_13.cell? ⟨x, 2, none⟩ = some (.bool X.b2) := (blk_cell K14_x.out 2).trans rfl
    have pc3 : w_13.cell? ⟨x, 3, none⟩ = some (.bool X.b3) := (blk_cell K14_x.out 3).trans rfl
    have pc4 : w_13.cell? ⟨x, 4, none⟩ = some (.bool X.b4) := (blk_cell K14_x.out 4).trans rfl
    have pc5 : w_13.cell? ⟨x, 5, none⟩ = some (.bool X.b5) := (blk_cell K14_x.out 5).trans rfl
    have pc6 : w_13.cell? ⟨x, 6, none⟩ = some (.bool X.b6) := (blk_cell K14_x.out 6).trans rfl
    have pc7 : w_13.cell? ⟨x, 7, none⟩ = some (.slice SX.A7 X.us.length SX.c7) := (blk_cell K14_x.out 7).trans rfl
    have pc8 : w_13.cell? ⟨x, 8, none⟩ = some (.slice SX.A8 X.ms.length SX.c8) := (blk_cell K14_x.out 8).trans rfl
    have pc9 : w_13.cell? ⟨x, 9, none⟩ = some (.bool X.b9) := (blk_cell K14_x.out 9).trans rfl
    have pc10 : w_13.cell? ⟨x, 10, none⟩ = some (.slice SX.A10 X.vs.length SX.c10) := (blk_cell K14_x.out 10).trans rfl
    go_wp2_with fail
    clear pc0 pc1 pc2 pc3 pc4 pc5 pc6 pc7 pc8 pc9 pc10
    refine (add_may (G := Z) k hZ SX w_13 O14_SX.out.fv M1.out (by decide) K0 K1).mono ?_
    rintro e w_15 ⟨SZ, rfl, ho_, hb_⟩
    have B16 := Aside0.mk (below_step B14.out hb_)
    have K16_g := Aside0.mk (blk_below K14_g.out hb_)
    have K16_x := Aside0.mk (blk_below K14_x.out hb_)
    have K16_y := Aside0.mk (blk_below BX13.out hb_)
    have O16_SX := Aside0.mk (O14_SX.out.below hb_)
    have O16_SY := Aside0.mk (O14_SY.out.below hb_)
    clear hb_ B14 K14_g K14_x BX13 O14_SX O14_SY
    have OV_SZ := Aside0.mk (ho_)
    clear ho_
    go_upto_region 8 with (fail)
    obtain ⟨w_17, hw_⟩ : ∃ w_, w_15.alloc (.cells #[.string Z.m, .bool Z.b1, .bool Z.b2, .bool Z.b3, .bool Z.b4, .bool Z.b5, .bool Z.b6, .slice SZ.A7 Z.us.length SZ.c7, .slice SZ.A8 Z.ms.length SZ.c8, .bool Z.b9, .slice SZ.A10 Z.vs.length SZ.c10] 25) = w_ := ⟨_, rfl⟩
    have ha_ : Below w_15.heap.size w_15 w_17 := by rw [← hw_]; exact below_alloc (Below.refl _ _) _
    have BX17 : Aside0 (w_17.heap[w_15.heap.size]? = some (.cells #[.string Z.m, .bool Z.b1, .bool Z.b2, .bool Z.b3, .bool Z.b4, .bool Z.b5, .bool Z.b6, .slice SZ.A7 Z.us.length SZ.c7, .slice SZ.A8 Z.ms.length SZ.c8, .bool Z.b9, .slice SZ.A10 Z.vs.length SZ.c10] 25 (0, 0))) := ⟨by rw [← hw_]; exact blk_new w_15 _⟩
    have hgB : w.heap.size ≤ w_15.heap.size := (B16.out).size
    have hl_g : g < w_15.heap.size := blk_lt K16_g.out
    have hl_x : x < w_15.heap.size := blk_lt K16_x.out
    have hl_y : y < w_15.heap.size := blk_lt K16_y.out
    rw [hw_]
    clear hw_
    obtain ⟨z, hg_⟩ : ∃ g_, w_15.heap.size = g_ := ⟨_, rfl⟩
    have G_z : Aside0 (w.heap.size ≤ z) := ⟨Nat.le_trans hgB (Nat.le_of_eq hg_)⟩
    rw [hg_] at BX17 hl_g hl_x hl_y
    rw [hg_]
    clear hg_ hgB
    have E_g_z := Aside0.mk hl_g
    clear hl_g
    have E_x_z := Aside0.mk hl_x
    clear hl_x
    have E_y_z := Aside0.mk hl_y
    clear hl_y
    have B18 := Aside0.mk (below_step B16.out ha_)
    have K18_g := Aside0.mk (blk_below K16_g.out ha_)
    have K18_x := Aside0.mk (blk_below K16_x.out ha_)
    have K18_y := Aside0.mk (blk_below K16_y.out ha_)
    have O18_SX := Aside0.mk (O16_SX.out.below ha_)
    have O18_SY := Aside0.mk (O16_SY.out.below ha_)
    have O18_SZ := Aside0.mk (OV_SZ.out.below ha_)
    clear ha_ B16 K16_g K16_x K16_y O16_SX O16_SY OV_SZ
    obtain ⟨U, hU⟩ : ∃ x_, insF k G = x_ := ⟨_, rfl⟩
    have M3 := Aside0.mk (M0.out.ins K0 K1)
    rw [hU] at M3
    have pc0 : w_17.cell? ⟨g, 0, none⟩ = some (.string G.m) := (blk_cell K18_g.out 0).trans rfl
    have pc1 : w_17.cell? ⟨g, 1, none⟩ = some (.bool G.b1) := (blk_cell K18_g.out 1).trans rfl
    have pc2 : w_17.cell? ⟨g, 2, none⟩ = some (.bool G.b2) := (blk_cell K18_g.out 2).trans rfl
    have pc3 : w_17.cell? ⟨g, 3, none⟩ = some (.bool G.b3) := (blk_cell K18_g.out 3).trans rfl
    have pc4 : w_17.cell? ⟨g, 4, none⟩ = some (.bool G.b4) := (blk_cell K18_g.out 4).trans rfl
    have pc5 : w_17.cell? ⟨g, 5, none⟩ = some (.bool G.b5) := (blk_cell K18_g.out 5).trans rfl
    have pc6 : w_17.cell? ⟨g, 6, none⟩ = some (.bool G.b6) := (blk_cell K18_g.out 6).trans rfl
    have pc7 : w_17.cell? ⟨g, 7, none⟩ = some (.slice S.A7 G.us.length S.c7) := (blk_cell K18_g.out 7).trans rfl
    have pc8 : w_17.cell? ⟨g, 8, none⟩ = some (.slice S.A8 G.ms.length S.c8) := (blk_cell K18_g.out 8).trans rfl
    have pc9 : w_17.cell? ⟨g, 9, none⟩ = some (.bool G.b9) := (blk_cell K18_g.out 9).trans rfl
    have pc10 : w_17.cell? ⟨g, 10, none⟩ = some (.slice S.A10 G.vs.length S.c10) := (blk_cell K18_g.out 10).trans rfl
    go_wp2_with fail
    clear pc0 pc1 pc2 pc3 pc4 pc5 pc6 pc7 pc8 pc9 pc10
    refine (add_may (G := U) k hU S w_17 (HG.out.below B18.out) M0.out (by decide) K0 K1).mono ?_
    rintro e w_19 ⟨SU, rfl, ho_, hb_⟩
    have B20 := Aside0.mk (below_step B18.out hb_)
    have K20_g := Aside0.mk (blk_below K18_g.out hb_)
    have K20_x := Aside0.mk (blk_below K18_x.out hb_)
    have K20_y := Aside0.mk (blk_below K18_y.out hb_)
    have K20_z := Aside0.mk (blk_below BX17.out hb_)
    have O20_SX := Aside0.mk (O18_SX.out.below hb_)
    have O20_SY := Aside0.mk (O18_SY.out.below hb_)
    have O20_SZ := Aside0.mk (O18_SZ.out.below hb_)
    clear hb_ B18 K18_g K18_x K18_y BX17 O18_SX O18_SY O18_SZ
    have OV_SU := Aside0.mk (ho_)
    clear ho_
    go_upto_region 9 with (fail)
    obtain ⟨w_21, hw_⟩ : ∃ w_, w_19.alloc (.cells #[.string U.m, .bool U.b1, .bool U.b2, .bool U.b3, .bool U.b4, .bool U.b5, .bool U.b6, .slice SU.A7 U.us.length SU.c7, .slice SU.A8 U.ms.length SU.c8, .bool U.b9, .slice SU.A10 U.vs.length SU.c10] 25) = w_ := ⟨_, rfl⟩
    have ha_ : Below w_19.heap.size w_19 w_21 := by rw [← hw_]; exact below_alloc (Below.refl _ _) _
    have BX21 : Aside0 (w_21.heap[w_19.heap.size]? = some (.cells #[.string U.m, .bool U.b1, .bool U.b2, .bool U.b3, .bool U.b4, .bool U.b5, .bool U.b6, .slice SU.A7 U.us.length SU.c7, .slice SU.A8 U.ms.length SU.c8, .bool U.b9, .slice SU.A10 U.vs.length SU.c10] 25 (0, 0))) := ⟨by rw [← hw_]; exact blk_new w_19 _⟩
    have hgB : w.heap.size ≤ w_19.heap.size := (B20.out).size
    have hl_g : g < w_19.heap.size := blk_lt K20_g.out
    have hl_x : x < w_19.heap.size := blk_lt K20_x.out
    have hl_y : y < w_19.heap.size := blk_lt K20_y.out
    have hl_z : z < w_19.heap.size := blk_lt K20_z.out
    rw [hw_]
    clear hw_
    obtain ⟨u, hg_⟩ : ∃ g_, w_19.heap.size = g_ := ⟨_, rfl⟩
    have G_u : Aside0 (w.heap.size ≤ u) := ⟨Nat.le_trans hgB (Nat.le_of_eq hg_)⟩
    rw [hg_] at BX21 hl_g hl_x hl_y hl_z
    rw [hg_]
    clear hg_ hgB
    have E_g_u := Aside0.mk hl_g
    clear hl_g
    have E_x_u := Aside0.mk hl_x
    clear hl_x
    have E_y_u := Aside0.mk hl_y
    clear hl_y
    have E_z_u := Aside0.mk hl_z
    clear hl_z
    have B22 := Aside0.mk (below_step B20.out ha_)
    have K22_g := Aside0.mk (blk_below K20_g.out ha_)
    have K22_x := Aside0.mk (blk_below K20_x.out ha_)
    have K22_y := Aside0.mk (blk_below K20_y.out ha_)
    have K22_z := Aside0.mk (blk_below K20_z.out ha_)
    have O22_SX := Aside0.mk (O20_SX.out.below ha_)
    have O22_SY := Aside0.mk (O20_SY.out.below ha_)
    have O22_SZ := Aside0.mk (O20_SZ.out.below ha_)
    have O22_SU := Aside0.mk (OV_SU.out.below ha_)
    clear ha_ B20 K20_g K20_x K20_y K20_z O20_SX O20_SY O20_SZ OV_SU
    have pc0 : w_21.cell? ⟨u, 0, none⟩ = some (.string U.m) := (blk_cell BX21.out 0).trans rfl
    have pc1 : w_21.cell? ⟨u, 1, none⟩ = some (.bool U.b1) := (blk_cell BX21.out 1).trans rfl
    have pc2 : w_21.cell? ⟨u, 2, none⟩ = some (.bool U.b2) := (blk_cell BX21.out 2).trans rfl
    have pc3 : w_21.cell? ⟨u, 3, none⟩ = some (.bool U.b3) := (blk_cell BX21.out 3).trans rfl
    have pc4 : w_21.cell? ⟨u, 4, none⟩ = some (.bool U.b4) := (blk_cell BX21.out 4).trans rfl
    have pc5 : w_21.cell? ⟨u, 5, none⟩ = some (.bool U.b5) := (blk_cell BX21.out 5).trans rfl
    have pc6 : w_21.cell? ⟨u, 6, none⟩ = some (.bool U.b6) := (blk_cell BX21.out 6).trans rfl
    have pc7 : w_21.cell? ⟨u, 7, none⟩ = some (.slice SU.A7 U.us.length SU.c7) := (blk_cell BX21.out 7).trans rfl
    have pc8 : w_21.cell? ⟨u, 8, none⟩ = some (.slice SU.A8 U.ms.length SU.c8) := (blk_cell BX21.out 8).trans rfl
    have pc9 : w_21.cell? ⟨u, 9, none⟩ = some (.bool U.b9) := (blk_cell BX21.out 9).trans rfl
    have pc10 : w_21.cell? ⟨u, 10, none⟩ = some (.slice SU.A10 U.vs.length SU.c10) := (blk_cell BX21.out 10).trans rfl
    go_wp2_with fail
    clear pc0 pc1 pc2 pc3 pc4 pc5 pc6 pc7 pc8 pc9 pc10
    refine (add_may (G := Z) n (by rw [← hU, ← hZ, ← hX]; exact insF_comm M0.out n k) SU w_21 O22_SU.out.fv M3.out (by decide) N0 N1).mono ?_
    rintro e w_23 ⟨SV, rfl, ho_, hb_⟩
    have B24 := Aside0.mk (below_step B22.out hb_)
    have K24_g := Aside0.mk (blk_below K22_g.out hb_)
    have K24_x := Aside0.mk (blk_below K22_x.out hb_)
    have K24_y := Aside0.mk (blk_below K22_y.out hb_)
    have K24_z := Aside0.mk (blk_below K22_z.out hb_)
    have K24_u := Aside0.mk (blk_below BX21.out hb_)
    have O24_SX := Aside0.mk (O22_SX.out.below hb_)
    have O24_SY := Aside0.mk (O22_SY.out.below hb_)
    have O24_SZ := Aside0.mk (O22_SZ.out.below hb_)
    have O24_SU := Aside0.mk (O22_SU.out.below hb_)
    clear hb_ B22 K22_g K22_x K22_y K22_z BX21 O22_SX O22_SY O22_SZ O22_SU
    have OV_SV := Aside0.mk (ho_)
    clear ho_
    go_upto_region 10 with (fail)
    obtain ⟨w_25, hw_⟩ : ∃ w_, w_23.alloc (.cells #[.string Z.m, .bool Z.b1, .bool Z.b2, .bool Z.b3, .bool Z.b4, .bool Z.b5, .bool Z.b6, .slice SV.A7 Z.us.length SV.c7, .slice SV.A8 Z.ms.length SV.c8, .bool Z.b9, .slice SV.A10 Z.vs.length SV.c10] 25) = w_ := ⟨_, rfl⟩
    have ha_ : Below w_23.heap.size w_23 w_25 := by rw [← hw_]; exact below_alloc (Below.refl _ _) _
    have BX25 : Aside0 (w_25.heap[w_23.heap.size]? = some (.cells #[.string Z.m, .bool Z.b1, .bool Z.b2, .bool Z.b3, .bool Z.b4, .bool Z.b5, .bool Z.b6, .slice SV.A7 Z.us.length SV.c7, .slice SV.A8 Z.ms.length SV.c8, .bool Z.b9, .slice SV.A10 Z.vs.length SV.c10] 25 (0, 0))) := ⟨by rw [← hw_]; exact blk_new w_23 _⟩
    have hgB : w.heap.size ≤ w_23.heap.size := (B24.out).size
    have hl_g : g < w_23.heap.size := blk_lt K24_g.out
    have hl_x : x < w_23.heap.size := blk_lt K24_x.out
    have hl_y : y < w_23.heap.size := blk_lt K24_y.out
    have hl_z : z < w_23.heap.size := blk_lt K24_z.out
    have hl_u : u < w_23.heap.size := blk_lt K24_u.out
    rw [hw_]
    clear hw_
    obtain ⟨v, hg_⟩ : ∃ g_, w_23.heap.size = g_ := ⟨_, rfl⟩
    have G_v : Aside0 (w.heap.size ≤ v) := ⟨Nat.le_trans hgB (Nat.le_of_eq hg_)⟩
    rw [hg_] at BX25 hl_g hl_x hl_y hl_z hl_u
    rw [hg_]
    clear hg_ hgB
    have E_g_v := Aside0.mk hl_g
    clear hl_g
    have E_x_v := Aside0.mk hl_x
    clear hl_x
    have E_y_v := Aside0.mk hl_y
    clear hl_y
    have E_z_v := Aside0.mk hl_z
    clear hl_z
    have E_u_v := Aside0.mk hl_u
    clear hl_u
    have B26 := Aside0.mk (below_step B24.out ha_)
    have K26_g := Aside0.mk (blk_below K24_g.out ha_)
    have K26_x := Aside0.mk (blk_below K24_x.out ha_)
    have K26_y := Aside0.mk (blk_below K24_y.out ha_)
    have K26_z := Aside0.mk (blk_below K24_z.out ha_)
    have K26_u := Aside0.mk (blk_below K24_u.out ha_)
    have O26_SX := Aside0.mk (O24_SX.out.below ha_)
    have O26_SY := Aside0.mk (O24_SY.out.below ha_)
    have O26_SZ := Aside0.mk (O24_SZ.out.below ha_)
    have O26_SU := Aside0.mk (O24_SU.out.below ha_)
    have O26_SV := Aside0.mk (OV_SV.out.below ha_)
    clear ha_ B24 K24_g K24_x K24_y K24_z K24_u O24_SX O24_SY O24_SZ O24_SU OV_SV
    obtain ⟨D, hD⟩ : ∃ x_, delF n X = x_ := ⟨_, rfl⟩
    have M4 := Aside0.mk (M1.out.del n)
    rw [hD] at M4
    have pc0 : w_25.cell? ⟨x, 0, none⟩ = some (.string X.m) := (blk_cell K26_x.out 0).trans rfl
    have pc1 : w_25.cell? ⟨x, 1, none⟩ = some (.bool X.b1) := (blk_cell K26_x.out 1).trans rfl
    have pc2 : w_25.cell? ⟨x, 2, none⟩ = some (.bool X.b2) := (blk_cell K26_x.out 2).trans rfl
    have pc3 : w_25.cell? ⟨x, 3, none⟩ = some (.bool X.b3) := (blk_cell K26_x.out 3).trans rfl
    have pc4 : w_25.cell? ⟨x, 4, none⟩ = some (.bool X.b4) := (blk_cell K26_x.out 4).trans rfl
    have pc5 : w_25.cell? ⟨x, 5, none⟩ = some (.bool X.b5) := (blk_cell K26_x.out 5).trans rfl
    have pc6 : w_25.cell? ⟨x, 6, none⟩ = some (.bool X.b6) := (blk_cell K26_x.out 6).trans rfl
    have pc7 : w_25.cell? ⟨x, 7, none⟩ = some (.slice SX.A7 X.us.length SX.c7) := (blk_cell K26_x.out 7).trans rfl
    have pc8 : w_25.cell? ⟨x, 8, none⟩ = some (.slice SX.A8 X.ms.length SX.c8) := (blk_cell K26_x.out 8).trans rfl
    have pc9 : w_25.cell? ⟨x, 9, none⟩ = some (.bool X.b9) := (blk_cell K26_x.out 9).trans rfl
    have pc10 : w_25.cell? ⟨x, 10, none⟩ = some (.slice SX.A10 X.vs.length SX.c10) := (blk_cell K26_x.out 10).trans rfl
    go_wp2_with fail
    clear pc0 pc1 pc2 pc3 pc4 pc5 pc6 pc7 pc8 pc9 pc10
    refine (del_may (G := D) n hD SX w_25 O26_SX.out.fv M1.out (by decide) N0 N1).mono ?_
    rintro e w_27 ⟨SD, rfl, ho_, hb_⟩
    have B28 := Aside0.mk (below_step B26.out hb_)
    have K28_g := Aside0.mk (blk_below K26_g.out hb_)
    have K28_x := Aside0.mk (blk_below K26_x.out hb_)
    have K28_y := Aside0.mk (blk_below K26_y.out hb_)
    have K28_z := Aside0.mk (blk_below K26_z.out hb_)
    have K28_u := Aside0.mk (blk_below K26_u.out hb_)
    have K28_v := Aside0.mk (blk_below BX25.out hb_)
    have O28_SX := Aside0.mk (O26_SX.out.below hb_)
    have O28_SY := Aside0.mk (O26_SY.out.below hb_)
    have O28_SZ := Aside0.mk (O26_SZ.out.below hb_)
    have O28_SU := Aside0.mk (O26_SU.out.below hb_)
    have O28_SV := Aside0.mk (O26_SV.out.below hb_)
    clear hb_ B26 K26_g K26_x K26_y K26_z K26_u BX25 O26_SX O26_SY O26_SZ O26_SU O26_SV
    have OV_SD := Aside0.mk (ho_)
    clear ho_
    go_upto_region 11 with (fail)
    obtain ⟨w_29, hw_⟩ : ∃ w_, w_27.alloc (.cells #[.string D.m, .bool D.b1, .bool D.b2, .bool D.b3, .bool D.b4, .bool D.b5, .bool D.b6, .slice SD.A7 D.us.length SD.c7, .slice SD.A8 D.ms.length SD.c8, .bool D.b9, .slice SD.A10 D.vs.length SD.c10] 25) = w_ := ⟨_, rfl⟩
    have ha_ : Below w_27.heap.size w_27 w_29 := by rw [← hw_]; exact below_alloc (Below.refl _ _) _
    have BX29 : Aside0 (w_29.heap[w_27.heap.size]? = some (.cells #[.string D.m, .bool D.b1, .bool D.b2, .bool D.b3, .bool D.b4, .bool D.b5, .bool D.b6, .slice SD.A7 D.us.length SD.c7, .slice SD.A8 D.ms.length SD.c8, .bool D.b9, .slice SD.A10 D.vs.length SD.c10] 25 (0, 0))) := ⟨by rw [← hw_]; exact blk_new w_27 _⟩
    have hgB : w.heap.size ≤ w_27.heap.size := (B28.out).size
    have hl_g : g < w_27.heap.size := blk_lt K28_g.out
    have hl_x : x < w_27.heap.size := blk_lt K28_x.out
    have hl_y : y < w_27.heap.size := blk_lt K28_y.out
    have hl_z : z < w_27.heap.size := blk_lt K28_z.out
    have hl_u : u < w_27.heap.size := blk_lt K28_u.out
    have hl_v : v < w_27.heap.size := blk_lt K28_v.out
    rw [hw_]
    clear hw_
    obtain ⟨d, hg_⟩ : ∃ g_, w_27.heap.size = g_ := ⟨_, rfl⟩
    have G_d : Aside0 (w.heap.size ≤ d) := ⟨Nat.le_trans hgB (Nat.le_of_eq hg_)⟩
    rw [hg_] at BX29 hl_g hl_x hl_y hl_z hl_u hl_v
    rw [hg_]
    clear hg_ hgB
    have E_g_d := Aside0.mk hl_g
    clear hl_g
    have E_x_d := Aside0.mk hl_x
    clear hl_x
    have E_y_d := Aside0.mk hl_y
    clear hl_y
    have E_z_d := Aside0.mk hl_z
    clear hl_z
    have E_u_d := Aside0.mk hl_u
    clear hl_u
    have E_v_d := Aside0.mk hl_v
    clear hl_v
    have B30 := Aside0.mk (below_step B28.out ha_)
    have K30_g := Aside0.mk (blk_below K28_g.out ha_)
    have K30_x := Aside0.mk (blk_below K28_x.out ha_)
    have K30_y := Aside0.mk (blk_below K28_y.out ha_)
    have K30_z := Aside0.mk (blk_below K28_z.out ha_)
    have K30_u := Aside0.mk (blk_below K28_u.out ha_)
    have K30_v := Aside0.mk (blk_below K28_v.out ha_)
    have O30_SX := Aside0.mk (O28_SX.out.below ha_)
    have O30_SY := Aside0.mk (O28_SY.out.below ha_)
    have O30_SZ := Aside0.mk (O28_SZ.out.below ha_)
    have O30_SU := Aside0.mk (O28_SU.out.below ha_)
    have O30_SV := Aside0.mk (O28_SV.out.below ha_)
    have O30_SD := Aside0.mk (OV_SD.out.below ha_)
    clear ha_ B28 K28_g K28_x K28_y K28_z K28_u K28_v O28_SX O28_SY O28_SZ O28_SU O28_SV OV_SD
    have pc0 : w_29.cell? ⟨d, 0, none⟩ = some (.string D.m) := (blk_cell BX29.out 0).trans rfl
    have pc1 : w_29.cell? ⟨d, 1, none⟩ = some (.bool D.b1) := (blk_cell BX29.out 1).trans rfl
    have pc2 : w_29.cell? ⟨d, 2, none⟩ = some (.bool D.b2) := (blk_cell BX29.out 2).trans rfl
    have pc3 : w_29.cell? ⟨d, 3, none⟩ = some (.bool D.b3) := (blk_cell BX29.out 3).trans rfl
    have pc4 : w_29.cell? ⟨d, 4, none⟩ = some (.bool D.b4) := (blk_cell BX29.out 4).trans rfl
    have pc5 : w_29.cell? ⟨d, 5, none⟩ = some (.bool D.b5) := (blk_cell BX29.out 5).trans rfl
    have pc6 : w_29.cell? ⟨d, 6, none⟩ = some (.bool D.b6) := (blk_cell BX29.out 6).trans rfl
    have pc7 : w_29.cell? ⟨d, 7, none⟩ = some (.slice SD.A7 D.us.length SD.c7) := (blk_cell BX29.out 7).trans rfl
    have pc8 : w_29.cell? ⟨d, 8, none⟩ = some (.slice SD.A8 D.ms.length SD.c8) := (blk_cell BX29.out 8).trans rfl
    have pc9 : w_29.cell? ⟨d, 9, none⟩ = some (.bool D.b9) := (blk_cell BX29.out 9).trans rfl
    have pc10 : w_29.cell? ⟨d, 10, none⟩ = some (.slice SD.A10 D.vs.length SD.c10) := (blk_cell BX29.out 10).trans rfl
    go_wp2_with fail
    clear pc0 pc1 pc2 pc3 pc4 pc5 pc6 pc7 pc8 pc9 pc10
    refine (del_may (G := D) n (by rw [← hD]; exact delF_delF n X) SD w_29 O30_SD.out.fv M4.out (by decide) N0 N1).mono ?_
    rintro e w_31 ⟨SO, rfl, ho_, hb_⟩
    have B32 := Aside0.mk (below_step B30.out hb_)
    have K32_g := Aside0.mk (blk_below K30_g.out hb_)
    have K32_x := Aside0.mk (blk_below K30_x.out hb_)
    have K32_y := Aside0.mk (blk_below K30_y.out hb_)
    have K32_z := Aside0.mk (blk_below K30_z.out hb_)
    have K32_u := Aside0.mk (blk_below K30_u.out hb_)
    have K32_v := Aside0.mk (blk_below K30_v.out hb_)
    have K32_d := Aside0.mk (blk_below BX29.out hb_)
    have O32_SX := Aside0.mk (O30_SX.out.below hb_)
    have O32_SY := Aside0.mk (O30_SY.out.below hb_)
    have O32_SZ := Aside0.mk (O30_SZ.out.below hb_)
    have O32_SU := Aside0.mk (O30_SU.out.below hb_)
    have O32_SV := Aside0.mk (O30_SV.out.below hb_)
    have O32_SD := Aside0.mk (O30_SD.out.below hb_)
    clear hb_ B30 K30_g K30_x K30_y K30_z K30_u K30_v BX29 O30_SX O30_SY O30_SZ O30_SU O30_SV O30_SD
    have OV_SO := Aside0.mk (ho_)
    clear ho_
    go_upto_region 12 with (fail)
    obtain ⟨w_33, hw_⟩ : ∃ w_, w_31.alloc (.cells #[.string D.m, .bool D.b1, .bool D.b2, .bool D.b3, .bool D.b4, .bool D.b5, .bool D.b6, .slice SO.A7 D.us.length SO.c7, .slice SO.A8 D.ms.length SO.c8, .bool D.b9, .slice SO.A10 D.vs.length SO.c10] 25) = w_ := ⟨_, rfl⟩
    have ha_ : Below w_31.heap.size w_31 w_33 := by rw [← hw_]; exact below_alloc (Below.refl _ _) _
    have BX33 : Aside0 (w_33.heap[w_31.heap.size]? = some (.cells #[.string D.m, .bool D.b1, .bool D.b2, .bool D.b3, .bool D.b4, .bool D.b5, .bool D.b6, .slice SO.A7 D.us.length SO.c7, .slice SO.A8 D.ms.length SO.c8, .bool D.b9, .slice SO.A10 D.vs.length SO.c10] 25 (0, 0))) := ⟨by rw [← hw_]; exact blk_new w_31 _⟩
    have hgB : w.heap.size ≤ w_31.heap.size := (B32.out).size
    have hl_g : g < w_31.heap.size := blk_lt K32_g.out
    have hl_x : x < w_31.heap.size := blk_lt K32_x.out
    have hl_y : y < w_31.heap.size := blk_lt K32_y.out
    have hl_z : z < w_31.heap.size := blk_lt K32_z.out
    have hl_u : u < w_31.heap.size := blk_lt K32_u.out
    have hl_v : v < w_31.heap.size := blk_lt K32_v.out
    have hl_d : d < w_31.heap.size := blk_lt K32_d.out
    rw [hw_]
    clear hw_
    obtain ⟨o, hg_⟩ : ∃ g_, w_31.heap.size = g_ := ⟨_, rfl⟩
    have G_o : Aside0 (w.heap.size ≤ o) := ⟨Nat.le_trans hgB (Nat.le_of_eq hg_)⟩
    rw [hg_] at BX33 hl_g hl_x hl_y hl_z hl_u hl_v hl_d
    rw [hg_]
    clear hg_ hgB
    have E_g_o := Aside0.mk hl_g
    clear hl_g
    have E_x_o := Aside0.mk hl_x
    clear hl_x
    have E_y_o := Aside0.mk hl_y
    clear hl_y
    have E_z_o := Aside0.mk hl_z
    clear hl_z
    have E_u_o := Aside0.mk hl_u
    clear hl_u
    have E_v_o := Aside0.mk hl_v
    clear hl_v
    have E_d_o := Aside0.mk hl_d
    clear hl_d
    have B34 := Aside0.mk (below_step B32.out ha_)
    have K34_g := Aside0.mk (blk_below K32_g.out ha_)
    have K34_x := Aside0.mk (blk_below K32_x.out ha_)
    have K34_y := Aside0.mk (blk_below K32_y.out ha_)
    have K34_z := Aside0.mk (blk_below K32_z.out ha_)
    have K34_u := Aside0.mk (blk_below K32_u.out ha_)
    have K34_v := Aside0.mk (blk_below K32_v.out ha_)
    have K34_d := Aside0.mk (blk_below K32_d.out ha_)
    have O34_SX := Aside0.mk (O32_SX.out.below ha_)
    have O34_SY := Aside0.mk (O32_SY.out.below ha_)
    have O34_SZ := Aside0.mk (O32_SZ.out.below ha_)
    have O34_SU := Aside0.mk (O32_SU.out.below ha_)
    have O34_SV := Aside0.mk (O32_SV.out.below ha_)
    have O34_SD := Aside0.mk (O32_SD.out.below ha_)
    have O34_SO := Aside0.mk (OV_SO.out.below ha_)
    clear ha_ B32 K32_g K32_x K32_y K32_z K32_u K32_v K32_d O32_SX O32_SY O32_SZ O32_SU O32_SV O32_SD OV_SO
    have pc0 : w_33.cell? ⟨x, 0, none⟩ = some (.string X.m) := (blk_cell K34_x.out 0).trans rfl
    have pc1 : w_33.cell? ⟨x, 1, none⟩ = some (.bool X.b1) := (blk_cell K34_x.out 1).trans rfl
    have pc2 : w_33.cell? ⟨x, 2, none⟩ = some (.bool X.b2) := (blk_cell K34_x.out 2).trans rfl
    have pc3 : w_33.cell? ⟨x, 3, none⟩ = some (.bool X.b3) := (blk_cell K34_x.out 3).trans rfl
    have pc4 : w_33.cell? ⟨x, 4, none⟩ = some (.bool X.b4) := (blk_cell K34_x.out 4).trans rfl
    have pc5 : w_33.cell? ⟨x, 5, none⟩ = some (.bool X.b5) := (blk_cell K34_x.out 5).trans rfl
    have pc6 : w_33.cell? ⟨x, 6, none⟩ = some (.bool X.b6) := (blk_cell K34_x.out 6).trans rfl
    have pc7 : w_33.cell? ⟨x, 7, none⟩ = some (.slice SX.A7 X.us.length SX.c7) := (blk_cell K34_x.out 7).trans rfl
    have pc8 : w_33.cell? ⟨x, 8, none⟩ = some (.slice SX.A8 X.ms.length SX.c8) := (blk_cell K34_x.out 8).trans rfl
    have pc9 : w_33.cell? ⟨x, 9, none⟩ = some (.bool X.b9) := (blk_cell K34_x.out 9).trans rfl
    have pc10 : w_33.cell? ⟨x, 10, none⟩ = some (.slice SX.A10 X.vs.length SX.c10) := (blk_cell K34_x.out 10).trans rfl
    have qc0 : w_33.cell? ⟨y, 0, none⟩ = some (.string X.m) := (blk_cell K34_y.out 0).trans rfl
    have qc1 : w_33.cell? ⟨y, 1, none⟩ = some (.bool X.b1) := (blk_cell K34_y.out 1).trans rfl
    have qc2 : w_33.cell? ⟨y, 2, none⟩ = some (.bool X.b2) := (blk_cell K34_y.out 2).trans rfl
    have qc3 : w_33.cell? ⟨y, 3, none⟩ = some (.bool X.b3) := (blk_cell K34_y.out 3).trans rfl
    have qc4 : w_33.cell? ⟨y, 4, none⟩ = some (.bool X.b4) := (blk_cell K34_y.out 4).trans rfl
    have qc5 : w_33.cell? ⟨y, 5, none⟩ = some (.bool X.b5) := (blk_cell K34_y.out 5).trans rfl
    have qc6 : w_33.cell? ⟨y, 6, none⟩ = some (.bool X.b6) := (blk_cell K34_y.out 6).trans rfl
    have qc7 : w_33.cell? ⟨y, 7, none⟩ = some (.slice SY.A7 X.us.length SY.c7) := (blk_cell K34_y.out 7).trans rfl
    have qc8 : w_33.cell? ⟨y, 8, none⟩ = some (.slice SY.A8 X.ms.length SY.c8) := (blk_cell K34_y.out 8).trans rfl
    have qc9 : w_33.cell? ⟨y, 9, none⟩ = some (.bool X.b9) := (blk_cell K34_y.out 9).trans rfl
    have qc10 : w_33.cell? ⟨y, 10, none⟩ = some (.slice SY.A10 X.vs.length SY.c10) := (blk_cell K34_y.out 10).trans rfl
    go_wp2_with fail
    clear pc0 pc1 pc2 pc3 pc4 pc5 pc6 pc7 pc8 pc9 pc10
    clear qc0 qc1 qc2 qc3 qc4 qc5 qc6 qc7 qc8 qc9 qc10
    refine (same_f X SX SY w_33 O34_SX.out.fv O34_SY.out.fv (M1.out.small (by decide))).mono ?_
    rintro e w_35 ⟨rfl, hb_⟩
    have B36 := Aside0.mk (below_step B34.out hb_)
    have K36_g := Aside0.mk (blk_below K34_g.out hb_)
    have K36_x := Aside0.mk (blk_below K34_x.out hb_)
    have K36_y := Aside0.mk (blk_below K34_y.out hb_)
    have K36_z := Aside0.mk (blk_below K34_z.out hb_)
    have K36_u := Aside0.mk (blk_below K34_u.out hb_)
    have K36_v := Aside0.mk (blk_below K34_v.out hb_)
    have K36_d := Aside0.mk (blk_below K34_d.out hb_)
    have K36_o := Aside0.mk (blk_below BX33.out hb_)
    have O36_SX := Aside0.mk (O34_SX.out.below hb_)
    have O36_SY := Aside0.mk (O34_SY.out.below hb_)
    have O36_SZ := Aside0.mk (O34_SZ.out.below hb_)
    have O36_SU := Aside0.mk (O34_SU.out.below hb_)
    have O36_SV := Aside0.mk (O34_SV.out.below hb_)
    have O36_SD := Aside0.mk (O34_SD.out.below hb_)
    have O36_SO := Aside0.mk (O34_SO.out.below hb_)
    clear hb_ B34 K34_g K34_x K34_y K34_z K34_u K34_v K34_d BX33 O34_SX O34_SY O34_SZ O34_SU O34_SV O34_SD O34_SO
    have pc0 : w_35.cell? ⟨z, 0, none⟩ = some (.string Z.m) := (blk_cell K36_z.out 0).trans rfl
    have pc1 : w_35.cell? ⟨z, 1, none⟩ = some (.bool Z.b1) := (blk_cell K36_z.out 1).trans rfl
    have pc2 : w_35.cell? ⟨z, 2, none⟩ = some (.bool Z.b2) := (blk_cell K36_z.out 2).trans rfl
    have pc3 : w_35.cell? ⟨z, 3, none⟩ = some (.bool Z.b3) := (blk_cell K36_z.out 3).trans rfl
    have pc4 : w_35.cell? ⟨z, 4, none⟩ = some (.bool Z.b4) := (blk_cell K36_z.out 4).trans rfl
    have pc5 : w_35.cell? ⟨z, 5, none⟩ = some (.bool Z.b5) := (blk_cell K36_z.out 5).trans rfl
    have pc6 : w_35.cell? ⟨z, 6, none⟩ = some (.bool Z.b6) := (blk_cell K36_z.out 6).trans rfl
    have pc7 : w_35.cell? ⟨z, 7, none⟩ = some (.slice SZ.A7 Z.us.length SZ.c7) := (blk_cell K36_z.out 7).trans rfl
    have pc8 : w_35.cell? ⟨z, 8, none⟩ = some (.slice SZ.A8 Z.ms.length SZ.c8) := (blk_cell K36_z.out 8).trans rfl
    have pc9 : w_35.cell? ⟨z, 9, none⟩ = some (.bool Z.b9) := (blk_cell K36_z.out 9).trans rfl
    have pc10 : w_35.cell? ⟨z, 10, none⟩ = some (.slice SZ.A10 Z.vs.length SZ.c10) := (blk_cell K36_z.out 10).trans rfl
    have qc0 : w_35.cell? ⟨v, 0, none⟩ = some (.string Z.m) := (blk_cell K36_v.out 0).trans rfl
    have qc1 : w_35.cell? ⟨v, 1, none⟩ = some (.bool Z.b1) := (blk_cell K36_v.out 1).trans rfl
    have qc2 : w_35.cell? ⟨v, 2, none⟩ = some (.bool Z.b2) := (blk_cell K36_v.out 2).trans rfl
    have qc3 : w_35.cell? ⟨v, 3, none⟩ = some (.bool Z.b3) := (blk_cell K36_v.out 3).trans rfl
    have qc4 : w_35.cell? ⟨v, 4, none⟩ = some (.bool Z.b4) := (blk_cell K36_v.out 4).trans rfl
    have qc5 : w_35.cell? ⟨v, 5, none⟩ = some (.bool Z.b5) := (blk_cell K36_v.out 5).trans rfl
    have qc6 : w_35.cell? ⟨v, 6, none⟩ = some (.bool Z.b6) := (blk_cell K36_v.out 6).trans rfl
    have qc7 : w_35.cell? ⟨v, 7, none⟩ = some (.slice SV.A7 Z.us.length SV.c7) := (blk_cell K36_v.out 7).trans rfl
    have qc8 : w_35.cell? ⟨v, 8, none⟩ = some (.slice SV.A8 Z.ms.length SV.c8) := (blk_cell K36_v.out 8).trans rfl
    have qc9 : w_35.cell? ⟨v, 9, none⟩ = some (.bool Z.b9) := (blk_cell K36_v.out 9).trans rfl
    have qc10 : w_35.cell? ⟨v, 10, none⟩ = some (.slice SV.A10 Z.vs.length SV.c10) := (blk_cell K36_v.out 10).trans rfl
    go_wp2_with fail
    clear pc0 pc1 pc2 pc3 pc4 pc5 pc6 pc7 pc8 pc9 pc10
    clear qc0 qc1 qc2 qc3 qc4 qc5 qc6 qc7 qc8 qc9 qc10
    refine (same_f Z SZ SV w_35 O36_SZ.out.fv O36_SV.out.fv (M2.out.small (by decide))).mono ?_
    rintro e w_37 ⟨rfl, hb_⟩
    have B38 := Aside0.mk (below_step B36.out hb_)
    have K38_g := Aside0.mk (blk_below K36_g.out hb_)
    have K38_x := Aside0.mk (blk_below K36_x.out hb_)
    have K38_y := Aside0.mk (blk_below K36_y.out hb_)
    have K38_z := Aside0.mk (blk_below K36_z.out hb_)
    have K38_u := Aside0.mk (blk_below K36_u.out hb_)
    have K38_v := Aside0.mk (blk_below K36_v.out hb_)
    have K38_d := Aside0.mk (blk_below K36_d.out hb_)
    have K38_o := Aside0.mk (blk_below K36_o.out hb_)
    have O38_SX := Aside0.mk (O36_SX.out.below hb_)
    have O38_SY := Aside0.mk (O36_SY.out.below hb_)
    have O38_SZ := Aside0.mk (O36_SZ.out.below hb_)
    have O38_SU := Aside0.mk (O36_SU.out.below hb_)
    have O38_SV := Aside0.mk (O36_SV.out.below hb_)
    have O38_SD := Aside0.mk (O36_SD.out.below hb_)
    have O38_SO := Aside0.mk (O36_SO.out.below hb_)
    clear hb_ B36 K36_g K36_x K36_y K36_z K36_u K36_v K36_d K36_o O36_SX O36_SY O36_SZ O36_SU O36_SV O36_SD O36_SO
    have pc0 : w_37.cell? ⟨d, 0, none⟩ = some (.string D.m) := (blk_cell K38_d.out 0).trans rfl
    have pc1 : w_37.cell? ⟨d, 1, none⟩ = some (.bool D.b1) := (blk_cell K38_d.out 1).trans rfl
    have pc2 : w_37.cell? ⟨d, 2, none⟩ = some (.bool D.b2) := (blk_cell K38_d.out 2).trans rfl
    have pc3 : w_37.cell? ⟨d, 3, none⟩ = some (.bool D.b3) := (blk_cell K38_d.out 3).trans rfl
    have pc4 : w_37.cell? ⟨d, 4, none⟩ = some (.bool D.b4) := (blk_cell K38_d.out 4).trans rfl
    have pc5 : w_37.cell? ⟨d, 5, none⟩ = some (.bool D.b5) := (blk_cell K38_d.out 5).trans rfl
    have pc6 : w_37.cell? ⟨d, 6, none⟩ = some (.bool D.b6) := (blk_cell K38_d.out 6).trans rfl
    have pc7 : w_37.cell? ⟨d, 7, none⟩ = some (.slice SD.A7 D.us.length SD.c7) := (blk_cell K38_d.out 7).trans rfl
    have pc8 : w_37.cell? ⟨d, 8, none⟩ = some (.slice SD.A8 D.ms.length SD.c8) := (blk_cell K38_d.out 8).trans rfl
    have pc9 : w_37.cell? ⟨d, 9, none⟩ = some (.bool D.b9) := (blk_cell K38_d.out 9).trans rfl
    have pc10 : w_37.cell? ⟨d, 10, none⟩ = some (.slice SD.A10 D.vs.length SD.c10) := (blk_cell K38_d.out 10).trans rfl
    have qc0 : w_37.cell? ⟨o, 0, none⟩ = some (.string D.m) := (blk_cell K38_o.out 0).trans rfl
    have qc1 : w_37.cell? ⟨o, 1, none⟩ = some (.bool D.b1) := (blk_cell K38_o.out 1).trans rfl
    have qc2 : w_37.cell? ⟨o, 2, none⟩ = some (.bool D.b2) := (blk_cell K38_o.out 2).trans rfl
    have qc3 : w_37.cell? ⟨o, 3, none⟩ = some (.bool D.b3) := (blk_cell K38_o.out 3).trans rfl
    have qc4 : w_37.cell? ⟨o, 4, none⟩ = some (.bool D.b4) := (blk_cell K38_o.out 4).trans rfl
    have qc5 : w_37.cell? ⟨o, 5, none⟩ = some (.bool D.b5) := (blk_cell K38_o.out 5).trans rfl
    have qc6 : w_37.cell? ⟨o, 6, none⟩ = some (.bool D.b6) := (blk_cell K38_o.out 6).trans rfl
    have qc7 : w_37.cell? ⟨o, 7, none⟩ = some (.slice SO.A7 D.us.length SO.c7) := (blk_cell K38_o.out 7).trans rfl
    have qc8 : w_37.cell? ⟨o, 8, none⟩ = some (.slice SO.A8 D.ms.length SO.c8) := (blk_cell K38_o.out 8).trans rfl
    have qc9 : w_37.cell? ⟨o, 9, none⟩ = some (.bool D.b9) := (blk_cell K38_o.out 9).trans rfl
    have qc10 : w_37.cell? ⟨o, 10, none⟩ = some (.slice SO.A10 D.vs.length SO.c10) := (blk_cell K38_o.out 10).trans rfl
    go_wp2_with fail
    clear pc0 pc1 pc2 pc3 pc4 pc5 pc6 pc7 pc8 pc9 pc10
    clear qc0 qc1 qc2 qc3 qc4 qc5 qc6 qc7 qc8 qc9 qc10
    refine (same_f D SD SO w_37 O38_SD.out.fv O38_SO.out.fv (M4.out.small (by decide))).mono ?_
    rintro e w_39 ⟨rfl, hb_⟩
    have B40 := Aside0.mk (below_step B38.out hb_)
    have K40_g := Aside0.mk (blk_below K38_g.out hb_)
    have K40_x := Aside0.mk (blk_below K38_x.out hb_)
    have K40_y := Aside0.mk (blk_below K38_y.out hb_)
    have K40_z := Aside0.mk (blk_below K38_z.out hb_)
    have K40_u := Aside0.mk (blk_below K38_u.out hb_)
    have K40_v := Aside0.mk (blk_below K38_v.out hb_)
    have K40_d := Aside0.mk (blk_below K38_d.out hb_)
    have K40_o := Aside0.mk (blk_below K38_o.out hb_)
    have O40_SX := Aside0.mk (O38_SX.out.below hb_)
    have O40_SY := Aside0.mk (O38_SY.out.below hb_)
    have O40_SZ := Aside0.mk (O38_SZ.out.below hb_)
    have O40_SU := Aside0.mk (O38_SU.out.below hb_)
    have O40_SV := Aside0.mk (O38_SV.out.below hb_)
    have O40_SD := Aside0.mk (O38_SD.out.below hb_)
    have O40_SO := Aside0.mk (O38_SO.out.below hb_)
    clear hb_ B38 K38_g K38_x K38_y K38_z K38_u K38_v K38_d K38_o O38_SX O38_SY O38_SZ O38_SU O38_SV O38_SD O38_SO
    go_wp2_with fail
    refine (fixed_f w_39).mono ?_
    rintro e w_41 ⟨rfl, hb_⟩
    have B42 := Aside0.mk (below_step B40.out hb_)
    have K42_g := Aside0.mk (blk_below K40_g.out hb_)
    have K42_x := Aside0.mk (blk_below K40_x.out hb_)
    have K42_y := Aside0.mk (blk_below K40_y.out hb_)
    have K42_z := Aside0.mk (blk_below K40_z.out hb_)
    have K42_u := Aside0.mk (blk_below K40_u.out hb_)
    have K42_v := Aside0.mk (blk_below K40_v.out hb_)
    have K42_d := Aside0.mk (blk_below K40_d.out hb_)
    have K42_o := Aside0.mk (blk_below K40_o.out hb_)
    have O42_SX := Aside0.mk (O40_SX.out.below hb_)
    have O42_SY := Aside0.mk (O40_SY.out.below hb_)
    have O42_SZ := Aside0.mk (O40_SZ.out.below hb_)
    have O42_SU := Aside0.mk (O40_SU.out.below hb_)
    have O42_SV := Aside0.mk (O40_SV.out.below hb_)
    have O42_SD := Aside0.mk (O40_SD.out.below hb_)
    have O42_SO := Aside0.mk (O40_SO.out.below hb_)
    clear hb_ B40 K40_g K40_x K40_y K40_z K40_u K40_v K40_d K40_o O40_SX O40_SY O40_SZ O40_SU O40_SV O40_SD O40_SO
    go_wp2
    go_ret
    exact ⟨rfl, B42.out⟩
  · refine (add_bad G S n w_5 (HG.out.below B6.out) (by simpa using hN)).mono ?_
    rintro e w_7 ⟨rfl, hb_⟩
    have B8 := Aside0.mk (below_step B6.out hb_)
    have K8_g := Aside0.mk (blk_below K6_g.out hb_)
    clear hb_ B6 K6_g
    go_upto_region 4 with (fail)
    obtain ⟨w_9, hw_⟩ : ∃ w_, w_7.alloc (.cells #[.string ⟨#[]⟩, .bool false, .bool false, .bool false, .bool false, .bool false, .bool false, .slice none 0 0, .slice none 0 0, .bool false, .slice none 0 0] 25) = w_ := ⟨_, rfl⟩
    have ha_ : Below w_7.heap.size w_7 w_9 := by rw [← hw_]; exact below_alloc (Below.refl _ _) _
    have BX9 : Aside0 (w_9.heap[w_7.heap.size]? = some (.cells #[.string ⟨#[]⟩, .bool false, .bool false, .bool false, .bool false, .bool false, .bool false, .slice none 0 0, .slice none 0 0, .bool false, .slice none 0 0] 25 (0, 0))) := ⟨by rw [← hw_]; exact blk_new w_7 _⟩
    have hgB : w.heap.size ≤ w_7.heap.size := (B8.out).size
    have hl_g : g < w_7.heap.size := blk_lt K8_g.out
    rw [hw_]
    clear hw_
    obtain ⟨x, hg_⟩ : ∃ g_, w_7.heap.size = g_ := ⟨_, rfl⟩
    have G_x : Aside0 (w.heap.size ≤ x) := ⟨Nat.le_trans hgB (Nat.le_of_eq hg_)⟩
    rw [hg_] at BX9 hl_g
    rw [hg_]
    clear hg_ hgB
    have E_g_x := Aside0.mk hl_g
    clear hl_g
    have B10 := Aside0.mk (below_step B8.out ha_)
    have K10_g := Aside0.mk (blk_below K8_g.out ha_)
    clear ha_ B8 K8_g
    go_wp2_with fail
    refine (fixed_f w_9).mono ?_
    rintro e w_11 ⟨rfl, hb_⟩
    have B12 := Aside0.mk (below_step B10.out hb_)
    have K12_g := Aside0.mk (blk_below K10_g.out hb_)
    have K12_x := Aside0.mk (blk_below BX9.out hb_)
    clear hb_ B10 K10_g BX9
    go_wp2
    go_ret
    exact ⟨rfl, B12.out⟩
end Go.Proofs.Ytnckogdplcijiaa.Hand
