/- Filters: contracts by hand, and the laws over them. -/
import Derived.Test.YtnckogdplcijiaaOwn
import Derived.Test.YtnckogdplcijiaaLN
namespace Go.Proofs.Ytnckogdplcijiaa.Hand
open Go Go.RowKit Go.Proofs.YtnckogdplcijiaaW.PrintWords Go.Proofs.YtnckogdplcijiaaW.PrintLast Go.Proofs.YtnckogdplcijiaaW.PrintMore Go.Proofs.Ytnckogdplcijiaa.Mth Go.Proofs.Ytnckogdplcijiaa.P Go.Proofs.Ytnckogdplcijiaa.Own Go.Proofs Go.Proofs.Ytnckogdplcijiaa.Fl
set_option linter.unusedVariables false
set_option linter.unusedSimpArgs false
set_option maxHeartbeats 16000000 in
set_option maxRecDepth 100000 in
theorem FilterNets (F : Flt) (S : Sl) (a : Int) (body : ByteArray) (w : World) (hf : FV w F S) (wa : (Lit.int .i64 a).wf = true) (hb : body.size ≤ 140737488351232) : Calls Try.prog 7 #[.agg #[.string F.m, .bool F.b1, .bool F.b2, .bool F.b3, .bool F.b4, .bool F.b5, .bool F.b6, .slice S.A7 F.us.length S.c7, .slice S.A8 F.ms.length S.c8, .bool F.b9, .slice S.A10 F.vs.length S.c10], .int .i64 a, .string body] w fun e w' => e = .returned (.bool true) ∧ Below w.heap.size w w' := by
  have HF := Aside0.mk hf
  clear hf
  have hu := Try.underlying25
  go_enter Try.func7, Try.ntmps7
  go_upto_region 1 with (fail)
  obtain ⟨w_1, hw_⟩ : ∃ w_, w.alloc (.cells #[.string F.m, .bool F.b1, .bool F.b2, .bool F.b3, .bool F.b4, .bool F.b5, .bool F.b6, .slice S.A7 F.us.length S.c7, .slice S.A8 F.ms.length S.c8, .bool F.b9, .slice S.A10 F.vs.length S.c10] 25) = w_ := ⟨_, rfl⟩
  have ha_ : Below w.heap.size w w_1 := by rw [← hw_]; exact below_alloc (Below.refl _ _) _
  have BX1 : Aside0 (w_1.heap[w.heap.size]? = some (.cells #[.string F.m, .bool F.b1, .bool F.b2, .bool F.b3, .bool F.b4, .bool F.b5, .bool F.b6, .slice S.A7 F.us.length S.c7, .slice S.A8 F.ms.length S.c8, .bool F.b9, .slice S.A10 F.vs.length S.c10] 25 (0, 0))) := ⟨by rw [← hw_]; exact blk_new w _⟩
  have hgB : w.heap.size ≤ w.heap.size := ((Below.refl w.heap.size w)).size
  rw [hw_]
  clear hw_
  obtain ⟨g, hg_⟩ : ∃ g_, w.heap.size = g_ := ⟨_, rfl⟩
  have G_g : Aside0 (w.heap.size ≤ g) := ⟨Nat.le_trans hgB (Nat.le_of_eq hg_)⟩
  rw [hg_] at BX1
  rw [hg_]
  clear hg_ hgB
  have B2 := Aside0.mk (below_step (Below.refl w.heap.size w) ha_)
  clear ha_ 
  have pc0 : w_1.cell? ⟨g, 0, none⟩ = some (.string F.m) := (blk_cell BX1.out 0).trans rfl
  have pc1 : w_1.cell? ⟨g, 1, none⟩ = some (.bool F.b1) := (blk_cell BX1.out 1).trans rfl
  have pc2 : w_1.cell? ⟨g, 2, none⟩ = some (.bool F.b2) := (blk_cell BX1.out 2).trans rfl
  have pc3 : w_1.cell? ⟨g, 3, none⟩ = some (.bool F.b3) := (blk_cell BX1.out 3).trans rfl
  have pc4 : w_1.cell? ⟨g, 4, none⟩ = some (.bool F.b4) := (blk_cell BX1.out 4).trans rfl
  have pc5 : w_1.cell? ⟨g, 5, none⟩ = some (.bool F.b5) := (blk_cell BX1.out 5).trans rfl
  have pc6 : w_1.cell? ⟨g, 6, none⟩ = some (.bool F.b6) := (blk_cell BX1.out 6).trans rfl
  have pc7 : w_1.cell? ⟨g, 7, none⟩ = some (.slice S.A7 F.us.length S.c7) := (blk_cell BX1.out 7).trans rfl
  have pc8 : w_1.cell? ⟨g, 8, none⟩ = some (.slice S.A8 F.ms.length S.c8) := (blk_cell BX1.out 8).trans rfl
  have pc9 : w_1.cell? ⟨g, 9, none⟩ = some (.bool F.b9) := (blk_cell BX1.out 9).trans rfl
  have pc10 : w_1.cell? ⟨g, 10, none⟩ = some (.slice S.A10 F.vs.length S.c10) := (blk_cell BX1.out 10).trans rfl
  go_wp2_with fail
  clear pc0 pc1 pc2 pc3 pc4 pc5 pc6 pc7 pc8 pc9 pc10
  refine (bound_f F S w_1 (HF.out.below B2.out)).mono ?_
  rintro e w_3 ⟨rfl, hb_⟩
  have B4 := Aside0.mk (below_step B2.out hb_)
  have K4_g := Aside0.mk (blk_below BX1.out hb_)
  clear hb_ B2 BX1
  have HG := Aside0.mk HF.out.bound
  have SM := Aside0.mk (boundF_small F)
  have MB := Aside0.mk (@May.of_bound F)
  obtain ⟨G, hG⟩ : ∃ G, boundF F = G := ⟨_, rfl⟩
  rw [hG] at HG SM MB
  rw [hG]
  clear hG HF
  have pc0 : w_3.cell? ⟨g, 0, none⟩ = some (.string F.m) := (blk_cell K4_g.out 0).trans rfl
  have pf0 := blk_frozen K4_g.out 0
  have pc1 : w_3.cell? ⟨g, 1, none⟩ = some (.bool F.b1) := (blk_cell K4_g.out 1).trans rfl
  have pf1 := blk_frozen K4_g.out 1
  have pc2 : w_3.cell? ⟨g, 2, none⟩ = some (.bool F.b2) := (blk_cell K4_g.out 2).trans rfl
  have pf2 := blk_frozen K4_g.out 2
  have pc3 : w_3.cell? ⟨g, 3, none⟩ = some (.bool F.b3) := (blk_cell K4_g.out 3).trans rfl
  have pf3 := blk_frozen K4_g.out 3
  have pc4 : w_3.cell? ⟨g, 4, none⟩ = some (.bool F.b4) := (blk_cell K4_g.out 4).trans rfl
  have pf4 := blk_frozen K4_g.out 4
  have pc5 : w_3.cell? ⟨g, 5, none⟩ = some (.bool F.b5) := (blk_cell K4_g.out 5).trans rfl
  have pf5 := blk_frozen K4_g.out 5
  have pc6 : w_3.cell? ⟨g, 6, none⟩ = some (.bool F.b6) := (blk_cell K4_g.out 6).trans rfl
  have pf6 := blk_frozen K4_g.out 6
  have pc7 : w_3.cell? ⟨g, 7, none⟩ = some (.slice S.A7 F.us.length S.c7) := (blk_cell K4_g.out 7).trans rfl
  have pf7 := blk_frozen K4_g.out 7
  have pc8 : w_3.cell? ⟨g, 8, none⟩ = some (.slice S.A8 F.ms.length S.c8) := (blk_cell K4_g.out 8).trans rfl
  have pf8 := blk_frozen K4_g.out 8
  have pc9 : w_3.cell? ⟨g, 9, none⟩ = some (.bool F.b9) := (blk_cell K4_g.out 9).trans rfl
  have pf9 := blk_frozen K4_g.out 9
  have pc10 : w_3.cell? ⟨g, 10, none⟩ = some (.slice S.A10 F.vs.length S.c10) := (blk_cell K4_g.out 10).trans rfl
  have pf10 := blk_frozen K4_g.out 10
  go_upto_region 2 with (fail)
  clear pc0 pf0 pc1 pf1 pc2 pf2 pc3 pf3 pc4 pf4 pc5 pf5 pc6 pf6 pc7 pf7 pc8 pf8 pc9 pf9 pc10 pf10
  obtain ⟨w_5, hw_⟩ : ∃ w_, (((((((((((w_3.setCell ⟨g, 0, none⟩ (.string G.m)).setCell ⟨g, 1, none⟩ (.bool G.b1)).setCell ⟨g, 2, none⟩ (.bool G.b2)).setCell ⟨g, 3, none⟩ (.bool G.b3)).setCell ⟨g, 4, none⟩ (.bool G.b4)).setCell ⟨g, 5, none⟩ (.bool G.b5)).setCell ⟨g, 6, none⟩ (.bool G.b6)).setCell ⟨g, 7, none⟩ (.slice S.A7 G.us.length S.c7)).setCell ⟨g, 8, none⟩ (.slice S.A8 G.ms.length S.c8)).setCell ⟨g, 9, none⟩ (.bool G.b9)).setCell ⟨g, 10, none⟩ (.slice S.A10 G.vs.length S.c10)) = w_ := ⟨_, rfl⟩
  have hu_ : Upd w_3 w_5 (fun k => k = g) := by rw [← hw_]; exact (flt_at g w_3 (.string G.m) (.bool G.b1) (.bool G.b2) (.bool G.b3) (.bool G.b4) (.bool G.b5) (.bool G.b6) (.slice S.A7 G.us.length S.c7) (.slice S.A8 G.ms.length S.c8) (.bool G.b9) (.slice S.A10 G.vs.length S.c10) K4_g.out).2
  have K6_g : Aside0 (w_5.heap[g]? = some (.cells #[.string G.m, .bool G.b1, .bool G.b2, .bool G.b3, .bool G.b4, .bool G.b5, .bool G.b6, .slice S.A7 G.us.length S.c7, .slice S.A8 G.ms.length S.c8, .bool G.b9, .slice S.A10 G.vs.length S.c10] 25 (0, 0))) := ⟨by rw [← hw_]; exact (flt_at g w_3 (.string G.m) (.bool G.b1) (.bool G.b2) (.bool G.b3) (.bool G.b4) (.bool G.b5) (.bool G.b6) (.slice S.A7 G.us.length S.c7) (.slice S.A8 G.ms.length S.c8) (.bool G.b9) (.slice S.A10 G.vs.length S.c10) K4_g.out).1⟩
  rw [hw_]
  clear hw_
  have B6 := Aside0.mk (B4.out.trans (hu_.toBelow (B := w.heap.size) (fun k hk => by rw [hk]; exact G_g.out) (B4.out).size))
  clear hu_ B4 K4_g
  have pc0 : w_5.cell? ⟨g, 0, none⟩ = some (.string G.m) := (blk_cell K6_g.out 0).trans rfl
  have pc1 : w_5.cell? ⟨g, 1, none⟩ = some (.bool G.b1) := (blk_cell K6_g.out 1).trans rfl
  have pc2 : w_5.cell? ⟨g, 2, none⟩ = some (.bool G.b2) := (blk_cell K6_g.out 2).trans rfl
  have pc3 : w_5.cell? ⟨g, 3, none⟩ = some (.bool G.b3) := (blk_cell K6_g.out 3).trans rfl
  have pc4 : w_5.cell? ⟨g, 4, none⟩ = some (.bool G.b4) := (blk_cell K6_g.out 4).trans rfl
  have pc5 : w_5.cell? ⟨g, 5, none⟩ = some (.bool G.b5) := (blk_cell K6_g.out 5).trans rfl
  have pc6 : w_5.cell? ⟨g, 6, none⟩ = some (.bool G.b6) := (blk_cell K6_g.out 6).trans rfl
  have pc7 : w_5.cell? ⟨g, 7, none⟩ = some (.slice S.A7 G.us.length S.c7) := (blk_cell K6_g.out 7).trans rfl
  have pc8 : w_5.cell? ⟨g, 8, none⟩ = some (.slice S.A8 G.ms.length S.c8) := (blk_cell K6_g.out 8).trans rfl
  have pc9 : w_5.cell? ⟨g, 9, none⟩ = some (.bool G.b9) := (blk_cell K6_g.out 9).trans rfl
  have pc10 : w_5.cell? ⟨g, 10, none⟩ = some (.slice S.A10 G.vs.length S.c10) := (blk_cell K6_g.out 10).trans rfl
  go_wp2_with fail
  clear pc0 pc1 pc2 pc3 pc4 pc5 pc6 pc7 pc8 pc9 pc10
  obtain ⟨n, hn_⟩ : ∃ n_, (bits BinOp.and IntKind.i64 a 65535).tmod 4095 = n_ := ⟨_, rfl⟩
  have N0 : 0 ≤ n := by rw [← hn_]; exact (net_bd a).1
  have N1 : n ≤ 4094 := by rw [← hn_]; exact (net_bd a).2
  rw [hn_]
  clear hn_
  by_cases hN : netsS G.vs = true
  · have M0 := Aside0.mk (MB.out hN)
    obtain ⟨X, hX⟩ : ∃ x_, insF n G = x_ := ⟨_, rfl⟩
    have M1 := Aside0.mk (M0.out.ins N0 N1)
    rw [hX] at M1
    refine (add_may (G := X) n hX S w_5 (HG.out.below B6.out) M0.out (by decide) N0 N1).mono ?_
    rintro e w_7 ⟨SX, rfl, ho_, hb_⟩
    have B8 := Aside0.mk (below_step B6.out hb_)
    have K8_g := Aside0.mk (blk_below K6_g.out hb_)
    clear hb_ B6 K6_g
    have OV_SX := Aside0.mk (ho_)
    clear ho_
    go_upto_region 4 with (fail)
    obtain ⟨w_9, hw_⟩ : ∃ w_, w_7.alloc (.cells #[.string X.m, .bool X.b1, .bool X.b2, .bool X.b3, .bool X.b4, .bool X.b5, .bool X.b6, .slice SX.A7 X.us.length SX.c7, .slice SX.A8 X.ms.length SX.c8, .bool X.b9, .slice SX.A10 X.vs.length SX.c10] 25) = w_ := ⟨_, rfl⟩
    have ha_ : Below w_7.heap.size w_7 w_9 := by rw [← hw_]; exact below_alloc (Below.refl _ _) _
    have BX9 : Aside0 (w_9.heap[w_7.heap.size]? = some (.cells #[.string X.m, .bool X.b1, .bool X.b2, .bool X.b3, .bool X.b4, .bool X.b5, .bool X.b6, .slice SX.A7 X.us.length SX.c7, .slice SX.A8 X.ms.length SX.c8, .bool X.b9, .slice SX.A10 X.vs.length SX.c10] 25 (0, 0))) := ⟨by rw [← hw_]; exact blk_new w_7 _⟩
    have hgB : w.heap.size ≤ w_7.heap.size := (B8.out).size
    have hl_g : g < w_7.heap.size := blk_lt K8_g.out
    rw [hw_]
    clear hw_
    obtain ⟨b1x, hg_⟩ : ∃ g_, w_7.heap.size = g_ := ⟨_, rfl⟩
    have G_b1x : Aside0 (w.heap.size ≤ b1x) := ⟨Nat.le_trans hgB (Nat.le_of_eq hg_)⟩
    rw [hg_] at BX9 hl_g
    rw [hg_]
    clear hg_ hgB
    have E_g_b1x := Aside0.mk hl_g
    clear hl_g
    have B10 := Aside0.mk (below_step B8.out ha_)
    have K10_g := Aside0.mk (blk_below K8_g.out ha_)
    have O10_SX := Aside0.mk (OV_SX.out.below ha_)
    clear ha_ B8 K8_g OV_SX
    obtain ⟨D, hD⟩ : ∃ x_, delF n X = x_ := ⟨_, rfl⟩
    have M2 := Aside0.mk (M1.out.del n)
    rw [hD] at M2
    have pc0 : w_9.cell? ⟨b1x, 0, none⟩ = some (.string X.m) := (blk_cell BX9.out 0).trans rfl
    have pc1 : w_9.cell? ⟨b1x, 1, none⟩ = some (.bool X.b1) := (blk_cell BX9.out 1).trans rfl
    have pc2 : w_9.cell? ⟨b1x, 2, none⟩ = some (.bool X.b2) := (blk_cell BX9.out 2).trans rfl
    have pc3 : w_9.cell? ⟨b1x, 3, none⟩ = some (.bool X.b3) := (blk_cell BX9.out 3).trans rfl
    have pc4 : w_9.cell? ⟨b1x, 4, none⟩ = some (.bool X.b4) := (blk_cell BX9.out 4).trans rfl
    have pc5 : w_9.cell? ⟨b1x, 5, none⟩ = some (.bool X.b5) := (blk_cell BX9.out 5).trans rfl
    have pc6 : w_9.cell? ⟨b1x, 6, none⟩ = some (.bool X.b6) := (blk_cell BX9.out 6).trans rfl
    have pc7 : w_9.cell? ⟨b1x, 7, none⟩ = some (.slice SX.A7 X.us.length SX.c7) := (blk_cell BX9.out 7).trans rfl
    have pc8 : w_9.cell? ⟨b1x, 8, none⟩ = some (.slice SX.A8 X.ms.length SX.c8) := (blk_cell BX9.out 8).trans rfl
    have pc9 : w_9.cell? ⟨b1x, 9, none⟩ = some (.bool X.b9) := (blk_cell BX9.out 9).trans rfl
    have pc10 : w_9.cell? ⟨b1x, 10, none⟩ = some (.slice SX.A10 X.vs.length SX.c10) := (blk_cell BX9.out 10).trans rfl
    go_wp2_with fail
    clear pc0 pc1 pc2 pc3 pc4 pc5 pc6 pc7 pc8 pc9 pc10
    refine (del_may (G := D) n hD SX w_9 O10_SX.out.fv M1.out (by decide) N0 N1).mono ?_
    rintro e w_11 ⟨SD, rfl, ho_, hb_⟩
    have B12 := Aside0.mk (below_step B10.out hb_)
    have K12_g := Aside0.mk (blk_below K10_g.out hb_)
    have K12_b1x := Aside0.mk (blk_below BX9.out hb_)
    have O12_SX := Aside0.mk (O10_SX.out.below hb_)
    clear hb_ B10 K10_g BX9 O10_SX
    have OV_SD := Aside0.mk (ho_)
    clear ho_
    go_upto_region 5 with (fail)
    obtain ⟨w_13, hw_⟩ : ∃ w_, w_11.alloc (.cells #[.string D.m, .bool D.b1, .bool D.b2, .bool D.b3, .bool D.b4, .bool D.b5, .bool D.b6, .slice SD.A7 D.us.length SD.c7, .slice SD.A8 D.ms.length SD.c8, .bool D.b9, .slice SD.A10 D.vs.length SD.c10] 25) = w_ := ⟨_, rfl⟩
    have ha_ : Below w_11.heap.size w_11 w_13 := by rw [← hw_]; exact below_alloc (Below.refl _ _) _
    have BX13 : Aside0 (w_13.heap[w_11.heap.size]? = some (.cells #[.string D.m, .bool D.b1, .bool D.b2, .bool D.b3, .bool D.b4, .bool D.b5, .bool D.b6, .slice SD.A7 D.us.length SD.c7, .slice SD.A8 D.ms.length SD.c8, .bool D.b9, .slice SD.A10 D.vs.length SD.c10] 25 (0, 0))) := ⟨by rw [← hw_]; exact blk_new w_11 _⟩
    have hgB : w.heap.size ≤ w_11.heap.size := (B12.out).size
    have hl_g : g < w_11.heap.size := blk_lt K12_g.out
    have hl_b1x : b1x < w_11.heap.size := blk_lt K12_b1x.out
    rw [hw_]
    clear hw_
    obtain ⟨b2x, hg_⟩ : ∃ g_, w_11.heap.size = g_ := ⟨_, rfl⟩
    have G_b2x : Aside0 (w.heap.size ≤ b2x) := ⟨Nat.le_trans hgB (Nat.le_of_eq hg_)⟩
    rw [hg_] at BX13 hl_g hl_b1x
    rw [hg_]
    clear hg_ hgB
    have E_g_b2x := Aside0.mk hl_g
    clear hl_g
    have E_b1x_b2x := Aside0.mk hl_b1x
    clear hl_b1x
    have B14 := Aside0.mk (below_step B12.out ha_)
    have K14_g := Aside0.mk (blk_below K12_g.out ha_)
    have K14_b1x := Aside0.mk (blk_below K12_b1x.out ha_)
    have O14_SX := Aside0.mk (O12_SX.out.below ha_)
    have O14_SD := Aside0.mk (OV_SD.out.below ha_)
    clear ha_ B12 K12_g K12_b1x O12_SX OV_SD
    have pc9 : w_13.cell? ⟨b1x, 9, none⟩ = some (.bool X.b9) := (blk_cell K14_b1x.out 9).trans rfl
    have pf9 := blk_frozen K14_b1x.out 9
    go_upto_region 8 with (fail)
    clear pc9 pf9
    obtain ⟨w_15, hw_⟩ : ∃ w_, w_13.setCell ⟨b1x, 9, none⟩ (.bool true) = w_ := ⟨_, rfl⟩
    have hu_ : Upd w_13 w_15 (fun k => k = b1x) := by rw [← hw_]; exact (Upd.refl w_13 (fun k => k = b1x)).set (p := ⟨b1x, 9, none⟩) (.inl rfl) _
    have K16_b1x : Aside0 (w_15.heap[b1x]? = some (.cells #[.string X.m, .bool X.b1, .bool X.b2, .bool X.b3, .bool X.b4, .bool X.b5, .bool X.b6, .slice SX.A7 X.us.length SX.c7, .slice SX.A8 X.ms.length SX.c8, .bool true, .slice SX.A10 X.vs.length SX.c10] 25 (0, 0))) := ⟨by rw [← hw_]; exact blk_put (cs := #[.string X.m, .bool X.b1, .bool X.b2, .bool X.b3, .bool X.b4, .bool X.b5, .bool X.b6, .slice SX.A7 X.us.length SX.c7, .slice SX.A8 X.ms.length SX.c8, .bool X.b9, .slice SX.A10 X.vs.length SX.c10]) K14_b1x.out 9 _ rfl⟩
    rw [hw_]
    clear hw_
    have B16 := Aside0.mk (B14.out.trans (hu_.toBelow (B := w.heap.size) (fun k hk => by rw [hk]; exact G_b1x.out) (B14.out).size))
    have K16_g := Aside0.mk (hu_.blk K14_g.out (by have := E_g_b1x.out; omega))
    have K16_b2x := Aside0.mk (hu_.blk BX13.out (by have := E_b1x_b2x.out; omega))
    have O16_SX := Aside0.mk (O14_SX.out.box K14_b1x.out hu_)
    have O16_SD := Aside0.mk (O14_SD.out.box K14_b1x.out hu_)
    clear hu_ B14 K14_g BX13 O14_SX O14_SD K14_b1x
    have pc9 : w_15.cell? ⟨b2x, 9, none⟩ = some (.bool D.b9) := (blk_cell K16_b2x.out 9).trans rfl
    have pf9 := blk_frozen K16_b2x.out 9
    go_upto_region 9 with (fail)
    clear pc9 pf9
    obtain ⟨w_17, hw_⟩ : ∃ w_, w_15.setCell ⟨b2x, 9, none⟩ (.bool true) = w_ := ⟨_, rfl⟩
    have hu_ : Upd w_15 w_17 (fun k => k = b2x) := by rw [← hw_]; exact (Upd.refl w_15 (fun k => k = b2x)).set (p := ⟨b2x, 9, none⟩) (.inl rfl) _
    have K18_b2x : Aside0 (w_17.heap[b2x]? = some (.cells #[.string D.m, .bool D.b1, .bool D.b2, .bool D.b3, .bool D.b4, .bool D.b5, .bool D.b6, .slice SD.A7 D.us.length SD.c7, .slice SD.A8 D.ms.length SD.c8, .bool true, .slice SD.A10 D.vs.length SD.c10] 25 (0, 0))) := ⟨by rw [← hw_]; exact blk_put (cs := #[.string D.m, .bool D.b1, .bool D.b2, .bool D.b3, .bool D.b4, .bool D.b5, .bool D.b6, .slice SD.A7 D.us.length SD.c7, .slice SD.A8 D.ms.length SD.c8, .bool D.b9, .slice SD.A10 D.vs.length SD.c10]) K16_b2x.out 9 _ rfl⟩
    rw [hw_]
    clear hw_
    have B18 := Aside0.mk (B16.out.trans (hu_.toBelow (B := w.heap.size) (fun k hk => by rw [hk]; exact G_b2x.out) (B16.out).size))
    have K18_g := Aside0.mk (hu_.blk K16_g.out (by have := E_g_b2x.out; omega))
    have K18_b1x := Aside0.mk (hu_.blk K16_b1x.out (by have := E_b1x_b2x.out; omega))
    have O18_SX := Aside0.mk (O16_SX.out.box K16_b2x.out hu_)
    have O18_SD := Aside0.mk (O16_SD.out.box K16_b2x.out hu_)
    clear hu_ B16 K16_g K16_b1x O16_SX O16_SD K16_b2x
    have pc1 : w_17.cell? ⟨b1x, 1, none⟩ = some (.bool X.b1) := (blk_cell K18_b1x.out 1).trans rfl
    have pf1 := blk_frozen K18_b1x.out 1
    go_upto_region 10 with (fail)
    clear pc1 pf1
    obtain ⟨w_19, hw_⟩ : ∃ w_, w_17.setCell ⟨b1x, 1, none⟩ (.bool true) = w_ := ⟨_, rfl⟩
    have hu_ : Upd w_17 w_19 (fun k => k = b1x) := by rw [← hw_]; exact (Upd.refl w_17 (fun k => k = b1x)).set (p := ⟨b1x, 1, none⟩) (.inl rfl) _
    have K20_b1x : Aside0 (w_19.heap[b1x]? = some (.cells #[.string X.m, .bool true, .bool X.b2, .bool X.b3, .bool X.b4, .bool X.b5, .bool X.b6, .slice SX.A7 X.us.length SX.c7, .slice SX.A8 X.ms.length SX.c8, .bool true, .slice SX.A10 X.vs.length SX.c10] 25 (0, 0))) := ⟨by rw [← hw_]; exact blk_put (cs := #[.string X.m, .bool X.b1, .bool X.b2, .bool X.b3, .bool X.b4, .bool X.b5, .bool X.b6, .slice SX.A7 X.us.length SX.c7, .slice SX.A8 X.ms.length SX.c8, .bool true, .slice SX.A10 X.vs.length SX.c10]) K18_b1x.out 1 _ rfl⟩
    rw [hw_]
    clear hw_
    have B20 := Aside0.mk (B18.out.trans (hu_.toBelow (B := w.heap.size) (fun k hk => by rw [hk]; exact G_b1x.out) (B18.out).size))
    have K20_g := Aside0.mk (hu_.blk K18_g.out (by have := E_g_b1x.out; omega))
    have K20_b2x := Aside0.mk (hu_.blk K18_b2x.out (by have := E_b1x_b2x.out; omega))
    have O20_SX := Aside0.mk (O18_SX.out.box K18_b1x.out hu_)
    have O20_SD := Aside0.mk (O18_SD.out.box K18_b1x.out hu_)
    clear hu_ B18 K18_g K18_b2x O18_SX O18_SD K18_b1x
    have pc1 : w_19.cell? ⟨b2x, 1, none⟩ = some (.bool D.b1) := (blk_cell K20_b2x.out 1).trans rfl
    have pf1 := blk_frozen K20_b2x.out 1
    go_upto_region 11 with (fail)
    clear pc1 pf1
    obtain ⟨w_21, hw_⟩ : ∃ w_, w_19.setCell ⟨b2x, 1, none⟩ (.bool true) = w_ := ⟨_, rfl⟩
    have hu_ : Upd w_19 w_21 (fun k => k = b2x) := by rw [← hw_]; exact (Upd.refl w_19 (fun k => k = b2x)).set (p := ⟨b2x, 1, none⟩) (.inl rfl) _
    have K22_b2x : Aside0 (w_21.heap[b2x]? = some (.cells #[.string D.m, .bool true, .bool D.b2, .bool D.b3, .bool D.b4, .bool D.b5, .bool D.b6, .slice SD.A7 D.us.length SD.c7, .slice SD.A8 D.ms.length SD.c8, .bool true, .slice SD.A10 D.vs.length SD.c10] 25 (0, 0))) := ⟨by rw [← hw_]; exact blk_put (cs := #[.string D.m, .bool D.b1, .bool D.b2, .bool D.b3, .bool D.b4, .bool D.b5, .bool D.b6, .slice SD.A7 D.us.length SD.c7, .slice SD.A8 D.ms.length SD.c8, .bool true, .slice SD.A10 D.vs.length SD.c10]) K20_b2x.out 1 _ rfl⟩
    rw [hw_]
    clear hw_
    have B22 := Aside0.mk (B20.out.trans (hu_.toBelow (B := w.heap.size) (fun k hk => by rw [hk]; exact G_b2x.out) (B20.out).size))
    have K22_g := Aside0.mk (hu_.blk K20_g.out (by have := E_g_b2x.out; omega))
    have K22_b1x := Aside0.mk (hu_.blk K20_b1x.out (by have := E_b1x_b2x.out; omega))
    have O22_SX := Aside0.mk (O20_SX.out.box K20_b2x.out hu_)
    have O22_SD := Aside0.mk (O20_SD.out.box K20_b2x.out hu_)
    clear hu_ B20 K20_g K20_b1x O20_SX O20_SD K20_b2x
    have zb : 0 ≤ min (body.size : Int) 500 ∧ min (body.size : Int) 500 ≤ (body.size : Int) := ⟨by omega, by omega⟩
    have zu : (strOfNums [IntKind.u8.wrap (n / 256), IntKind.u8.wrap n]).size = 2 := by rw [strOfNums_two N0 N1]; rfl
    have zv : (body.extract 0 (min (body.size : Int) 500).toNat).size ≤ 500 := by rw [ByteArray.size_extract]; omega
    have z1 : ¬ (9223372036854775807 < 14 + (strOfNums [IntKind.u8.wrap (n / 256), IntKind.u8.wrap n]).size) := by omega
    have z2 : ¬ (9223372036854775807 < 14 + (strOfNums [IntKind.u8.wrap (n / 256), IntKind.u8.wrap n]).size + 2) := by omega
    have z3 : ¬ (9223372036854775807 < 14 + (strOfNums [IntKind.u8.wrap (n / 256), IntKind.u8.wrap n]).size + 2 + (body.extract 0 (min (body.size : Int) 500).toNat).size) := by omega
    have z4 : ¬ (9223372036854775807 < 18 + (min (body.size : Int) 500).toNat) := by omega
    refine start_ (n := 16) (S := fun w' => Below w_21.heap.size w_21 w') (ds := []) #[false, false, false, false, false, false, false, false, false, false, false, false, false, false, false, false] (by kernel_rfl) rfl rfl (below_drew1 (Below.refl _ _)) (fun hHeld => ?_)
    refine pure_ (i := 0) (N := some 38) (v := ?_) (a' := ?_) #[true, false, false, false, false, false, false, false, false, false, false, false, false, false, false, false] rfl rfl (by kernel_rfl) (fun _ _ _ h => h) (Or.inl ⟨by rfl, ?_⟩) ?_ ?_
    rotate_left
    · intro w'
      go_simp
      first | with_reducible rfl | (simp only [if_pos zb, if_neg z1, if_neg z2, if_neg z3, if_neg z4]; with_reducible rfl)
    rotate_left
    · simp only [Act.put, List.setIfInBounds_toArray, List.set_cons_zero, List.set_cons_succ, i64_w, i32_w]
      rfl
    refine pure_ (i := 1) (N := some 39) (v := ?_) (a' := ?_) #[true, true, false, false, false, false, false, false, false, false, false, false, false, false, false, false] rfl rfl (by kernel_rfl) (fun _ _ _ h => h) (Or.inl ⟨by rfl, ?_⟩) ?_ ?_
    rotate_left
    · intro w'
      go_simp
      first | with_reducible rfl | (simp only [if_pos zb, if_neg z1, if_neg z2, if_neg z3, if_neg z4]; with_reducible rfl)
    rotate_left
    · simp only [Act.put, List.setIfInBounds_toArray, List.set_cons_zero, List.set_cons_succ, i64_w, i32_w]
      rfl
    refine pure_ (i := 2) (N := some 40) (v := ?_) (a' := ?_) #[true, true, true, false, false, false, false, false, false, false, false, false, false, false, false, false] rfl rfl (by kernel_rfl) (fun _ _ _ h => h) (Or.inl ⟨by rfl, ?_⟩) ?_ ?_
    rotate_left
    · intro w'
      go_simp
      first | with_reducible rfl | (simp only [if_pos zb, if_neg z1, if_neg z2, if_neg z3, if_neg z4]; with_reducible rfl)
    rotate_left
    · simp only [Act.put, List.setIfInBounds_toArray, List.set_cons_zero, List.set_cons_succ, i64_w, i32_w]
      rfl
    refine pure_ (i := 3) (N := some 41) (v := ?_) (a' := ?_) #[true, true, true, true, false, false, false, false, false, false, false, false, false, false, false, false] rfl rfl (by kernel_rfl) (fun _ _ _ h => h) (Or.inl ⟨by rfl, ?_⟩) ?_ ?_
    rotate_left
    · intro w'
      go_simp
      first | with_reducible rfl | (simp only [if_pos zb, if_neg z1, if_neg z2, if_neg z3, if_neg z4]; with_reducible rfl)
    rotate_left
    · simp only [Act.put, List.setIfInBounds_toArray, List.set_cons_zero, List.set_cons_succ, i64_w, i32_w]
      rfl
    refine pure_ (i := 4) (N := some 42) (v := ?_) (a' := ?_) #[true, true, true, true, true, false, false, false, false, false, false, false, false, false, false, false] rfl rfl (by kernel_rfl) (fun _ _ _ h => h) (Or.inl ⟨by rfl, ?_⟩) ?_ ?_
    rotate_left
    · intro w'
      go_simp
      first | with_reducible rfl | (simp only [if_pos zb, if_neg z1, if_neg z2, if_neg z3, if_neg z4]; with_reducible rfl)
    rotate_left
    · simp only [Act.put, List.setIfInBounds_toArray, List.set_cons_zero, List.set_cons_succ, i64_w, i32_w]
      rfl
    refine pure_ (i := 9) (N := some 47) (v := ?_) (a' := ?_) #[true, true, true, true, true, false, false, false, false, true, false, false, false, false, false, false] rfl rfl (by kernel_rfl) (fun _ _ _ h => h) (Or.inl ⟨by rfl, ?_⟩) ?_ ?_
    rotate_left
    · intro w'
      go_simp
      first | with_reducible rfl | (simp only [if_pos zb, if_neg z1, if_neg z2, if_neg z3, if_neg z4]; with_reducible rfl)
    rotate_left
    · simp only [Act.put, List.setIfInBounds_toArray, List.set_cons_zero, List.set_cons_succ, i64_w, i32_w]
      rfl
    refine pure_ (i := 10) (N := some 48) (v := ?_) (a' := ?_) #[true, true, true, true, true, false, false, false, false, true, true, false, false, false, false, false] rfl rfl (by kernel_rfl) (fun _ _ _ h => h) (Or.inl ⟨by rfl, ?_⟩) ?_ ?_
    rotate_left
    · intro w'
      go_simp
      first | with_reducible rfl | (simp only [if_pos zb, if_neg z1, if_neg z2, if_neg z3, if_neg z4]; with_reducible rfl)
    rotate_left
    · simp only [Act.put, List.setIfInBounds_toArray, List.set_cons_zero, List.set_cons_succ, i64_w, i32_w]
      rfl
    refine pure_ (i := 11) (N := some 49) (v := ?_) (a' := ?_) #[true, true, true, true, true, false, false, false, false, true, true, true, false, false, false, false] rfl rfl (by kernel_rfl) (fun _ _ _ h => h) (Or.inl ⟨by rfl, ?_⟩) ?_ ?_
    rotate_left
    · intro w'
      go_simp
      first | with_reducible rfl | (simp only [if_pos zb, if_neg z1, if_neg z2, if_neg z3, if_neg z4]; with_reducible rfl)
    rotate_left
    · simp only [Act.put, List.setIfInBounds_toArray, List.set_cons_zero, List.set_cons_succ, i64_w, i32_w]
      rfl
    refine pure_ (i := 12) (N := some 50) (v := ?_) (a' := ?_) #[true, true, true, true, true, false, false, false, false, true, true, true, true, false, false, false] rfl rfl (by kernel_rfl) (fun _ _ _ h => h) (Or.inl ⟨by rfl, ?_⟩) ?_ ?_
    rotate_left
    · intro w'
      go_simp
      first | with_reducible rfl | (simp only [if_pos zb, if_neg z1, if_neg z2, if_neg z3, if_neg z4]; with_reducible rfl)
    rotate_left
    · simp only [Act.put, List.setIfInBounds_toArray, List.set_cons_zero, List.set_cons_succ, i64_w, i32_w]
      rfl
    refine pure_ (i := 13) (N := some 51) (v := ?_) (a' := ?_) #[true, true, true, true, true, false, false, false, false, true, true, true, true, true, false, false] rfl rfl (by kernel_rfl) (fun _ _ _ h => h) (Or.inl ⟨by rfl, ?_⟩) ?_ ?_
    rotate_left
    · intro w'
      go_simp
      first | with_reducible rfl | (simp only [if_pos zb, if_neg z1, if_neg z2, if_neg z3, if_neg z4]; with_reducible rfl)
    rotate_left
    · simp only [Act.put, List.setIfInBounds_toArray, List.set_cons_zero, List.set_cons_succ, i64_w, i32_w]
      rfl
    refine one_ (i := 5) (N := some 43) #[true, true, true, true, true, true, false, false, false, true, true, true, true, true, false, false] rfl rfl (by kernel_rfl) (by decide) (fun K hK => ?_)
    refine value_ (w1 := ?_) (v := ?_) (by rfl) rfl ?_ ?_
    rotate_left 2
    · go_simp
      constructor
      · rfl
      · rfl
    skip
    refine hK.out _ _ (below_step hHeld (below_alloc (Below.refl _ _) _)) (fun hHeld => ?_)
    clear hK K
    refine norm_ (a' := ?_) ?_ ?_
    rotate_left
    · show Act.put _ (some 43) _ = _
      simp only [Act.put, List.setIfInBounds_toArray, List.set_cons_zero, List.set_cons_succ, i64_w, i32_w]
      rfl
    refine one_ (i := 6) (N := some 44) #[true, true, true, true, true, true, true, false, false, true, true, true, true, true, false, false] rfl rfl (by kernel_rfl) (by decide) (fun K hK => ?_)
    refine value_ (w1 := ?_) (v := ?_) (by rfl) rfl ?_ ?_
    rotate_left 2
    · go_simp
      rw [run_convert_bytes_arg _ 41 5 Try.underlying41 Try.underlying5 _ 0 2 2 [IntKind.u8.wrap (n / 256), IntKind.u8.wrap n] rfl (two_cells _ _ _) 9 Try.underlying9]
      rfl
    refine hK.out _ _ (hHeld) (fun hHeld => ?_)
    clear hK K
    refine norm_ (a' := ?_) ?_ ?_
    rotate_left
    · show Act.put _ (some 44) _ = _
      simp only [Act.put, List.setIfInBounds_toArray, List.set_cons_zero, List.set_cons_succ, i64_w, i32_w]
      rfl
    refine pure_ (i := 7) (N := some 45) (v := ?_) (a' := ?_) #[true, true, true, true, true, true, true, true, false, true, true, true, true, true, false, false] rfl rfl (by kernel_rfl) (fun _ _ _ h => h) (Or.inl ⟨by rfl, ?_⟩) ?_ ?_
    rotate_left
    · intro w'
      go_simp
      first | with_reducible rfl | (simp only [if_pos zb, if_neg z1, if_neg z2, if_neg z3, if_neg z4]; with_reducible rfl)
    rotate_left
    · simp only [Act.put, List.setIfInBounds_toArray, List.set_cons_zero, List.set_cons_succ, i64_w, i32_w]
      rfl
    refine pure_ (i := 8) (N := some 46) (v := ?_) (a' := ?_) #[true, true, true, true, true, true, true, true, true, true, true, true, true, true, false, false] rfl rfl (by kernel_rfl) (fun _ _ _ h => h) (Or.inl ⟨by rfl, ?_⟩) ?_ ?_
    rotate_left
    · intro w'
      go_simp
      first | with_reducible rfl | (simp only [if_pos zb, if_neg z1, if_neg z2, if_neg z3, if_neg z4]; with_reducible rfl)
    rotate_left
    · simp only [Act.put, List.setIfInBounds_toArray, List.set_cons_zero, List.set_cons_succ, i64_w, i32_w]
      rfl
    refine pure_ (i := 14) (N := some 52) (v := ?_) (a' := ?_) #[true, true, true, true, true, true, true, true, true, true, true, true, true, true, true, false] rfl rfl (by kernel_rfl) (fun _ _ _ h => h) (Or.inl ⟨by rfl, ?_⟩) ?_ ?_
    rotate_left
    · intro w'
      go_simp
      first | with_reducible rfl | (simp only [if_pos zb, if_neg z1, if_neg z2, if_neg z3, if_neg z4]; with_reducible rfl)
    rotate_left
    · simp only [Act.put, List.setIfInBounds_toArray, List.set_cons_zero, List.set_cons_succ, i64_w, i32_w]
      rfl
    refine pure_ (i := 15) (N := some 12) (v := ?_) (a' := ?_) #[true, true, true, true, true, true, true, true, true, true, true, true, true, true, true, true] rfl rfl (by kernel_rfl) (fun _ _ _ h => h) (Or.inl ⟨by rfl, ?_⟩) ?_ ?_
    rotate_left
    · intro w'
      go_simp
      first | with_reducible rfl | (simp only [if_pos zb, if_neg z1, if_neg z2, if_neg z3, if_neg z4]; with_reducible rfl)
    rotate_left
    · simp only [Act.put, List.setIfInBounds_toArray, List.set_cons_zero, List.set_cons_succ, i64_w, i32_w]
      rfl
    refine done_ (by kernel_rfl) ?_
    generalize hq_ : (w_21.alloc (.cells #[.int .u8 (IntKind.u8.wrap (n / 256)), .int .u8 (IntKind.u8.wrap n)] 5)).drew = wq at hHeld ⊢
    clear hq_
    have B23 := Aside0.mk (below_step B22.out hHeld)
    have K23_g := Aside0.mk (blk_below K22_g.out hHeld)
    have K23_b1x := Aside0.mk (blk_below K22_b1x.out hHeld)
    have K23_b2x := Aside0.mk (blk_below K22_b2x.out hHeld)
    have O23_SX := Aside0.mk (O22_SX.out.below hHeld)
    have O23_SD := Aside0.mk (O22_SD.out.below hHeld)
    clear hHeld B22 K22_g K22_b1x K22_b2x O22_SX O22_SD
    rw [strOfNums_two N0 N1]
    obtain ⟨c, hc_⟩ : ∃ c_, body.extract 0 (min (body.size : Int) 500).toNat = c_ := ⟨_, rfl⟩
    have lc : c.size ≤ 500 := by rw [← hc_]; exact zv
    rw [hc_]
    clear hc_ zb zu zv z1 z2 z3 z4
    go_wp2_with fail
    go_loopg [13] G.vs.length (fun gk v13 w' => ∃ i : Nat, v13 = .int .i64 (i : Int) ∧ Aside0 (i + gk = G.vs.length) ∧ Aside0 (Below wq.heap.size wq w'))
    case atStart => exact ⟨0, rfl, ⟨by omega⟩, ⟨Below.refl _ _⟩⟩
    case round =>
      obtain ⟨i, rfl, hk, hb⟩ := hrel
      have hkk := hk.out
      have bg := SM.out.2.2
      have wi : IntKind.i64.wrap ((i : Int) + 1) = ((i + 1 : Nat) : Int) := by rw [IntKind.wrap_i64]; omega
      have hbr_ := hb.out
      have B24 := Aside0.mk (below_step B23.out hbr_)
      have K24_g := Aside0.mk (blk_below K23_g.out hbr_)
      have K24_b1x := Aside0.mk (blk_below K23_b1x.out hbr_)
      have K24_b2x := Aside0.mk (blk_below K23_b2x.out hbr_)
      have O24_SX := Aside0.mk (O23_SX.out.below hbr_)
      have O24_SD := Aside0.mk (O23_SD.out.below hbr_)
      clear hbr_ B23 K23_g K23_b1x K23_b2x O23_SX O23_SD
      by_cases hi : i < G.vs.length
      · have c1 : decide ((i : Int) < (G.vs.length : Int)) = true := decide_eq_true (by omega)
        have i0 : decide (0 ≤ (i : Int)) = true := decide_eq_true (by omega)
        obtain ⟨ad, hA, hcell⟩ := (HG.out.below B24.out).r10.2.2 (by omega)
        have hxc := hcell i hi
        have hxx := has_ins hX hi
        have hdx := fun h => has_del hX hD hi h
        obtain ⟨x, hx⟩ : ∃ x_, G.vs.getD i 0 = x_ := ⟨_, rfl⟩
        rw [hx] at hxc hxx hdx
        clear hcell hx
        have gc10 : wr.cell? ⟨g, 10, none⟩ = some (.slice (some ad) G.vs.length S.c10) := by rw [← hA]; exact (blk_cell K24_g.out 10).trans rfl
        go_wp2_with fail
        by_cases hne : x = n
        · have e1 : (x != n) = false := bne_eq_false_iff_eq.2 hne
          have HNE := Aside0.mk hne
          clear hne
          refine start_ (n := 29) (S := fun w' => w'.cell? ⟨b1x, 10, none⟩ = some (.slice SX.A10 X.vs.length SX.c10) ∧ w'.cell? ⟨g, 10, none⟩ = some (.slice (some ad) G.vs.length S.c10) ∧ w'.cell? ⟨b2x, 10, none⟩ = some (.slice SD.A10 D.vs.length SD.c10) ∧ w'.cell? (ad.add i) = some (.int .i64 x) ∧ Below wr.heap.size wr w') (ds := []) #[false, false, false, false, false, false, false, false, false, false, false, false, false, false, false, false, false, false, false, false, false, false, false, false, false, false, false, false, false] (by kernel_rfl) rfl rfl ⟨(blk_cell K24_b1x.out 10).trans rfl, gc10, (blk_cell K24_b2x.out 10).trans rfl, hxc, below_drew1 (Below.refl _ _)⟩ (fun hHeld => ?_)
          refine pure_ (i := 0) (N := some 60) (v := ?_) (a' := ?_) #[true, false, false, false, false, false, false, false, false, false, false, false, false, false, false, false, false, false, false, false, false, false, false, false, false, false, false, false, false] rfl rfl (by kernel_rfl) (fun _ _ _ h => h) (Or.inl ⟨by rfl, ?_⟩) ?_ ?_
          rotate_left
          · intro w'
            go_simp
            first | with_reducible rfl | (simp only [if_pos c1]; with_reducible rfl)
          rotate_left
          · simp only [Act.put, List.setIfInBounds_toArray, List.set_cons_zero, List.set_cons_succ, i64_w, i32_w]
            rfl
          refine pure_ (i := 2) (N := some 62) (v := ?_) (a' := ?_) #[true, false, true, false, false, false, false, false, false, false, false, false, false, false, false, false, false, false, false, false, false, false, false, false, false, false, false, false, false] rfl rfl (by kernel_rfl) (fun _ _ _ h => h) (Or.inl ⟨by rfl, ?_⟩) ?_ ?_
          rotate_left
          · intro w'
            go_simp
            first | with_reducible rfl | (simp only [if_pos c1]; with_reducible rfl)
          rotate_left
          · simp only [Act.put, List.setIfInBounds_toArray, List.set_cons_zero, List.set_cons_succ, i64_w, i32_w]
            rfl
          refine pure_ (i := 4) (N := some 64) (v := ?_) (a' := ?_) #[true, false, true, false, true, false, false, false, false, false, false, false, false, false, false, false, false, false, false, false, false, false, false, false, false, false, false, false, false] rfl rfl (by kernel_rfl) (fun _ _ _ h => h) (Or.inl ⟨by rfl, ?_⟩) ?_ ?_
          rotate_left
          · intro w'
            go_simp
            first | with_reducible rfl | (simp only [if_pos c1]; with_reducible rfl)
          rotate_left
          · simp only [Act.put, List.setIfInBounds_toArray, List.set_cons_zero, List.set_cons_succ, i64_w, i32_w]
            rfl
          refine take_ (i := 1) (N := some 61) (v := ?_) (a' := ?_) #[true, true, true, false, true, false, false, false, false, false, false, false, false, false, false, false, false, false, false, false, false, false, false, false, false, false, false, false, false] rfl rfl (by kernel_rfl) (fun _ _ _ h => h) (Or.inl ⟨by rfl, ?_⟩) hHeld ?_ ?_
          rotate_left
          · rintro w' ⟨s0, s1, s2, s3, s4⟩
            go_simp
            first | with_reducible rfl | (simp only [if_pos c1]; with_reducible rfl)
          rotate_left
          · simp only [Act.put, List.setIfInBounds_toArray, List.set_cons_zero, List.set_cons_succ, i64_w, i32_w]
            rfl
          refine take_ (i := 3) (N := some 63) (v := ?_) (a' := ?_) #[true, true, true, true, true, false, false, false, false, false, false, false, false, false, false, false, false, false, false, false, false, false, false, false, false, false, false, false, false] rfl rfl (by kernel_rfl) (fun _ _ _ h => h) (Or.inl ⟨by rfl, ?_⟩) hHeld ?_ ?_
          rotate_left
          · rintro w' ⟨s0, s1, s2, s3, s4⟩
            go_simp
            first | with_reducible rfl | (simp only [if_pos c1]; with_reducible rfl)
          rotate_left
          · simp only [Act.put, List.setIfInBounds_toArray, List.set_cons_zero, List.set_cons_succ, i64_w, i32_w]
            rfl
          refine pure_ (i := 5) (N := some 65) (v := ?_) (a' := ?_) #[true, true, true, true, true, true, false, false, false, false, false, false, false, false, false, false, false, false, false, false, false, false, false, false, false, false, false, false, false] rfl rfl (by kernel_rfl) (fun _ _ _ h => h) (Or.inl ⟨by rfl, ?_⟩) ?_ ?_
          rotate_left
          · intro w'
            go_simp
            first | with_reducible rfl | (simp only [if_pos c1]; with_reducible rfl)
          rotate_left
          · simp only [Act.put, List.setIfInBounds_toArray, List.set_cons_zero, List.set_cons_succ, i64_w, i32_w]
            rfl
          refine take_ (i := 6) (N := some 66) (v := ?_) (a' := ?_) #[true, true, true, true, true, true, true, false, false, false, false, false, false, false, false, false, false, false, false, false, false, false, false, false, false, false, false, false, false] rfl rfl (by kernel_rfl) (fun _ _ _ h => h) (Or.inl ⟨by rfl, ?_⟩) hHeld ?_ ?_
          rotate_left
          · rintro w' ⟨s0, s1, s2, s3, s4⟩
            go_simp
            first | with_reducible rfl | (simp only [if_pos c1]; with_reducible rfl)
          rotate_left
          · simp only [Act.put, List.setIfInBounds_toArray, List.set_cons_zero, List.set_cons_succ, i64_w, i32_w]
            rfl
          refine one_ (i := 7) (N := some 67) #[true, true, true, true, true, true, true, true, false, false, false, false, false, false, false, false, false, false, false, false, false, false, false, false, false, false, false, false, false] rfl rfl (by kernel_rfl) (by decide) (fun K hK => ?_)
          refine goes_ Try.func20 (by kernel_rfl) rfl #[.slice SX.A10 X.vs.length SX.c10, .int .i64 x] (by rfl) rfl rfl (by simp only [List.map_toArray, List.map_cons, List.map_nil]; rfl) ?_
          with_reducible refine (net_true _ hxx ((O24_SX.out.below hHeld.2.2.2.2).fv.r10) O24_SX.out.fv.l10 (M1.out.vs (by decide))).mono ?_
          rintro e u1 ⟨rfl, hu1⟩
          refine ⟨_, rfl, ?_⟩
          have Ku1 := Aside0.mk hu1
          clear hu1
          refine hK.out _ _ ⟨pw_cell_below Ku1.out hHeld.1, pw_cell_below Ku1.out hHeld.2.1, pw_cell_below Ku1.out hHeld.2.2.1, pw_cell_below Ku1.out hHeld.2.2.2.1, below_step hHeld.2.2.2.2 Ku1.out⟩ (fun hHeld => ?_)
          clear hK K
          refine norm_ (a' := ?_) ?_ ?_
          rotate_left
          · show Act.put _ (some 67) _ = _
            simp only [Act.put, List.setIfInBounds_toArray, List.set_cons_zero, List.set_cons_succ, i64_w, i32_w]
            rfl
          refine pure_ (i := 8) (N := some 68) (v := ?_) (a' := ?_) #[true, true, true, true, true, true, true, true, true, false, false, false, false, false, false, false, false, false, false, false, false, false, false, false, false, false, false, false, false] rfl rfl (by kernel_rfl) (fun _ _ _ h => h) (Or.inl ⟨by rfl, ?_⟩) ?_ ?_
          rotate_left
          · intro w'
            go_simp
            first | with_reducible rfl | (simp only [if_pos c1]; with_reducible rfl)
          rotate_left
          · simp only [Act.put, List.setIfInBounds_toArray, List.set_cons_zero, List.set_cons_succ, i64_w, i32_w]
            rfl
          refine pure_ (i := 9) (N := some 69) (v := ?_) (a' := ?_) #[true, true, true, true, true, true, true, true, true, true, false, false, false, false, false, false, false, false, false, false, false, false, false, false, false, false, false, false, false] rfl rfl (by kernel_rfl) (fun _ _ _ h => h) (Or.inl ⟨by rfl, ?_⟩) ?_ ?_
          rotate_left
          · intro w'
            go_simp
            first | with_reducible rfl | (simp only [if_pos c1]; with_reducible rfl)
          rotate_left
          · simp only [Act.put, List.setIfInBounds_toArray, List.set_cons_zero, List.set_cons_succ, i64_w, i32_w]
            rfl
          refine pure_ (i := 10) (N := some 70) (v := ?_) (a' := ?_) #[true, true, true, true, true, true, true, true, true, true, true, false, false, false, false, false, false, false, false, false, false, false, false, false, false, false, false, false, false] rfl rfl (by kernel_rfl) (fun _ _ _ h => h) (Or.inl ⟨by rfl, ?_⟩) ?_ ?_
          rotate_left
          · intro w'
            go_simp
            first | with_reducible rfl | (simp only [if_pos c1]; with_reducible rfl)
          rotate_left
          · simp only [Act.put, List.setIfInBounds_toArray, List.set_cons_zero, List.set_cons_succ, i64_w, i32_w]
            rfl
          refine pure_ (i := 12) (N := some 72) (v := ?_) (a' := ?_) #[true, true, true, true, true, true, true, true, true, true, true, false, true, false, false, false, false, false, false, false, false, false, false, false, false, false, false, false, false] rfl rfl (by kernel_rfl) (fun _ _ _ h => h) (Or.inl ⟨by rfl, ?_⟩) ?_ ?_
          rotate_left
          · intro w'
            go_simp
            first | with_reducible rfl | (simp only [if_pos c1]; with_reducible rfl)
          rotate_left
          · simp only [Act.put, List.setIfInBounds_toArray, List.set_cons_zero, List.set_cons_succ, i64_w, i32_w]
            rfl
          refine pure_ (i := 15) (N := some 75) (v := ?_) (a' := ?_) #[true, true, true, true, true, true, true, true, true, true, true, false, true, false, false, true, false, false, false, false, false, false, false, false, false, false, false, false, false] rfl rfl (by kernel_rfl) (fun _ _ _ h => h) (Or.inl ⟨by rfl, ?_⟩) ?_ ?_
          rotate_left
          · intro w'
            go_simp
            first | with_reducible rfl | (simp only [if_pos c1]; with_reducible rfl)
          rotate_left
          · simp only [Act.put, List.setIfInBounds_toArray, List.set_cons_zero, List.set_cons_succ, i64_w, i32_w]
            rfl
          refine take_ (i := 11) (N := some 71) (v := ?_) (a' := ?_) #[true, true, true, true, true, true, true, true, true, true, true, true, true, false, false, true, false, false, false, false, false, false, false, false, false, false, false, false, false] rfl rfl (by kernel_rfl) (fun _ _ _ h => h) (Or.inl ⟨by rfl, ?_⟩) hHeld ?_ ?_
          rotate_left
          · rintro w' ⟨s0, s1, s2, s3, s4⟩
            go_simp
            first | with_reducible rfl | (simp only [if_pos c1]; with_reducible rfl)
          rotate_left
          · simp only [Act.put, List.setIfInBounds_toArray, List.set_cons_zero, List.set_cons_succ, i64_w, i32_w]
            rfl
          refine pure_ (i := 13) (N := some 73) (v := ?_) (a' := ?_) #[true, true, true, true, true, true, true, true, true, true, true, true, true, true, false, true, false, false, false, false, false, false, false, false, false, false, false, false, false] rfl rfl (by kernel_rfl) (fun _ _ _ h => h) (Or.inl ⟨by rfl, ?_⟩) ?_ ?_
          rotate_left
          · intro w'
            go_simp
            first | with_reducible rfl | (simp only [if_pos c1]; with_reducible rfl)
          rotate_left
          · simp only [Act.put, List.setIfInBounds_toArray, List.set_cons_zero, List.set_cons_succ, i64_w, i32_w]
            rfl
          refine take_ (i := 14) (N := some 74) (v := ?_) (a' := ?_) #[true, true, true, true, true, true, true, true, true, true, true, true, true, true, true, true, false, false, false, false, false, false, false, false, false, false, false, false, false] rfl rfl (by kernel_rfl) (fun _ _ _ h => h) (Or.inl ⟨by rfl, ?_⟩) hHeld ?_ ?_
          rotate_left
          · rintro w' ⟨s0, s1, s2, s3, s4⟩
            go_simp
            first | with_reducible rfl | (simp only [if_pos c1]; with_reducible rfl)
          rotate_left
          · simp only [Act.put, List.setIfInBounds_toArray, List.set_cons_zero, List.set_cons_succ, i64_w, i32_w]
            rfl
          refine pure_ (i := 16) (N := some 76) (v := ?_) (a' := ?_) #[true, true, true, true, true, true, true, true, true, true, true, true, true, true, true, true, true, false, false, false, false, false, false, false, false, false, false, false, false] rfl rfl (by kernel_rfl) (fun _ _ _ h => h) (Or.inl ⟨by rfl, ?_⟩) ?_ ?_
          rotate_left
          · intro w'
            go_simp
            first | with_reducible rfl | (simp only [if_pos c1]; with_reducible rfl)
          rotate_left
          · simp only [Act.put, List.setIfInBounds_toArray, List.set_cons_zero, List.set_cons_succ, i64_w, i32_w]
            rfl
          refine pure_ (i := 17) (N := some 77) (v := ?_) (a' := ?_) #[true, true, true, true, true, true, true, true, true, true, true, true, true, true, true, true, true, true, false, false, false, false, false, false, false, false, false, false, false] rfl rfl (by kernel_rfl) (fun _ _ _ h => h) (Or.inl ⟨by rfl, ?_⟩) ?_ ?_
          rotate_left
          · intro w'
            go_simp
            first | with_reducible rfl | (simp only [if_pos c1]; with_reducible rfl)
          rotate_left
          · simp only [Act.put, List.setIfInBounds_toArray, List.set_cons_zero, List.set_cons_succ, i64_w, i32_w]
            rfl
          refine pure_ (i := 18) (N := some 78) (v := undef) (a' := ?_) #[true, true, true, true, true, true, true, true, true, true, true, true, true, true, true, true, true, true, true, false, false, false, false, false, false, false, false, false, false] rfl rfl (by kernel_rfl) (fun _ _ _ h => h) (Or.inr ⟨by rfl, rfl⟩) ?_ ?_
          rotate_left
          · simp only [Act.put, List.setIfInBounds_toArray, List.set_cons_zero, List.set_cons_succ, i64_w, i32_w]
            rfl
          refine pure_ (i := 19) (N := some 79) (v := undef) (a' := ?_) #[true, true, true, true, true, true, true, true, true, true, true, true, true, true, true, true, true, true, true, true, false, false, false, false, false, false, false, false, false] rfl rfl (by kernel_rfl) (fun _ _ _ h => h) (Or.inr ⟨by rfl, rfl⟩) ?_ ?_
          rotate_left
          · simp only [Act.put, List.setIfInBounds_toArray, List.set_cons_zero, List.set_cons_succ, i64_w, i32_w]
            rfl
          refine pure_ (i := 20) (N := some 80) (v := undef) (a' := ?_) #[true, true, true, true, true, true, true, true, true, true, true, true, true, true, true, true, true, true, true, true, true, false, false, false, false, false, false, false, false] rfl rfl (by kernel_rfl) (fun _ _ _ h => h) (Or.inr ⟨by rfl, rfl⟩) ?_ ?_
          rotate_left
          · simp only [Act.put, List.setIfInBounds_toArray, List.set_cons_zero, List.set_cons_succ, i64_w, i32_w]
            rfl
          refine pure_ (i := 21) (N := some 81) (v := undef) (a' := ?_) #[true, true, true, true, true, true, true, true, true, true, true, true, true, true, true, true, true, true, true, true, true, true, false, false, false, false, false, false, false] rfl rfl (by kernel_rfl) (fun _ _ _ h => h) (Or.inr ⟨by rfl, rfl⟩) ?_ ?_
          rotate_left
          · simp only [Act.put, List.setIfInBounds_toArray, List.set_cons_zero, List.set_cons_succ, i64_w, i32_w]
            rfl
          refine pure_ (i := 22) (N := some 82) (v := undef) (a' := ?_) #[true, true, true, true, true, true, true, true, true, true, true, true, true, true, true, true, true, true, true, true, true, true, true, false, false, false, false, false, false] rfl rfl (by kernel_rfl) (fun _ _ _ h => h) (Or.inr ⟨by rfl, rfl⟩) ?_ ?_
          rotate_left
          · simp only [Act.put, List.setIfInBounds_toArray, List.set_cons_zero, List.set_cons_succ, i64_w, i32_w]
            rfl
          refine pure_ (i := 23) (N := some 83) (v := undef) (a' := ?_) #[true, true, true, true, true, true, true, true, true, true, true, true, true, true, true, true, true, true, true, true, true, true, true, true, false, false, false, false, false] rfl rfl (by kernel_rfl) (fun _ _ _ h => h) (Or.inr ⟨by rfl, rfl⟩) ?_ ?_
          rotate_left
          · simp only [Act.put, List.setIfInBounds_toArray, List.set_cons_zero, List.set_cons_succ, i64_w, i32_w]
            rfl
          refine pure_ (i := 24) (N := some 84) (v := undef) (a' := ?_) #[true, true, true, true, true, true, true, true, true, true, true, true, true, true, true, true, true, true, true, true, true, true, true, true, true, false, false, false, false] rfl rfl (by kernel_rfl) (fun _ _ _ h => h) (Or.inr ⟨by rfl, rfl⟩) ?_ ?_
          rotate_left
          · simp only [Act.put, List.setIfInBounds_toArray, List.set_cons_zero, List.set_cons_succ, i64_w, i32_w]
            rfl
          refine pure_ (i := 25) (N := some 85) (v := undef) (a' := ?_) #[true, true, true, true, true, true, true, true, true, true, true, true, true, true, true, true, true, true, true, true, true, true, true, true, true, true, false, false, false] rfl rfl (by kernel_rfl) (fun _ _ _ h => h) (Or.inr ⟨by rfl, rfl⟩) ?_ ?_
          rotate_left
          · simp only [Act.put, List.setIfInBounds_toArray, List.set_cons_zero, List.set_cons_succ, i64_w, i32_w]
            rfl
          refine pure_ (i := 26) (N := some 86) (v := undef) (a' := ?_) #[true, true, true, true, true, true, true, true, true, true, true, true, true, true, true, true, true, true, true, true, true, true, true, true, true, true, true, false, false] rfl rfl (by kernel_rfl) (fun _ _ _ h => h) (Or.inr ⟨by rfl, rfl⟩) ?_ ?_
          rotate_left
          · simp only [Act.put, List.setIfInBounds_toArray, List.set_cons_zero, List.set_cons_succ, i64_w, i32_w]
            rfl
          refine pure_ (i := 27) (N := some 87) (v := ?_) (a' := ?_) #[true, true, true, true, true, true, true, true, true, true, true, true, true, true, true, true, true, true, true, true, true, true, true, true, true, true, true, true, false] rfl rfl (by kernel_rfl) (fun _ _ _ h => h) (Or.inl ⟨by rfl, ?_⟩) ?_ ?_
          rotate_left
          · intro w'
            go_simp
            first | with_reducible rfl | (simp only [if_pos c1]; with_reducible rfl)
          rotate_left
          · simp only [Act.put, List.setIfInBounds_toArray, List.set_cons_zero, List.set_cons_succ, i64_w, i32_w]
            rfl
          refine pure_ (i := 28) (N := some 88) (v := ?_) (a' := ?_) #[true, true, true, true, true, true, true, true, true, true, true, true, true, true, true, true, true, true, true, true, true, true, true, true, true, true, true, true, true] rfl rfl (by kernel_rfl) (fun _ _ _ h => h) (Or.inl ⟨by rfl, ?_⟩) ?_ ?_
          rotate_left
          · intro w'
            go_simp
            first | with_reducible rfl | (simp only [if_pos c1]; with_reducible rfl)
          rotate_left
          · simp only [Act.put, List.setIfInBounds_toArray, List.set_cons_zero, List.set_cons_succ, i64_w, i32_w]
            rfl
          refine done_ (by kernel_rfl) ?_
          have BB := Aside0.mk (below_step hb.out hHeld.2.2.2.2)
          obtain ⟨kk, rfl⟩ : ∃ m, gk = m + 1 := ⟨gk - 1, by omega⟩
          go_wp2_with fail
          try rw [wi]
          go_roundg kk
          case measure => omega
          case rel => exact ⟨i + 1, rfl, ⟨by omega⟩, BB⟩
        · have e1 : (x != n) = true := bne_iff_ne.2 hne
          have HNE := Aside0.mk hne
          clear hne
          refine start_ (n := 29) (S := fun w' => w'.cell? ⟨b1x, 10, none⟩ = some (.slice SX.A10 X.vs.length SX.c10) ∧ w'.cell? ⟨g, 10, none⟩ = some (.slice (some ad) G.vs.length S.c10) ∧ w'.cell? ⟨b2x, 10, none⟩ = some (.slice SD.A10 D.vs.length SD.c10) ∧ w'.cell? (ad.add i) = some (.int .i64 x) ∧ Below wr.heap.size wr w') (ds := []) #[false, false, false, false, false, false, false, false, false, false, false, false, false, false, false, false, false, false, false, false, false, false, false, false, false, false, false, false, false] (by kernel_rfl) rfl rfl ⟨(blk_cell K24_b1x.out 10).trans rfl, gc10, (blk_cell K24_b2x.out 10).trans rfl, hxc, below_drew1 (Below.refl _ _)⟩ (fun hHeld => ?_)
          refine pure_ (i := 0) (N := some 60) (v := ?_) (a' := ?_) #[true, false, false, false, false, false, false, false, false, false, false, false, false, false, false, false, false, false, false, false, false, false, false, false, false, false, false, false, false] rfl rfl (by kernel_rfl) (fun _ _ _ h => h) (Or.inl ⟨by rfl, ?_⟩) ?_ ?_
          rotate_left
          · intro w'
            go_simp
            first | with_reducible rfl | (simp only [if_pos c1]; with_reducible rfl)
          rotate_left
          · simp only [Act.put, List.setIfInBounds_toArray, List.set_cons_zero, List.set_cons_succ, i64_w, i32_w]
            rfl
          refine pure_ (i := 2) (N := some 62) (v := ?_) (a' := ?_) #[true, false, true, false, false, false, false, false, false, false, false, false, false, false, false, false, false, false, false, false, false, false, false, false, false, false, false, false, false] rfl rfl (by kernel_rfl) (fun _ _ _ h => h) (Or.inl ⟨by rfl, ?_⟩) ?_ ?_
          rotate_left
          · intro w'
            go_simp
            first | with_reducible rfl | (simp only [if_pos c1]; with_reducible rfl)
          rotate_left
          · simp only [Act.put, List.setIfInBounds_toArray, List.set_cons_zero, List.set_cons_succ, i64_w, i32_w]
            rfl
          refine pure_ (i := 4) (N := some 64) (v := ?_) (a' := ?_) #[true, false, true, false, true, false, false, false, false, false, false, false, false, false, false, false, false, false, false, false, false, false, false, false, false, false, false, false, false] rfl rfl (by kernel_rfl) (fun _ _ _ h => h) (Or.inl ⟨by rfl, ?_⟩) ?_ ?_
          rotate_left
          · intro w'
            go_simp
            first | with_reducible rfl | (simp only [if_pos c1]; with_reducible rfl)
          rotate_left
          · simp only [Act.put, List.setIfInBounds_toArray, List.set_cons_zero, List.set_cons_succ, i64_w, i32_w]
            rfl
          refine take_ (i := 1) (N := some 61) (v := ?_) (a' := ?_) #[true, true, true, false, true, false, false, false, false, false, false, false, false, false, false, false, false, false, false, false, false, false, false, false, false, false, false, false, false] rfl rfl (by kernel_rfl) (fun _ _ _ h => h) (Or.inl ⟨by rfl, ?_⟩) hHeld ?_ ?_
          rotate_left
          · rintro w' ⟨s0, s1, s2, s3, s4⟩
            go_simp
            first | with_reducible rfl | (simp only [if_pos c1]; with_reducible rfl)
          rotate_left
          · simp only [Act.put, List.setIfInBounds_toArray, List.set_cons_zero, List.set_cons_succ, i64_w, i32_w]
            rfl
          refine take_ (i := 3) (N := some 63) (v := ?_) (a' := ?_) #[true, true, true, true, true, false, false, false, false, false, false, false, false, false, false, false, false, false, false, false, false, false, false, false, false, false, false, false, false] rfl rfl (by kernel_rfl) (fun _ _ _ h => h) (Or.inl ⟨by rfl, ?_⟩) hHeld ?_ ?_
          rotate_left
          · rintro w' ⟨s0, s1, s2, s3, s4⟩
            go_simp
            first | with_reducible rfl | (simp only [if_pos c1]; with_reducible rfl)
          rotate_left
          · simp only [Act.put, List.setIfInBounds_toArray, List.set_cons_zero, List.set_cons_succ, i64_w, i32_w]
            rfl
          refine pure_ (i := 5) (N := some 65) (v := ?_) (a' := ?_) #[true, true, true, true, true, true, false, false, false, false, false, false, false, false, false, false, false, false, false, false, false, false, false, false, false, false, false, false, false] rfl rfl (by kernel_rfl) (fun _ _ _ h => h) (Or.inl ⟨by rfl, ?_⟩) ?_ ?_
          rotate_left
          · intro w'
            go_simp
            first | with_reducible rfl | (simp only [if_pos c1]; with_reducible rfl)
          rotate_left
          · simp only [Act.put, List.setIfInBounds_toArray, List.set_cons_zero, List.set_cons_succ, i64_w, i32_w]
            rfl
          refine take_ (i := 6) (N := some 66) (v := ?_) (a' := ?_) #[true, true, true, true, true, true, true, false, false, false, false, false, false, false, false, false, false, false, false, false, false, false, false, false, false, false, false, false, false] rfl rfl (by kernel_rfl) (fun _ _ _ h => h) (Or.inl ⟨by rfl, ?_⟩) hHeld ?_ ?_
          rotate_left
          · rintro w' ⟨s0, s1, s2, s3, s4⟩
            go_simp
            first | with_reducible rfl | (simp only [if_pos c1]; with_reducible rfl)
          rotate_left
          · simp only [Act.put, List.setIfInBounds_toArray, List.set_cons_zero, List.set_cons_succ, i64_w, i32_w]
            rfl
          refine one_ (i := 7) (N := some 67) #[true, true, true, true, true, true, true, true, false, false, false, false, false, false, false, false, false, false, false, false, false, false, false, false, false, false, false, false, false] rfl rfl (by kernel_rfl) (by decide) (fun K hK => ?_)
          refine goes_ Try.func20 (by kernel_rfl) rfl #[.slice SX.A10 X.vs.length SX.c10, .int .i64 x] (by rfl) rfl rfl (by simp only [List.map_toArray, List.map_cons, List.map_nil]; rfl) ?_
          with_reducible refine (net_true _ hxx ((O24_SX.out.below hHeld.2.2.2.2).fv.r10) O24_SX.out.fv.l10 (M1.out.vs (by decide))).mono ?_
          rintro e u3 ⟨rfl, hu3⟩
          refine ⟨_, rfl, ?_⟩
          have Ku3 := Aside0.mk hu3
          clear hu3
          refine hK.out _ _ ⟨pw_cell_below Ku3.out hHeld.1, pw_cell_below Ku3.out hHeld.2.1, pw_cell_below Ku3.out hHeld.2.2.1, pw_cell_below Ku3.out hHeld.2.2.2.1, below_step hHeld.2.2.2.2 Ku3.out⟩ (fun hHeld => ?_)
          clear hK K
          refine norm_ (a' := ?_) ?_ ?_
          rotate_left
          · show Act.put _ (some 67) _ = _
            simp only [Act.put, List.setIfInBounds_toArray, List.set_cons_zero, List.set_cons_succ, i64_w, i32_w]
            rfl
          refine pure_ (i := 8) (N := some 68) (v := ?_) (a' := ?_) #[true, true, true, true, true, true, true, true, true, false, false, false, false, false, false, false, false, false, false, false, false, false, false, false, false, false, false, false, false] rfl rfl (by kernel_rfl) (fun _ _ _ h => h) (Or.inl ⟨by rfl, ?_⟩) ?_ ?_
          rotate_left
          · intro w'
            go_simp
            first | with_reducible rfl | (simp only [if_pos c1]; with_reducible rfl)
          rotate_left
          · simp only [Act.put, List.setIfInBounds_toArray, List.set_cons_zero, List.set_cons_succ, i64_w, i32_w]
            rfl
          refine pure_ (i := 9) (N := some 69) (v := ?_) (a' := ?_) #[true, true, true, true, true, true, true, true, true, true, false, false, false, false, false, false, false, false, false, false, false, false, false, false, false, false, false, false, false] rfl rfl (by kernel_rfl) (fun _ _ _ h => h) (Or.inl ⟨by rfl, ?_⟩) ?_ ?_
          rotate_left
          · intro w'
            go_simp
            first | with_reducible rfl | (simp only [if_pos c1]; with_reducible rfl)
          rotate_left
          · simp only [Act.put, List.setIfInBounds_toArray, List.set_cons_zero, List.set_cons_succ, i64_w, i32_w]
            rfl
          refine pure_ (i := 10) (N := some 70) (v := ?_) (a' := ?_) #[true, true, true, true, true, true, true, true, true, true, true, false, false, false, false, false, false, false, false, false, false, false, false, false, false, false, false, false, false] rfl rfl (by kernel_rfl) (fun _ _ _ h => h) (Or.inl ⟨by rfl, ?_⟩) ?_ ?_
          rotate_left
          · intro w'
            go_simp
            first | with_reducible rfl | (simp only [if_pos c1]; with_reducible rfl)
          rotate_left
          · simp only [Act.put, List.setIfInBounds_toArray, List.set_cons_zero, List.set_cons_succ, i64_w, i32_w]
            rfl
          refine pure_ (i := 12) (N := some 72) (v := ?_) (a' := ?_) #[true, true, true, true, true, true, true, true, true, true, true, false, true, false, false, false, false, false, false, false, false, false, false, false, false, false, false, false, false] rfl rfl (by kernel_rfl) (fun _ _ _ h => h) (Or.inl ⟨by rfl, ?_⟩) ?_ ?_
          rotate_left
          · intro w'
            go_simp
            first | with_reducible rfl | (simp only [if_pos c1]; with_reducible rfl)
          rotate_left
          · simp only [Act.put, List.setIfInBounds_toArray, List.set_cons_zero, List.set_cons_succ, i64_w, i32_w]
            rfl
          refine pure_ (i := 15) (N := some 75) (v := ?_) (a' := ?_) #[true, true, true, true, true, true, true, true, true, true, true, false, true, false, false, true, false, false, false, false, false, false, false, false, false, false, false, false, false] rfl rfl (by kernel_rfl) (fun _ _ _ h => h) (Or.inl ⟨by rfl, ?_⟩) ?_ ?_
          rotate_left
          · intro w'
            go_simp
            first | with_reducible rfl | (simp only [if_pos c1]; with_reducible rfl)
          rotate_left
          · simp only [Act.put, List.setIfInBounds_toArray, List.set_cons_zero, List.set_cons_succ, i64_w, i32_w]
            rfl
          refine take_ (i := 11) (N := some 71) (v := ?_) (a' := ?_) #[true, true, true, true, true, true, true, true, true, true, true, true, true, false, false, true, false, false, false, false, false, false, false, false, false, false, false, false, false] rfl rfl (by kernel_rfl) (fun _ _ _ h => h) (Or.inl ⟨by rfl, ?_⟩) hHeld ?_ ?_
          rotate_left
          · rintro w' ⟨s0, s1, s2, s3, s4⟩
            go_simp
            first | with_reducible rfl | (simp only [if_pos c1]; with_reducible rfl)
          rotate_left
          · simp only [Act.put, List.setIfInBounds_toArray, List.set_cons_zero, List.set_cons_succ, i64_w, i32_w]
            rfl
          refine pure_ (i := 13) (N := some 73) (v := ?_) (a' := ?_) #[true, true, true, true, true, true, true, true, true, true, true, true, true, true, false, true, false, false, false, false, false, false, false, false, false, false, false, false, false] rfl rfl (by kernel_rfl) (fun _ _ _ h => h) (Or.inl ⟨by rfl, ?_⟩) ?_ ?_
          rotate_left
          · intro w'
            go_simp
            first | with_reducible rfl | (simp only [if_pos c1]; with_reducible rfl)
          rotate_left
          · simp only [Act.put, List.setIfInBounds_toArray, List.set_cons_zero, List.set_cons_succ, i64_w, i32_w]
            rfl
          refine take_ (i := 14) (N := some 74) (v := ?_) (a' := ?_) #[true, true, true, true, true, true, true, true, true, true, true, true, true, true, true, true, false, false, false, false, false, false, false, false, false, false, false, false, false] rfl rfl (by kernel_rfl) (fun _ _ _ h => h) (Or.inl ⟨by rfl, ?_⟩) hHeld ?_ ?_
          rotate_left
          · rintro w' ⟨s0, s1, s2, s3, s4⟩
            go_simp
            first | with_reducible rfl | (simp only [if_pos c1]; with_reducible rfl)
          rotate_left
          · simp only [Act.put, List.setIfInBounds_toArray, List.set_cons_zero, List.set_cons_succ, i64_w, i32_w]
            rfl
          refine pure_ (i := 16) (N := some 76) (v := ?_) (a' := ?_) #[true, true, true, true, true, true, true, true, true, true, true, true, true, true, true, true, true, false, false, false, false, false, false, false, false, false, false, false, false] rfl rfl (by kernel_rfl) (fun _ _ _ h => h) (Or.inl ⟨by rfl, ?_⟩) ?_ ?_
          rotate_left
          · intro w'
            go_simp
            first | with_reducible rfl | (simp only [if_pos c1]; with_reducible rfl)
          rotate_left
          · simp only [Act.put, List.setIfInBounds_toArray, List.set_cons_zero, List.set_cons_succ, i64_w, i32_w]
            rfl
          refine pure_ (i := 17) (N := some 77) (v := ?_) (a' := ?_) #[true, true, true, true, true, true, true, true, true, true, true, true, true, true, true, true, true, true, false, false, false, false, false, false, false, false, false, false, false] rfl rfl (by kernel_rfl) (fun _ _ _ h => h) (Or.inl ⟨by rfl, ?_⟩) ?_ ?_
          rotate_left
          · intro w'
            go_simp
            first | with_reducible rfl | (simp only [if_pos c1]; with_reducible rfl)
          rotate_left
          · simp only [Act.put, List.setIfInBounds_toArray, List.set_cons_zero, List.set_cons_succ, i64_w, i32_w]
            rfl
          refine pure_ (i := 18) (N := some 78) (v := ?_) (a' := ?_) #[true, true, true, true, true, true, true, true, true, true, true, true, true, true, true, true, true, true, true, false, false, false, false, false, false, false, false, false, false] rfl rfl (by kernel_rfl) (fun _ _ _ h => h) (Or.inl ⟨by rfl, ?_⟩) ?_ ?_
          rotate_left
          · intro w'
            go_simp
            first | with_reducible rfl | (simp only [if_pos c1]; with_reducible rfl)
          rotate_left
          · simp only [Act.put, List.setIfInBounds_toArray, List.set_cons_zero, List.set_cons_succ, i64_w, i32_w]
            rfl
          refine pure_ (i := 20) (N := some 80) (v := ?_) (a' := ?_) #[true, true, true, true, true, true, true, true, true, true, true, true, true, true, true, true, true, true, true, false, true, false, false, false, false, false, false, false, false] rfl rfl (by kernel_rfl) (fun _ _ _ h => h) (Or.inl ⟨by rfl, ?_⟩) ?_ ?_
          rotate_left
          · intro w'
            go_simp
            first | with_reducible rfl | (simp only [if_pos c1]; with_reducible rfl)
          rotate_left
          · simp only [Act.put, List.setIfInBounds_toArray, List.set_cons_zero, List.set_cons_succ, i64_w, i32_w]
            rfl
          refine pure_ (i := 22) (N := some 82) (v := ?_) (a' := ?_) #[true, true, true, true, true, true, true, true, true, true, true, true, true, true, true, true, true, true, true, false, true, false, true, false, false, false, false, false, false] rfl rfl (by kernel_rfl) (fun _ _ _ h => h) (Or.inl ⟨by rfl, ?_⟩) ?_ ?_
          rotate_left
          · intro w'
            go_simp
            first | with_reducible rfl | (simp only [if_pos c1]; with_reducible rfl)
          rotate_left
          · simp only [Act.put, List.setIfInBounds_toArray, List.set_cons_zero, List.set_cons_succ, i64_w, i32_w]
            rfl
          refine take_ (i := 19) (N := some 79) (v := ?_) (a' := ?_) #[true, true, true, true, true, true, true, true, true, true, true, true, true, true, true, true, true, true, true, true, true, false, true, false, false, false, false, false, false] rfl rfl (by kernel_rfl) (fun _ _ _ h => h) (Or.inl ⟨by rfl, ?_⟩) hHeld ?_ ?_
          rotate_left
          · rintro w' ⟨s0, s1, s2, s3, s4⟩
            go_simp
            first | with_reducible rfl | (simp only [if_pos c1]; with_reducible rfl)
          rotate_left
          · simp only [Act.put, List.setIfInBounds_toArray, List.set_cons_zero, List.set_cons_succ, i64_w, i32_w]
            rfl
          refine take_ (i := 21) (N := some 81) (v := ?_) (a' := ?_) #[true, true, true, true, true, true, true, true, true, true, true, true, true, true, true, true, true, true, true, true, true, true, true, false, false, false, false, false, false] rfl rfl (by kernel_rfl) (fun _ _ _ h => h) (Or.inl ⟨by rfl, ?_⟩) hHeld ?_ ?_
          rotate_left
          · rintro w' ⟨s0, s1, s2, s3, s4⟩
            go_simp
            first | with_reducible rfl | (simp only [if_pos c1]; with_reducible rfl)
          rotate_left
          · simp only [Act.put, List.setIfInBounds_toArray, List.set_cons_zero, List.set_cons_succ, i64_w, i32_w]
            rfl
          refine pure_ (i := 23) (N := some 83) (v := ?_) (a' := ?_) #[true, true, true, true, true, true, true, true, true, true, true, true, true, true, true, true, true, true, true, true, true, true, true, true, false, false, false, false, false] rfl rfl (by kernel_rfl) (fun _ _ _ h => h) (Or.inl ⟨by rfl, ?_⟩) ?_ ?_
          rotate_left
          · intro w'
            go_simp
            first | with_reducible rfl | (simp only [if_pos c1]; with_reducible rfl)
          rotate_left
          · simp only [Act.put, List.setIfInBounds_toArray, List.set_cons_zero, List.set_cons_succ, i64_w, i32_w]
            rfl
          refine take_ (i := 24) (N := some 84) (v := ?_) (a' := ?_) #[true, true, true, true, true, true, true, true, true, true, true, true, true, true, true, true, true, true, true, true, true, true, true, true, true, false, false, false, false] rfl rfl (by kernel_rfl) (fun _ _ _ h => h) (Or.inl ⟨by rfl, ?_⟩) hHeld ?_ ?_
          rotate_left
          · rintro w' ⟨s0, s1, s2, s3, s4⟩
            go_simp
            first | with_reducible rfl | (simp only [if_pos c1]; with_reducible rfl)
          rotate_left
          · simp only [Act.put, List.setIfInBounds_toArray, List.set_cons_zero, List.set_cons_succ, i64_w, i32_w]
            rfl
          refine one_ (i := 25) (N := some 85) #[true, true, true, true, true, true, true, true, true, true, true, true, true, true, true, true, true, true, true, true, true, true, true, true, true, true, false, false, false] rfl rfl (by kernel_rfl) (by decide) (fun K hK => ?_)
          refine goes_ Try.func20 (by kernel_rfl) rfl #[.slice SD.A10 D.vs.length SD.c10, .int .i64 x] (by rfl) rfl rfl (by simp only [List.map_toArray, List.map_cons, List.map_nil]; rfl) ?_
          with_reducible refine (net_true _ (hdx HNE.out) ((O24_SD.out.below hHeld.2.2.2.2).fv.r10) O24_SD.out.fv.l10 (M2.out.vs (by decide))).mono ?_
          rintro e u4 ⟨rfl, hu4⟩
          refine ⟨_, rfl, ?_⟩
          have Ku4 := Aside0.mk hu4
          clear hu4
          refine hK.out _ _ ⟨pw_cell_below Ku4.out hHeld.1, pw_cell_below Ku4.out hHeld.2.1, pw_cell_below Ku4.out hHeld.2.2.1, pw_cell_below Ku4.out hHeld.2.2.2.1, below_step hHeld.2.2.2.2 Ku4.out⟩ (fun hHeld => ?_)
          clear hK K
          refine norm_ (a' := ?_) ?_ ?_
          rotate_left
          · show Act.put _ (some 85) _ = _
            simp only [Act.put, List.setIfInBounds_toArray, List.set_cons_zero, List.set_cons_succ, i64_w, i32_w]
            rfl
          refine pure_ (i := 26) (N := some 86) (v := ?_) (a' := ?_) #[true, true, true, true, true, true, true, true, true, true, true, true, true, true, true, true, true, true, true, true, true, true, true, true, true, true, true, false, false] rfl rfl (by kernel_rfl) (fun _ _ _ h => h) (Or.inl ⟨by rfl, ?_⟩) ?_ ?_
          rotate_left
          · intro w'
            go_simp
            first | with_reducible rfl | (simp only [if_pos c1]; with_reducible rfl)
          rotate_left
          · simp only [Act.put, List.setIfInBounds_toArray, List.set_cons_zero, List.set_cons_succ, i64_w, i32_w]
            rfl
          refine pure_ (i := 27) (N := some 87) (v := ?_) (a' := ?_) #[true, true, true, true, true, true, true, true, true, true, true, true, true, true, true, true, true, true, true, true, true, true, true, true, true, true, true, true, false] rfl rfl (by kernel_rfl) (fun _ _ _ h => h) (Or.inl ⟨by rfl, ?_⟩) ?_ ?_
          rotate_left
          · intro w'
            go_simp
            first | with_reducible rfl | (simp only [if_pos c1]; with_reducible rfl)
          rotate_left
          · simp only [Act.put, List.setIfInBounds_toArray, List.set_cons_zero, List.set_cons_succ, i64_w, i32_w]
            rfl
          refine pure_ (i := 28) (N := some 88) (v := ?_) (a' := ?_) #[true, true, true, true, true, true, true, true, true, true, true, true, true, true, true, true, true, true, true, true, true, true, true, true, true, true, true, true, true] rfl rfl (by kernel_rfl) (fun _ _ _ h => h) (Or.inl ⟨by rfl, ?_⟩) ?_ ?_
          rotate_left
          · intro w'
            go_simp
            first | with_reducible rfl | (simp only [if_pos c1]; with_reducible rfl)
          rotate_left
          · simp only [Act.put, List.setIfInBounds_toArray, List.set_cons_zero, List.set_cons_succ, i64_w, i32_w]
            rfl
          refine done_ (by kernel_rfl) ?_
          have BB := Aside0.mk (below_step hb.out hHeld.2.2.2.2)
          obtain ⟨kk, rfl⟩ : ∃ m, gk = m + 1 := ⟨gk - 1, by omega⟩
          go_wp2_with fail
          try rw [wi]
          go_roundg kk
          case measure => omega
          case rel => exact ⟨i + 1, rfl, ⟨by omega⟩, BB⟩
      · have c1 : decide ((i : Int) < (G.vs.length : Int)) = false := decide_eq_false (by omega)
        have gc10 : wr.cell? ⟨g, 10, none⟩ = some (.slice S.A10 G.vs.length S.c10) := (blk_cell K24_g.out 10).trans rfl
        have hl : (D.vs.length : Int) = (X.vs.length : Int) - 1 := by rw [← hD, ← hX]; exact del_ins_len M0.out.1
        have bxx := (M1.out.vs (by decide))
        have dl : ((D.vs.length : Int) == (X.vs.length : Int) - 1) = true := beq_iff_eq.2 hl
        have dw : IntKind.i64.wrap ((X.vs.length : Int) - 1) = (X.vs.length : Int) - 1 := by rw [IntKind.wrap_i64]; omega
        have pc0 : wr.cell? ⟨b1x, 0, none⟩ = some (.string X.m) := (blk_cell K24_b1x.out 0).trans rfl
        have pc1 : wr.cell? ⟨b1x, 1, none⟩ = some (.bool true) := (blk_cell K24_b1x.out 1).trans rfl
        have pc2 : wr.cell? ⟨b1x, 2, none⟩ = some (.bool X.b2) := (blk_cell K24_b1x.out 2).trans rfl
        have pc3 : wr.cell? ⟨b1x, 3, none⟩ = some (.bool X.b3) := (blk_cell K24_b1x.out 3).trans rfl
        have pc4 : wr.cell? ⟨b1x, 4, none⟩ = some (.bool X.b4) := (blk_cell K24_b1x.out 4).trans rfl
        have pc5 : wr.cell? ⟨b1x, 5, none⟩ = some (.bool X.b5) := (blk_cell K24_b1x.out 5).trans rfl
        have pc6 : wr.cell? ⟨b1x, 6, none⟩ = some (.bool X.b6) := (blk_cell K24_b1x.out 6).trans rfl
        have pc7 : wr.cell? ⟨b1x, 7, none⟩ = some (.slice SX.A7 X.us.length SX.c7) := (blk_cell K24_b1x.out 7).trans rfl
        have pc8 : wr.cell? ⟨b1x, 8, none⟩ = some (.slice SX.A8 X.ms.length SX.c8) := (blk_cell K24_b1x.out 8).trans rfl
        have pc9 : wr.cell? ⟨b1x, 9, none⟩ = some (.bool true) := (blk_cell K24_b1x.out 9).trans rfl
        have pc10 : wr.cell? ⟨b1x, 10, none⟩ = some (.slice SX.A10 X.vs.length SX.c10) := (blk_cell K24_b1x.out 10).trans rfl
        go_wp2_with fail
        clear pc0 pc1 pc2 pc3 pc4 pc5 pc6 pc7 pc8 pc9 pc10
        refine (adm_onf (sent n c) wr (sent_in hX N0 N1 lc) O24_SX.out.fv (M1.out.small (by decide))).mono ?_
        rintro e w_25 ⟨rfl, hb_⟩
        have B26 := Aside0.mk (below_step B24.out hb_)
        have K26_g := Aside0.mk (blk_below K24_g.out hb_)
        have K26_b1x := Aside0.mk (blk_below K24_b1x.out hb_)
        have K26_b2x := Aside0.mk (blk_below K24_b2x.out hb_)
        have O26_SX := Aside0.mk (O24_SX.out.below hb_)
        have O26_SD := Aside0.mk (O24_SD.out.below hb_)
        clear hb_ B24 K24_g K24_b1x K24_b2x O24_SX O24_SD
        have pc0 : w_25.cell? ⟨b2x, 0, none⟩ = some (.string D.m) := (blk_cell K26_b2x.out 0).trans rfl
        have pc1 : w_25.cell? ⟨b2x, 1, none⟩ = some (.bool true) := (blk_cell K26_b2x.out 1).trans rfl
        have pc2 : w_25.cell? ⟨b2x, 2, none⟩ = some (.bool D.b2) := (blk_cell K26_b2x.out 2).trans rfl
        have pc3 : w_25.cell? ⟨b2x, 3, none⟩ = some (.bool D.b3) := (blk_cell K26_b2x.out 3).trans rfl
        have pc4 : w_25.cell? ⟨b2x, 4, none⟩ = some (.bool D.b4) := (blk_cell K26_b2x.out 4).trans rfl
        have pc5 : w_25.cell? ⟨b2x, 5, none⟩ = some (.bool D.b5) := (blk_cell K26_b2x.out 5).trans rfl
        have pc6 : w_25.cell? ⟨b2x, 6, none⟩ = some (.bool D.b6) := (blk_cell K26_b2x.out 6).trans rfl
        have pc7 : w_25.cell? ⟨b2x, 7, none⟩ = some (.slice SD.A7 D.us.length SD.c7) := (blk_cell K26_b2x.out 7).trans rfl
        have pc8 : w_25.cell? ⟨b2x, 8, none⟩ = some (.slice SD.A8 D.ms.length SD.c8) := (blk_cell K26_b2x.out 8).trans rfl
        have pc9 : w_25.cell? ⟨b2x, 9, none⟩ = some (.bool true) := (blk_cell K26_b2x.out 9).trans rfl
        have pc10 : w_25.cell? ⟨b2x, 10, none⟩ = some (.slice SD.A10 D.vs.length SD.c10) := (blk_cell K26_b2x.out 10).trans rfl
        go_wp2_with fail
        clear pc0 pc1 pc2 pc3 pc4 pc5 pc6 pc7 pc8 pc9 pc10
        refine (adm_onf (sent n c) w_25 (sent_out hD N0 N1 lc) O26_SD.out.fv (M2.out.small (by decide))).mono ?_
        rintro e w_27 ⟨rfl, hb_⟩
        have B28 := Aside0.mk (below_step B26.out hb_)
        have K28_g := Aside0.mk (blk_below K26_g.out hb_)
        have K28_b1x := Aside0.mk (blk_below K26_b1x.out hb_)
        have K28_b2x := Aside0.mk (blk_below K26_b2x.out hb_)
        have O28_SX := Aside0.mk (O26_SX.out.below hb_)
        have O28_SD := Aside0.mk (O26_SD.out.below hb_)
        clear hb_ B26 K26_g K26_b1x K26_b2x O26_SX O26_SD
        have pc10 : w_27.cell? ⟨b1x, 10, none⟩ = some (.slice SX.A10 X.vs.length SX.c10) := (blk_cell K28_b1x.out 10).trans rfl
        have qc10 : w_27.cell? ⟨b2x, 10, none⟩ = some (.slice SD.A10 D.vs.length SD.c10) := (blk_cell K28_b2x.out 10).trans rfl
        go_wp2_with fail
        clear pc10
        clear qc10
        go_wp2_with fail
        refine (fixed_f w_27).mono ?_
        rintro e w_29 ⟨rfl, hb_⟩
        have B30 := Aside0.mk (below_step B28.out hb_)
        have K30_g := Aside0.mk (blk_below K28_g.out hb_)
        have K30_b1x := Aside0.mk (blk_below K28_b1x.out hb_)
        have K30_b2x := Aside0.mk (blk_below K28_b2x.out hb_)
        have O30_SX := Aside0.mk (O28_SX.out.below hb_)
        have O30_SD := Aside0.mk (O28_SD.out.below hb_)
        clear hb_ B28 K28_g K28_b1x K28_b2x O28_SX O28_SD
        go_wp2
        go_ret
        exact ⟨rfl, B30.out⟩
  · refine (add_bad G S n w_5 (HG.out.below B6.out) (by simpa using hN)).mono ?_
    rintro e w_7 ⟨rfl, hb_⟩
    have B8 := Aside0.mk (below_step B6.out hb_)
    have K8_g := Aside0.mk (blk_below K6_g.out hb_)
    clear hb_ B6 K6_g
    go_upto_region 4 with (fail)
    obtain ⟨w_9, hw_⟩ : ∃ w_, w_7.alloc (.cells #[.string ⟨#[]⟩, .bool false, .bool false, .bool false, .bool false, .bool false, .bool false, .slice none 0 0, .slice none 0 0, .bool false, .slice none 0 0] 25) = w_ := ⟨_, rfl⟩
    have ha_ : Below w_7.heap.size w_7 w_9 := by rw [← hw_]; exact below_alloc (Below.refl _ _) _
    have BX9 : Aside0 (w_9.heap[w_7.heap.size]? = some (.cells #[.string ⟨#[]⟩, .bool false, .bool false, .bool false, .bool false, .bool false, .bool false, .slice none 0 0, .slice none 0 0, .bool false, .slice none 0 0] 25 (0, 0))) := ⟨by rw [← hw_]; exact blk_new w_7 _⟩
    have hgB : w.heap.size ≤ w_7.heap.size := (B8.out).size
    have hl_g : g < w_7.heap.size := blk_lt K8_g.out
    rw [hw_]
    clear hw_
    obtain ⟨x, hg_⟩ : ∃ g_, w_7.heap.size = g_ := ⟨_, rfl⟩
    have G_x : Aside0 (w.heap.size ≤ x) := ⟨Nat.le_trans hgB (Nat.le_of_eq hg_)⟩
    rw [hg_] at BX9 hl_g
    rw [hg_]
    clear hg_ hgB
    have E_g_x := Aside0.mk hl_g
    clear hl_g
    have B10 := Aside0.mk (below_step B8.out ha_)
    have K10_g := Aside0.mk (blk_below K8_g.out ha_)
    clear ha_ B8 K8_g
    have pc0 : w_9.cell? ⟨x, 0, none⟩ = some (.string ⟨#[]⟩) := (blk_cell BX9.out 0).trans rfl
    have pc1 : w_9.cell? ⟨x, 1, none⟩ = some (.bool false) := (blk_cell BX9.out 1).trans rfl
    have pc2 : w_9.cell? ⟨x, 2, none⟩ = some (.bool false) := (blk_cell BX9.out 2).trans rfl
    have pc3 : w_9.cell? ⟨x, 3, none⟩ = some (.bool false) := (blk_cell BX9.out 3).trans rfl
    have pc4 : w_9.cell? ⟨x, 4, none⟩ = some (.bool false) := (blk_cell BX9.out 4).trans rfl
    have pc5 : w_9.cell? ⟨x, 5, none⟩ = some (.bool false) := (blk_cell BX9.out 5).trans rfl
    have pc6 : w_9.cell? ⟨x, 6, none⟩ = some (.bool false) := (blk_cell BX9.out 6).trans rfl
    have pc7 : w_9.cell? ⟨x, 7, none⟩ = some (.slice none 0 0) := (blk_cell BX9.out 7).trans rfl
    have pc8 : w_9.cell? ⟨x, 8, none⟩ = some (.slice none 0 0) := (blk_cell BX9.out 8).trans rfl
    have pc9 : w_9.cell? ⟨x, 9, none⟩ = some (.bool false) := (blk_cell BX9.out 9).trans rfl
    have pc10 : w_9.cell? ⟨x, 10, none⟩ = some (.slice none 0 0) := (blk_cell BX9.out 10).trans rfl
    go_wp2_with fail
    clear pc0 pc1 pc2 pc3 pc4 pc5 pc6 pc7 pc8 pc9 pc10
    refine (del_zero n w_9 N0 N1).mono ?_
    rintro e w_11 ⟨XB, SB, rfl, hb_⟩
    have B12 := Aside0.mk (below_step B10.out hb_)
    have K12_g := Aside0.mk (blk_below K10_g.out hb_)
    have K12_x := Aside0.mk (blk_below BX9.out hb_)
    clear hb_ B10 K10_g BX9
    go_upto_region 5 with (fail)
    obtain ⟨w_13, hw_⟩ : ∃ w_, w_11.alloc (.cells #[.string XB.m, .bool XB.b1, .bool XB.b2, .bool XB.b3, .bool XB.b4, .bool XB.b5, .bool XB.b6, .slice SB.A7 XB.us.length SB.c7, .slice SB.A8 XB.ms.length SB.c8, .bool XB.b9, .slice SB.A10 XB.vs.length SB.c10] 25) = w_ := ⟨_, rfl⟩
    have ha_ : Below w_11.heap.size w_11 w_13 := by rw [← hw_]; exact below_alloc (Below.refl _ _) _
    have BX13 : Aside0 (w_13.heap[w_11.heap.size]? = some (.cells #[.string XB.m, .bool XB.b1, .bool XB.b2, .bool XB.b3, .bool XB.b4, .bool XB.b5, .bool XB.b6, .slice SB.A7 XB.us.length SB.c7, .slice SB.A8 XB.ms.length SB.c8, .bool XB.b9, .slice SB.A10 XB.vs.length SB.c10] 25 (0, 0))) := ⟨by rw [← hw_]; exact blk_new w_11 _⟩
    have hgB : w.heap.size ≤ w_11.heap.size := (B12.out).size
    have hl_g : g < w_11.heap.size := blk_lt K12_g.out
    have hl_x : x < w_11.heap.size := blk_lt K12_x.out
    rw [hw_]
    clear hw_
    obtain ⟨y, hg_⟩ : ∃ g_, w_11.heap.size = g_ := ⟨_, rfl⟩
    have G_y : Aside0 (w.heap.size ≤ y) := ⟨Nat.le_trans hgB (Nat.le_of_eq hg_)⟩
    rw [hg_] at BX13 hl_g hl_x
    rw [hg_]
    clear hg_ hgB
    have E_g_y := Aside0.mk hl_g
    clear hl_g
    have E_x_y := Aside0.mk hl_x
    clear hl_x
    have B14 := Aside0.mk (below_step B12.out ha_)
    have K14_g := Aside0.mk (blk_below K12_g.out ha_)
    have K14_x := Aside0.mk (blk_below K12_x.out ha_)
    clear ha_ B12 K12_g K12_x
    go_wp2_with fail
    refine (fixed_f w_13).mono ?_
    rintro e w_15 ⟨rfl, hb_⟩
    have B16 := Aside0.mk (below_step B14.out hb_)
    have K16_g := Aside0.mk (blk_below K14_g.out hb_)
    have K16_x := Aside0.mk (blk_below K14_x.out hb_)
    have K16_y := Aside0.mk (blk_below BX13.out hb_)
    clear hb_ B14 K14_g K14_x BX13
    go_wp2
    go_ret
    exact ⟨rfl, B16.out⟩
end Go.Proofs.Ytnckogdplcijiaa.Hand
