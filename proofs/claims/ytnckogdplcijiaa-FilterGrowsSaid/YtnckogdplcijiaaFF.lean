/- Filters: contracts by hand, and the laws over them. -/
import Derived.Test.YtnckogdplcijiaaOwn
import Derived.Test.YtnckogdplcijiaaFV
import Derived.Test.YtnckogdplcijiaaPx6
namespace Go.Proofs.Ytnckogdplcijiaa.Fl
open Go Go.RowKit Go.Proofs.YtnckogdplcijiaaW.PrintWords Go.Proofs.YtnckogdplcijiaaW.PrintLast Go.Proofs.YtnckogdplcijiaaW.PrintMore Go.Proofs.Ytnckogdplcijiaa.Mth Go.Proofs.Ytnckogdplcijiaa.P Go.Proofs.Ytnckogdplcijiaa.Own Go.Proofs
set_option linter.unusedVariables false
set_option linter.unusedSimpArgs false
theorem framed_at {a b r : ByteArray} (w : World) (h : aqueductlaw16_framed.f a b = some r) : Calls Try.prog 15 #[.string a, .string b] w fun e w' => e = .returned (.string r) ∧ Below w.heap.size w w' :=
  (aqueductlaw16_framed.calls a b r w h).mono fun _ _ h => ⟨h.1, by obtain ⟨q, hq⟩ := h.2.out; rw [hq]; exact pw_below_drewN (Below.refl _ _) q⟩
theorem adm_at {b : Bool} (F : Flt) (S : Sl) (s : ByteArray) (w : World) (hb : adm F s = b) (h : FV w F S) (hs : Small F) : Calls Try.prog 13 #[.agg (cellsF F S), .string s] w fun e w' => e = .returned (.bool b) ∧ Below w.heap.size w w' :=
  (adm_f F S s w h hs).mono fun _ _ h => ⟨by rw [h.1, hb], h.2⟩
theorem check_at {b : Int} (F : Flt) (S : Sl) (w : World) (hb : checkS F.m F.us F.ms F.vs = b) (h : FV w F S) : Calls Try.prog 11 #[.agg (cellsF F S)] w fun e w' => e = .returned (.int .i64 b) ∧ Below w.heap.size w w' :=
  (check_f F S w h).mono fun _ _ h => ⟨by rw [h.1, hb], h.2⟩
/-! ### fixed -/
def fxF : Flt := ⟨⟨#[2, 97, 113, 0, 0, 5]⟩, false, false, false, false, false, false, [], [], false, []⟩
def fxOn : Flt := ⟨⟨#[2, 97, 113, 0, 0, 5]⟩, false, false, false, false, false, false, [], [], true, []⟩
def fxG : Flt := ⟨⟨#[2, 97, 113, 0, 0, 5]⟩, false, false, false, false, false, false, [], [], false, [7]⟩
def fxGO : Flt := ⟨⟨#[2, 97, 113, 0, 0, 5]⟩, false, false, false, false, false, false, [], [], true, [7]⟩
def fxZ : Flt := ⟨⟨#[]⟩, false, false, false, false, false, false, [], [], false, []⟩
def nilS : Sl := ⟨none, 0, none, 0, none, 0⟩
theorem FV.nils (w : World) (F : Flt) (h7 : F.us = []) (h8 : F.ms = []) (h10 : F.vs = []) : FV w F nilS := by
  refine ⟨?_, ?_, ?_, ?_, ?_, ?_⟩
  · rw [h7]; exact ReadsOf.nil _ _ w
  · rw [h8]; exact ReadsOf.nil _ _ w
  · rw [h10]; exact ReadsOf.nil _ _ w
  · rw [h7]; exact Nat.le_refl _
  · rw [h8]; exact Nat.le_refl _
  · rw [h10]; exact Nat.le_refl _
theorem fx_add (w : World) : Calls Try.prog 16 #[.agg #[.string ⟨#[2, 97, 113, 0, 0, 5]⟩, .bool false, .bool false, .bool false, .bool false, .bool false, .bool false, .slice none 0 0, .slice none 0 0, .bool false, .slice none 0 0], .int .i64 7] w fun e w' => ∃ X7 y7 X8 y8 X y, e = .returned (.tuple #[.agg #[.string ⟨#[2, 97, 113, 0, 0, 5]⟩, .bool false, .bool false, .bool false, .bool false, .bool false, .bool false, .slice X7 0 y7, .slice X8 0 y8, .bool false, .slice X 1 y], .int .i64 0]) ∧ OV w.heap.size w' fxG ⟨X7, y7, X8, y8, X, y⟩ ∧ Below w.heap.size w w' := by
  refine (add_f fxF nilS 7 w (FV.nils w fxF rfl rfl rfl) ⟨by decide, by decide, by decide⟩ (by decide)).mono ?_
  rintro e w' ⟨⟨X7, y7, X8, y8, X, y⟩, rfl, ho, hb⟩
  exact ⟨X7, y7, X8, y8, X, y, rfl, ho, hb⟩
theorem fx_no (w : World) : Calls Try.prog 16 #[.agg #[.string ⟨#[2, 97, 113, 0, 0, 5]⟩, .bool false, .bool false, .bool false, .bool false, .bool false, .bool false, .slice none 0 0, .slice none 0 0, .bool false, .slice none 0 0], .int .i64 4095] w fun e w' => e = .returned (.tuple #[.agg zeroF, .int .i64 1]) ∧ Below w.heap.size w w' :=
  add_no fxF nilS 4095 w (FV.nils w fxF rfl rfl rfl) (by decide)
theorem fx_a1 (w : World) : Calls Try.prog 13 #[.agg #[.string ⟨#[2, 97, 113, 0, 0, 5]⟩, .bool false, .bool false, .bool false, .bool false, .bool false, .bool false, .slice none 0 0, .slice none 0 0, .bool false, .slice none 0 0], .string ⟨#[2, 97, 113, 0, 0, 5, 2, 97, 113, 0, 0, 6, 8, 0]⟩] w fun e w' => e = .returned (.bool true) ∧ Below w.heap.size w w' :=
  adm_at fxF nilS ⟨#[2, 97, 113, 0, 0, 5, 2, 97, 113, 0, 0, 6, 8, 0]⟩ w (by decide +kernel) (FV.nils w fxF rfl rfl rfl) ⟨by decide, by decide, by decide⟩
theorem fx_a2 (w : World) : Calls Try.prog 13 #[.agg #[.string ⟨#[2, 97, 113, 0, 0, 5]⟩, .bool false, .bool false, .bool false, .bool false, .bool false, .bool false, .slice none 0 0, .slice none 0 0, .bool false, .slice none 0 0], .string ⟨#[2, 97, 113, 0, 0, 6, 2, 97, 113, 0, 0, 5, 8, 0]⟩] w fun e w' => e = .returned (.bool false) ∧ Below w.heap.size w w' :=
  adm_at fxF nilS ⟨#[2, 97, 113, 0, 0, 6, 2, 97, 113, 0, 0, 5, 8, 0]⟩ w (by decide +kernel) (FV.nils w fxF rfl rfl rfl) ⟨by decide, by decide, by decide⟩
theorem fx_a3 (w : World) : Calls Try.prog 13 #[.agg #[.string ⟨#[2, 97, 113, 0, 0, 5]⟩, .bool false, .bool false, .bool false, .bool false, .bool false, .bool false, .slice none 0 0, .slice none 0 0, .bool false, .slice none 0 0], .string ⟨#[255, 255, 255, 255, 255, 255, 2, 97, 113, 0, 0, 6, 8, 0]⟩] w fun e w' => e = .returned (.bool true) ∧ Below w.heap.size w w' :=
  adm_at fxF nilS ⟨#[255, 255, 255, 255, 255, 255, 2, 97, 113, 0, 0, 6, 8, 0]⟩ w (by decide +kernel) (FV.nils w fxF rfl rfl rfl) ⟨by decide, by decide, by decide⟩
theorem fx_a4 (w : World) : Calls Try.prog 13 #[.agg #[.string ⟨#[2, 97, 113, 0, 0, 5]⟩, .bool false, .bool false, .bool false, .bool false, .bool false, .bool false, .slice none 0 0, .slice none 0 0, .bool false, .slice none 0 0], .string ⟨#[2, 97, 113, 0, 0, 5, 2, 97, 113, 0, 0, 6, 129, 0, 0, 7, 8, 0]⟩] w fun e w' => e = .returned (.bool true) ∧ Below w.heap.size w w' :=
  adm_at fxF nilS ⟨#[2, 97, 113, 0, 0, 5, 2, 97, 113, 0, 0, 6, 129, 0, 0, 7, 8, 0]⟩ w (by decide +kernel) (FV.nils w fxF rfl rfl rfl) ⟨by decide, by decide, by decide⟩
theorem fx_a5 (w : World) : Calls Try.prog 13 #[.agg #[.string ⟨#[2, 97, 113, 0, 0, 5]⟩, .bool false, .bool false, .bool false, .bool false, .bool false, .bool false, .slice none 0 0, .slice none 0 0, .bool true, .slice none 0 0], .string ⟨#[2, 97, 113, 0, 0, 5, 2, 97, 113, 0, 0, 6, 129, 0, 0, 7, 8, 0]⟩] w fun e w' => e = .returned (.bool false) ∧ Below w.heap.size w w' :=
  adm_at fxOn nilS ⟨#[2, 97, 113, 0, 0, 5, 2, 97, 113, 0, 0, 6, 129, 0, 0, 7, 8, 0]⟩ w (by decide +kernel) (FV.nils w fxOn rfl rfl rfl) ⟨by decide, by decide, by decide⟩
theorem fx_a7 (w : World) : Calls Try.prog 13 #[.agg #[.string ⟨#[2, 97, 113, 0, 0, 5]⟩, .bool false, .bool false, .bool false, .bool false, .bool false, .bool false, .slice none 0 0, .slice none 0 0, .bool false, .slice none 0 0], .string ⟨#[115, 104, 111, 114, 116]⟩] w fun e w' => e = .returned (.bool false) ∧ Below w.heap.size w w' :=
  adm_at fxF nilS ⟨#[115, 104, 111, 114, 116]⟩ w (by decide +kernel) (FV.nils w fxF rfl rfl rfl) ⟨by decide, by decide, by decide⟩
theorem fx_a6 (X7 X8 X : Option Addr) (y7 y8 y : Nat) (w : World) (h : FV w fxGO ⟨X7, y7, X8, y8, X, y⟩) : Calls Try.prog 13 #[.agg #[.string ⟨#[2, 97, 113, 0, 0, 5]⟩, .bool false, .bool false, .bool false, .bool false, .bool false, .bool false, .slice X7 0 y7, .slice X8 0 y8, .bool true, .slice X 1 y], .string ⟨#[2, 97, 113, 0, 0, 5, 2, 97, 113, 0, 0, 6, 129, 0, 0, 7, 8, 0]⟩] w fun e w' => e = .returned (.bool true) ∧ Below w.heap.size w w' :=
  adm_at fxGO ⟨X7, y7, X8, y8, X, y⟩ ⟨#[2, 97, 113, 0, 0, 5, 2, 97, 113, 0, 0, 6, 129, 0, 0, 7, 8, 0]⟩ w (by decide +kernel) h ⟨by decide, by decide, by decide⟩
theorem fx_on {w : World} {S : Sl} (h : FV w fxG S) : FV w fxGO S := ⟨h.r7, h.r8, h.r10, h.l7, h.l8, h.l10⟩
theorem fx_c1 (w : World) : Calls Try.prog 11 #[.agg #[.string ⟨#[2, 97, 113, 0, 0, 5]⟩, .bool false, .bool false, .bool false, .bool false, .bool false, .bool false, .slice none 0 0, .slice none 0 0, .bool false, .slice none 0 0]] w fun e w' => e = .returned (.int .i64 0) ∧ Below w.heap.size w w' :=
  check_at fxF nilS w (by decide +kernel) (FV.nils w fxF rfl rfl rfl)
theorem fx_c2 (w : World) : Calls Try.prog 11 #[.agg #[.string ⟨#[]⟩, .bool false, .bool false, .bool false, .bool false, .bool false, .bool false, .slice none 0 0, .slice none 0 0, .bool false, .slice none 0 0]] w fun e w' => e = .returned (.int .i64 160) ∧ Below w.heap.size w w' :=
  check_at fxZ nilS w (by decide +kernel) (FV.nils w fxZ rfl rfl rfl)
set_option maxHeartbeats 16000000 in
set_option maxRecDepth 100000 in
theorem fixed_f (w : World) : Calls Try.prog 10 #[] w fun e w' => e = .returned (.bool true) ∧ Below w.heap.size w w' := by
  have hu := Try.underlying25
  go_enter Try.func10, Try.ntmps10
  go_wp2_with fail
  obtain ⟨w_1, hw_⟩ : ∃ w_, w.alloc (.cells #[.string ⟨#[2, 97, 113, 0, 0, 5]⟩, .bool false, .bool false, .bool false, .bool false, .bool false, .bool false, .slice none 0 0, .slice none 0 0, .bool false, .slice none 0 0] 25) = w_ := ⟨_, rfl⟩
  have ha_ : Below w.heap.size w w_1 := by rw [← hw_]; exact below_alloc (Below.refl _ _) _
  have BX1 : Aside0 (w_1.heap[w.heap.size]? = some (.cells #[.string ⟨#[2, 97, 113, 0, 0, 5]⟩, .bool false, .bool false, .bool false, .bool false, .bool false, .bool false, .slice none 0 0, .slice none 0 0, .bool false, .slice none 0 0] 25 (0, 0))) := ⟨by rw [← hw_]; exact blk_new w _⟩
  have hgB : w.heap.size ≤ w.heap.size := ((Below.refl w.heap.size w)).size
  rw [hw_]
  clear hw_
  obtain ⟨g1, hg_⟩ : ∃ g_, w.heap.size = g_ := ⟨_, rfl⟩
  rw [hg_] at BX1 hgB
  rw [hg_]
  clear hg_
  have G_g1 := Aside0.mk hgB
  clear hgB
  have B2 := Aside0.mk (below_step (Below.refl w.heap.size w) ha_)
  clear ha_ 
  refine (framed_at (r := ⟨#[2, 97, 113, 0, 0, 5, 2, 97, 113, 0, 0, 6, 8, 0]⟩) w_1 (by decide +kernel)).mono ?_
  rintro e w_3 ⟨rfl, hb_⟩
  have B4 := Aside0.mk (below_step B2.out hb_)
  have K4_g1 := Aside0.mk (blk_below BX1.out hb_)
  clear hb_ B2 BX1
  have pc0 : w_3.cell? ⟨g1, 0, none⟩ = some (.string ⟨#[2, 97, 113, 0, 0, 5]⟩) := (blk_cell K4_g1.out 0).trans rfl
  have pc1 : w_3.cell? ⟨g1, 1, none⟩ = some (.bool false) := (blk_cell K4_g1.out 1).trans rfl
  have pc2 : w_3.cell? ⟨g1, 2, none⟩ = some (.bool false) := (blk_cell K4_g1.out 2).trans rfl
  have pc3 : w_3.cell? ⟨g1, 3, none⟩ = some (.bool false) := (blk_cell K4_g1.out 3).trans rfl
  have pc4 : w_3.cell? ⟨g1, 4, none⟩ = some (.bool false) := (blk_cell K4_g1.out 4).trans rfl
  have pc5 : w_3.cell? ⟨g1, 5, none⟩ = some (.bool false) := (blk_cell K4_g1.out 5).trans rfl
  have pc6 : w_3.cell? ⟨g1, 6, none⟩ = some (.bool false) := (blk_cell K4_g1.out 6).trans rfl
  have pc7 : w_3.cell? ⟨g1, 7, none⟩ = some (.slice none 0 0) := (blk_cell K4_g1.out 7).trans rfl
  have pc8 : w_3.cell? ⟨g1, 8, none⟩ = some (.slice none 0 0) := (blk_cell K4_g1.out 8).trans rfl
  have pc9 : w_3.cell? ⟨g1, 9, none⟩ = some (.bool false) := (blk_cell K4_g1.out 9).trans rfl
  have pc10 : w_3.cell? ⟨g1, 10, none⟩ = some (.slice none 0 0) := (blk_cell K4_g1.out 10).trans rfl
  go_wp2_with fail
  clear pc0 pc1 pc2 pc3 pc4 pc5 pc6 pc7 pc8 pc9 pc10
  refine (fx_add w_3).mono ?_
  rintro e w_5 ⟨X7, y7, X8, y8, X, y, rfl, ho_, hb_⟩
  have hs_ := (B4.out).size
  have B6 := Aside0.mk (below_step B4.out hb_)
  have K6_g1 := Aside0.mk (blk_below K4_g1.out hb_)
  clear hb_ B4 K4_g1
  have OV_g := Aside0.mk (ho_.weaken hs_)
  clear ho_ hs_
  go_upto_region 5 with (fail)
  obtain ⟨w_7, hw_⟩ : ∃ w_, w_5.alloc (.cells #[.string ⟨#[2, 97, 113, 0, 0, 5]⟩, .bool false, .bool false, .bool false, .bool false, .bool false, .bool false, .slice X7 0 y7, .slice X8 0 y8, .bool false, .slice X 1 y] 25) = w_ := ⟨_, rfl⟩
  have ha_ : Below w_5.heap.size w_5 w_7 := by rw [← hw_]; exact below_alloc (Below.refl _ _) _
  have BX7 : Aside0 (w_7.heap[w_5.heap.size]? = some (.cells #[.string ⟨#[2, 97, 113, 0, 0, 5]⟩, .bool false, .bool false, .bool false, .bool false, .bool false, .bool false, .slice X7 0 y7, .slice X8 0 y8, .bool false, .slice X 1 y] 25 (0, 0))) := ⟨by rw [← hw_]; exact blk_new w_5 _⟩
  have hgB : w.heap.size ≤ w_5.heap.size := (B6.out).size
  have hl_g1 : g1 < w_5.heap.size := blk_lt K6_g1.out
  rw [hw_]
  clear hw_
  obtain ⟨g4, hg_⟩ : ∃ g_, w_5.heap.size = g_ := ⟨_, rfl⟩
  rw [hg_] at BX7 hgB hl_g1
  rw [hg_]
  clear hg_
  have G_g4 := Aside0.mk hgB
  clear hgB
  have E_g1_g4 := Aside0.mk hl_g1
  clear hl_g1
  have B8 := Aside0.mk (below_step B6.out ha_)
  have K8_g1 := Aside0.mk (blk_below K6_g1.out ha_)
  have O8_g := Aside0.mk (OV_g.out.below ha_)
  clear ha_ B6 K6_g1 OV_g
  have pc0 : w_7.cell? ⟨g1, 0, none⟩ = some (.string ⟨#[2, 97, 113, 0, 0, 5]⟩) := (blk_cell K8_g1.out 0).trans rfl
  have pc1 : w_7.cell? ⟨g1, 1, none⟩ = some (.bool false) := (blk_cell K8_g1.out 1).trans rfl
  have pc2 : w_7.cell? ⟨g1, 2, none⟩ = some (.bool false) := (blk_cell K8_g1.out 2).trans rfl
  have pc3 : w_7.cell? ⟨g1, 3, none⟩ = some (.bool false) := (blk_cell K8_g1.out 3).trans rfl
  have pc4 : w_7.cell? ⟨g1, 4, none⟩ = some (.bool false) := (blk_cell K8_g1.out 4).trans rfl
  have pc5 : w_7.cell? ⟨g1, 5, none⟩ = some (.bool false) := (blk_cell K8_g1.out 5).trans rfl
  have pc6 : w_7.cell? ⟨g1, 6, none⟩ = some (.bool false) := (blk_cell K8_g1.out 6).trans rfl
  have pc7 : w_7.cell? ⟨g1, 7, none⟩ = some (.slice none 0 0) := (blk_cell K8_g1.out 7).trans rfl
  have pc8 : w_7.cell? ⟨g1, 8, none⟩ = some (.slice none 0 0) := (blk_cell K8_g1.out 8).trans rfl
  have pc9 : w_7.cell? ⟨g1, 9, none⟩ = some (.bool false) := (blk_cell K8_g1.out 9).trans rfl
  have pc10 : w_7.cell? ⟨g1, 10, none⟩ = some (.slice none 0 0) := (blk_cell K8_g1.out 10).trans rfl
  go_wp2_with fail
  clear pc0 pc1 pc2 pc3 pc4 pc5 pc6 pc7 pc8 pc9 pc10
  refine (fx_no w_7).mono ?_
  rintro e w_9 ⟨rfl, hb_⟩
  have B10 := Aside0.mk (below_step B8.out hb_)
  have K10_g1 := Aside0.mk (blk_below K8_g1.out hb_)
  have K10_g4 := Aside0.mk (blk_below BX7.out hb_)
  have O10_g := Aside0.mk (O8_g.out.below hb_)
  clear hb_ B8 K8_g1 BX7 O8_g
  have pc0 : w_9.cell? ⟨g1, 0, none⟩ = some (.string ⟨#[2, 97, 113, 0, 0, 5]⟩) := (blk_cell K10_g1.out 0).trans rfl
  have pc1 : w_9.cell? ⟨g1, 1, none⟩ = some (.bool false) := (blk_cell K10_g1.out 1).trans rfl
  have pc2 : w_9.cell? ⟨g1, 2, none⟩ = some (.bool false) := (blk_cell K10_g1.out 2).trans rfl
  have pc3 : w_9.cell? ⟨g1, 3, none⟩ = some (.bool false) := (blk_cell K10_g1.out 3).trans rfl
  have pc4 : w_9.cell? ⟨g1, 4, none⟩ = some (.bool false) := (blk_cell K10_g1.out 4).trans rfl
  have pc5 : w_9.cell? ⟨g1, 5, none⟩ = some (.bool false) := (blk_cell K10_g1.out 5).trans rfl
  have pc6 : w_9.cell? ⟨g1, 6, none⟩ = some (.bool false) := (blk_cell K10_g1.out 6).trans rfl
  have pc7 : w_9.cell? ⟨g1, 7, none⟩ = some (.slice none 0 0) := (blk_cell K10_g1.out 7).trans rfl
  have pc8 : w_9.cell? ⟨g1, 8, none⟩ = some (.slice none 0 0) := (blk_cell K10_g1.out 8).trans rfl
  have pc9 : w_9.cell? ⟨g1, 9, none⟩ = some (.bool false) := (blk_cell K10_g1.out 9).trans rfl
  have pc10 : w_9.cell? ⟨g1, 10, none⟩ = some (.slice none 0 0) := (blk_cell K10_g1.out 10).trans rfl
  go_upto_region 6 with (fail)
  clear pc0 pc1 pc2 pc3 pc4 pc5 pc6 pc7 pc8 pc9 pc10
  obtain ⟨w_11, hw_⟩ : ∃ w_, w_9.alloc (.cells #[.string ⟨#[]⟩, .bool false, .bool false, .bool false, .bool false, .bool false, .bool false, .slice none 0 0, .slice none 0 0, .bool false, .slice none 0 0] 25) = w_ := ⟨_, rfl⟩
  have ha_ : Below w_9.heap.size w_9 w_11 := by rw [← hw_]; exact below_alloc (Below.refl _ _) _
  have BX11 : Aside0 (w_11.heap[w_9.heap.size]? = some (.cells #[.string ⟨#[]⟩, .bool false, .bool false, .bool false, .bool false, .bool false, .bool false, .slice none 0 0, .slice none 0 0, .bool false, .slice none 0 0] 25 (0, 0))) := ⟨by rw [← hw_]; exact blk_new w_9 _⟩
  have hgB : w.heap.size ≤ w_9.heap.size := (B10.out).size
  have hl_g1 : g1 < w_9.heap.size := blk_lt K10_g1.out
  have hl_g4 : g4 < w_9.heap.size := blk_lt K10_g4.out
  rw [hw_]
  clear hw_
  obtain ⟨g6, hg_⟩ : ∃ g_, w_9.heap.size = g_ := ⟨_, rfl⟩
  rw [hg_] at BX11 hgB hl_g1 hl_g4
  rw [hg_]
  clear hg_
  have G_g6 := Aside0.mk hgB
  clear hgB
  have E_g1_g6 := Aside0.mk hl_g1
  clear hl_g1
  have E_g4_g6 := Aside0.mk hl_g4
  clear hl_g4
  have B12 := Aside0.mk (below_step B10.out ha_)
  have K12_g1 := Aside0.mk (blk_below K10_g1.out ha_)
  have K12_g4 := Aside0.mk (blk_below K10_g4.out ha_)
  have O12_g := Aside0.mk (O10_g.out.below ha_)
  clear ha_ B10 K10_g1 K10_g4 O10_g
  have pc0 : w_11.cell? ⟨g1, 0, none⟩ = some (.string ⟨#[2, 97, 113, 0, 0, 5]⟩) := (blk_cell K12_g1.out 0).trans rfl
  have pc1 : w_11.cell? ⟨g1, 1, none⟩ = some (.bool false) := (blk_cell K12_g1.out 1).trans rfl
  have pc2 : w_11.cell? ⟨g1, 2, none⟩ = some (.bool false) := (blk_cell K12_g1.out 2).trans rfl
  have pc3 : w_11.cell? ⟨g1, 3, none⟩ = some (.bool false) := (blk_cell K12_g1.out 3).trans rfl
  have pc4 : w_11.cell? ⟨g1, 4, none⟩ = some (.bool false) := (blk_cell K12_g1.out 4).trans rfl
  have pc5 : w_11.cell? ⟨g1, 5, none⟩ = some (.bool false) := (blk_cell K12_g1.out 5).trans rfl
  have pc6 : w_11.cell? ⟨g1, 6, none⟩ = some (.bool false) := (blk_cell K12_g1.out 6).trans rfl
  have pc7 : w_11.cell? ⟨g1, 7, none⟩ = some (.slice none 0 0) := (blk_cell K12_g1.out 7).trans rfl
  have pc8 : w_11.cell? ⟨g1, 8, none⟩ = some (.slice none 0 0) := (blk_cell K12_g1.out 8).trans rfl
  have pc9 : w_11.cell? ⟨g1, 9, none⟩ = some (.bool false) := (blk_cell K12_g1.out 9).trans rfl
  have pc10 : w_11.cell? ⟨g1, 10, none⟩ = some (.slice none 0 0) := (blk_cell K12_g1.out 10).trans rfl
  go_upto_region 8 with (fail)
  clear pc0 pc1 pc2 pc3 pc4 pc5 pc6 pc7 pc8 pc9 pc10
  obtain ⟨w_13, hw_⟩ : ∃ w_, w_11.alloc (.cells #[.string ⟨#[2, 97, 113, 0, 0, 5]⟩, .bool false, .bool false, .bool false, .bool false, .bool false, .bool false, .slice none 0 0, .slice none 0 0, .bool false, .slice none 0 0] 25) = w_ := ⟨_, rfl⟩
  have ha_ : Below w_11.heap.size w_11 w_13 := by rw [← hw_]; exact below_alloc (Below.refl _ _) _
  have BX13 : Aside0 (w_13.heap[w_11.heap.size]? = some (.cells #[.string ⟨#[2, 97, 113, 0, 0, 5]⟩, .bool false, .bool false, .bool false, .bool false, .bool false, .bool false, .slice none 0 0, .slice none 0 0, .bool false, .slice none 0 0] 25 (0, 0))) := ⟨by rw [← hw_]; exact blk_new w_11 _⟩
  have hgB : w.heap.size ≤ w_11.heap.size := (B12.out).size
  have hl_g1 : g1 < w_11.heap.size := blk_lt K12_g1.out
  have hl_g4 : g4 < w_11.heap.size := blk_lt K12_g4.out
  have hl_g6 : g6 < w_11.heap.size := blk_lt BX11.out
  rw [hw_]
  clear hw_
  obtain ⟨g9, hg_⟩ : ∃ g_, w_11.heap.size = g_ := ⟨_, rfl⟩
  rw [hg_] at BX13 hgB hl_g1 hl_g4 hl_g6
  rw [hg_]
  clear hg_
  have G_g9 := Aside0.mk hgB
  clear hgB
  have E_g1_g9 := Aside0.mk hl_g1
  clear hl_g1
  have E_g4_g9 := Aside0.mk hl_g4
  clear hl_g4
  have E_g6_g9 := Aside0.mk hl_g6
  clear hl_g6
  have B14 := Aside0.mk (below_step B12.out ha_)
  have K14_g1 := Aside0.mk (blk_below K12_g1.out ha_)
  have K14_g4 := Aside0.mk (blk_below K12_g4.out ha_)
  have K14_g6 := Aside0.mk (blk_below BX11.out ha_)
  have O14_g := Aside0.mk (O12_g.out.below ha_)
  clear ha_ B12 K12_g1 K12_g4 BX11 O12_g
  have pc9 : w_13.cell? ⟨g9, 9, none⟩ = some (.bool false) := (blk_cell BX13.out 9).trans rfl
  have pf9 := blk_frozen BX13.out 9
  have qc9 : w_13.cell? ⟨g4, 9, none⟩ = some (.bool false) := (blk_cell K14_g4.out 9).trans rfl
  have qf9 := blk_frozen K14_g4.out 9
  go_upto_region 9 with (fail)
  clear pc9 pf9
  clear qc9 qf9
  obtain ⟨w_15, hw_⟩ : ∃ w_, w_13.setCell ⟨g9, 9, none⟩ (.bool true) = w_ := ⟨_, rfl⟩
  have hu_ : Upd w_13 w_15 (fun k => k = g9) := by rw [← hw_]; exact (Upd.refl w_13 (fun k => k = g9)).set (p := ⟨g9, 9, none⟩) (.inl rfl) _
  have K16_g9 : Aside0 (w_15.heap[g9]? = some (.cells #[.string ⟨#[2, 97, 113, 0, 0, 5]⟩, .bool false, .bool false, .bool false, .bool false, .bool false, .bool false, .slice none 0 0, .slice none 0 0, .bool true, .slice none 0 0] 25 (0, 0))) := ⟨by rw [← hw_]; exact blk_put (cs := #[.string ⟨#[2, 97, 113, 0, 0, 5]⟩, .bool false, .bool false, .bool false, .bool false, .bool false, .bool false, .slice none 0 0, .slice none 0 0, .bool false, .slice none 0 0]) BX13.out 9 _ rfl⟩
  rw [hw_]
  clear hw_
  have B16 := Aside0.mk (B14.out.trans (hu_.toBelow (B := w.heap.size) (fun k hk => by rw [hk]; exact G_g9.out) (B14.out).size))
  have K16_g1 := Aside0.mk (hu_.blk K14_g1.out (by have := E_g1_g9.out; omega))
  have K16_g4 := Aside0.mk (hu_.blk K14_g4.out (by have := E_g4_g9.out; omega))
  have K16_g6 := Aside0.mk (hu_.blk K14_g6.out (by have := E_g6_g9.out; omega))
  have O16_g := Aside0.mk (O14_g.out.box BX13.out hu_)
  clear hu_ B14 K14_g1 K14_g4 K14_g6 O14_g BX13
  have qc9 : w_15.cell? ⟨g4, 9, none⟩ = some (.bool false) := (blk_cell K16_g4.out 9).trans rfl
  have qf9 := blk_frozen K16_g4.out 9
  go_upto_region 10 with (fail)
  clear qc9 qf9
  obtain ⟨w_17, hw_⟩ : ∃ w_, w_15.setCell ⟨g4, 9, none⟩ (.bool true) = w_ := ⟨_, rfl⟩
  have hu_ : Upd w_15 w_17 (fun k => k = g4) := by rw [← hw_]; exact (Upd.refl w_15 (fun k => k = g4)).set (p := ⟨g4, 9, none⟩) (.inl rfl) _
  have K18_g4 : Aside0 (w_17.heap[g4]? = some (.cells #[.string ⟨#[2, 97, 113, 0, 0, 5]⟩, .bool false, .bool false, .bool false, .bool false, .bool false, .bool false, .slice X7 0 y7, .slice X8 0 y8, .bool true, .slice X 1 y] 25 (0, 0))) := ⟨by rw [← hw_]; exact blk_put (cs := #[.string ⟨#[2, 97, 113, 0, 0, 5]⟩, .bool false, .bool false, .bool false, .bool false, .bool false, .bool false, .slice X7 0 y7, .slice X8 0 y8, .bool false, .slice X 1 y]) K16_g4.out 9 _ rfl⟩
  rw [hw_]
  clear hw_
  have B18 := Aside0.mk (B16.out.trans (hu_.toBelow (B := w.heap.size) (fun k hk => by rw [hk]; exact G_g4.out) (B16.out).size))
  have K18_g1 := Aside0.mk (hu_.blk K16_g1.out (by have := E_g1_g4.out; omega))
  have K18_g6 := Aside0.mk (hu_.blk K16_g6.out (by have := E_g4_g6.out; omega))
  have K18_g9 := Aside0.mk (hu_.blk K16_g9.out (by have := E_g4_g9.out; omega))
  have O18_g := Aside0.mk (O16_g.out.box K16_g4.out hu_)
  clear hu_ B16 K16_g1 K16_g6 K16_g9 O16_g K16_g4
  refine start_ (n := 58) (S := fun w' => w'.cell? ⟨g1, 0, none⟩ = some (.string ⟨#[2, 97, 113, 0, 0, 5]⟩) ∧ w'.cell? ⟨g1, 1, none⟩ = some (.bool false) ∧ w'.cell? ⟨g1, 2, none⟩ = some (.bool false) ∧ w'.cell? ⟨g1, 3, none⟩ = some (.bool false) ∧ w'.cell? ⟨g1, 4, none⟩ = some (.bool false) ∧ w'.cell? ⟨g1, 5, none⟩ = some (.bool false) ∧ w'.cell? ⟨g1, 6, none⟩ = some (.bool false) ∧ w'.cell? ⟨g1, 7, none⟩ = some (.slice none 0 0) ∧ w'.cell? ⟨g1, 8, none⟩ = some (.slice none 0 0) ∧ w'.cell? ⟨g1, 9, none⟩ = some (.bool false) ∧ w'.cell? ⟨g1, 10, none⟩ = some (.slice none 0 0) ∧ w'.cell? ⟨g4, 0, none⟩ = some (.string ⟨#[2, 97, 113, 0, 0, 5]⟩) ∧ w'.cell? ⟨g4, 1, none⟩ = some (.bool false) ∧ w'.cell? ⟨g4, 2, none⟩ = some (.bool false) ∧ w'.cell? ⟨g4, 3, none⟩ = some (.bool false) ∧ w'.cell? ⟨g4, 4, none⟩ = some (.bool false) ∧ w'.cell? ⟨g4, 5, none⟩ = some (.bool false) ∧ w'.cell? ⟨g4, 6, none⟩ = some (.bool false) ∧ w'.cell? ⟨g4, 7, none⟩ = some (.slice X7 0 y7) ∧ w'.cell? ⟨g4, 8, none⟩ = some (.slice X8 0 y8) ∧ w'.cell? ⟨g4, 9, none⟩ = some (.bool true) ∧ w'.cell? ⟨g4, 10, none⟩ = some (.slice X 1 y) ∧ w'.cell? ⟨g9, 0, none⟩ = some (.string ⟨#[2, 97, 113, 0, 0, 5]⟩) ∧ w'.cell? ⟨g9, 1, none⟩ = some (.bool false) ∧ w'.cell? ⟨g9, 2, none⟩ = some (.bool false) ∧ w'.cell? ⟨g9, 3, none⟩ = some (.bool false) ∧ w'.cell? ⟨g9, 4, none⟩ = some (.bool false) ∧ w'.cell? ⟨g9, 5, none⟩ = some (.bool false) ∧ w'.cell? ⟨g9, 6, none⟩ = some (.bool false) ∧ w'.cell? ⟨g9, 7, none⟩ = some (.slice none 0 0) ∧ w'.cell? ⟨g9, 8, none⟩ = some (.slice none 0 0) ∧ w'.cell? ⟨g9, 9, none⟩ = some (.bool true) ∧ w'.cell? ⟨g9, 10, none⟩ = some (.slice none 0 0) ∧ Below w_17.heap.size w_17 w') (ds := []) #[false, false, false, false, false, false, false, false, false, false, false, false, false, false, false, false, false, false, false, false, false, false, false, false, false, false, false, false, false, false, false, false, false, false, false, false, false, false, false, false, false, false, false, false, false, false, false, false, false, false, false, false, false, false, false, false, false, false] (by kernel_rfl) rfl rfl ⟨(blk_cell K18_g1.out 0).trans rfl, (blk_cell K18_g1.out 1).trans rfl, (blk_cell K18_g1.out 2).trans rfl, (blk_cell K18_g1.out 3).trans rfl, (blk_cell K18_g1.out 4).trans rfl, (blk_cell K18_g1.out 5).trans rfl, (blk_cell K18_g1.out 6).trans rfl, (blk_cell K18_g1.out 7).trans rfl, (blk_cell K18_g1.out 8).trans rfl, (blk_cell K18_g1.out 9).trans rfl, (blk_cell K18_g1.out 10).trans rfl, (blk_cell K18_g4.out 0).trans rfl, (blk_cell K18_g4.out 1).trans rfl, (blk_cell K18_g4.out 2).trans rfl, (blk_cell K18_g4.out 3).trans rfl, (blk_cell K18_g4.out 4).trans rfl, (blk_cell K18_g4.out 5).trans rfl, (blk_cell K18_g4.out 6).trans rfl, (blk_cell K18_g4.out 7).trans rfl, (blk_cell K18_g4.out 8).trans rfl, (blk_cell K18_g4.out 9).trans rfl, (blk_cell K18_g4.out 10).trans rfl, (blk_cell K18_g9.out 0).trans rfl, (blk_cell K18_g9.out 1).trans rfl, (blk_cell K18_g9.out 2).trans rfl, (blk_cell K18_g9.out 3).trans rfl, (blk_cell K18_g9.out 4).trans rfl, (blk_cell K18_g9.out 5).trans rfl, (blk_cell K18_g9.out 6).trans rfl, (blk_cell K18_g9.out 7).trans rfl, (blk_cell K18_g9.out 8).trans rfl, (blk_cell K18_g9.out 9).trans rfl, (blk_cell K18_g9.out 10).trans rfl, below_drew1 (Below.refl _ _)⟩ (fun hHeld => ?_)
  refine pure_ (i := 1) (N := some 34) (v := ?_) (a' := ?_) #[false, true, false, false, false, false, false, false, false, false, false, false, false, false, false, false, false, false, false, false, false, false, false, false, false, false, false, false, false, false, false, false, false, false, false, false, false, false, false, false, false, false, false, false, false, false, false, false, false, false, false, false, false, false, false, false, false, false] rfl rfl (by kernel_rfl) (fun _ _ _ h => h) (Or.inl ⟨by rfl, ?_⟩) ?_ ?_
  rotate_left
  · intro w'
    go_simp
    with_reducible rfl
  rotate_left
  · simp only [Act.put, List.setIfInBounds_toArray, List.set_cons_zero, List.set_cons_succ, i64_w, i32_w]
    rfl
  refine take_ (i := 0) (N := some 33) (v := ?_) (a' := ?_) #[true, true, false, false, false, false, false, false, false, false, false, false, false, false, false, false, false, false, false, false, false, false, false, false, false, false, false, false, false, false, false, false, false, false, false, false, false, false, false, false, false, false, false, false, false, false, false, false, false, false, false, false, false, false, false, false, false, false] rfl rfl (by kernel_rfl) (fun _ _ _ h => h) (Or.inl ⟨by rfl, ?_⟩) hHeld ?_ ?_
  rotate_left
  · rintro w' ⟨s0, s1, s2, s3, s4, s5, s6, s7, s8, s9, s10, s11, s12, s13, s14, s15, s16, s17, s18, s19, s20, s21, s22, s23, s24, s25, s26, s27, s28, s29, s30, s31, s32, s33⟩
    go_simp
    with_reducible rfl
  rotate_left
  · simp only [Act.put, List.setIfInBounds_toArray, List.set_cons_zero, List.set_cons_succ, i64_w, i32_w]
    rfl
  refine one_ (i := 2) (N := some 35) #[true, true, true, false, false, false, false, false, false, false, false, false, false, false, false, false, false, false, false, false, false, false, false, false, false, false, false, false, false, false, false, false, false, false, false, false, false, false, false, false, false, false, false, false, false, false, false, false, false, false, false, false, false, false, false, false, false, false] rfl rfl (by kernel_rfl) (by decide) (fun K hK => ?_)
  refine goes_ Try.func13 (by kernel_rfl) rfl #[.agg #[.string ⟨#[2, 97, 113, 0, 0, 5]⟩, .bool false, .bool false, .bool false, .bool false, .bool false, .bool false, .slice none 0 0, .slice none 0 0, .bool false, .slice none 0 0], .string ⟨#[2, 97, 113, 0, 0, 5, 2, 97, 113, 0, 0, 6, 8, 0]⟩] (by rfl) rfl rfl (by simp only [List.map_toArray, List.map_cons, List.map_nil]; rfl) ?_
  with_reducible refine (fx_a1 _).mono ?_
  rintro e u1 ⟨rfl, hu1⟩
  refine ⟨_, rfl, ?_⟩
  have Ku1 := Aside0.mk hu1
  clear hu1
  refine hK.out _ _ ⟨pw_cell_below Ku1.out hHeld.1, pw_cell_below Ku1.out hHeld.2.1, pw_cell_below Ku1.out hHeld.2.2.1, pw_cell_below Ku1.out hHeld.2.2.2.1, pw_cell_below Ku1.out hHeld.2.2.2.2.1, pw_cell_below Ku1.out hHeld.2.2.2.2.2.1, pw_cell_below Ku1.out hHeld.2.2.2.2.2.2.1, pw_cell_below Ku1.out hHeld.2.2.2.2.2.2.2.1, pw_cell_below Ku1.out hHeld.2.2.2.2.2.2.2.2.1, pw_cell_below Ku1.out hHeld.2.2.2.2.2.2.2.2.2.1, pw_cell_below Ku1.out hHeld.2.2.2.2.2.2.2.2.2.2.1, pw_cell_below Ku1.out hHeld.2.2.2.2.2.2.2.2.2.2.2.1, pw_cell_below Ku1.out hHeld.2.2.2.2.2.2.2.2.2.2.2.2.1, pw_cell_below Ku1.out hHeld.2.2.2.2.2.2.2.2.2.2.2.2.2.1, pw_cell_below Ku1.out hHeld.2.2.2.2.2.2.2.2.2.2.2.2.2.2.1, pw_cell_below Ku1.out hHeld.2.2.2.2.2.2.2.2.2.2.2.2.2.2.2.1, pw_cell_below Ku1.out hHeld.2.2.2.2.2.2.2.2.2.2.2.2.2.2.2.2.1, pw_cell_below Ku1.out hHeld.2.2.2.2.2.2.2.2.2.2.2.2.2.2.2.2.2.1, pw_cell_below Ku1.out hHeld.2.2.2.2.2.2.2.2.2.2.2.2.2.2.2.2.2.2.1, pw_cell_below Ku1.out hHeld.2.2.2.2.2.2.2.2.2.2.2.2.2.2.2.2.2.2.2.1, pw_cell_below Ku1.out hHeld.2.2.2.2.2.2.2.2.2.2.2.2.2.2.2.2.2.2.2.2.1, pw_cell_below Ku1.out hHeld.2.2.2.2.2.2.2.2.2.2.2.2.2.2.2.2.2.2.2.2.2.1, pw_cell_below Ku1.out hHeld.2.2.2.2.2.2.2.2.2.2.2.2.2.2.2.2.2.2.2.2.2.2.1, pw_cell_below Ku1.out hHeld.2.2.2.2.2.2.2.2.2.2.2.2.2.2.2.2.2.2.2.2.2.2.2.1, pw_cell_below Ku1.out hHeld.2.2.2.2.2.2.2.2.2.2.2.2.2.2.2.2.2.2.2.2.2.2.2.2.1, pw_cell_below Ku1.out hHeld.2.2.2.2.2.2.2.2.2.2.2.2.2.2.2.2.2.2.2.2.2.2.2.2.2.1, pw_cell_below Ku1.out hHeld.2.2.2.2.2.2.2.2.2.2.2.2.2.2.2.2.2.2.2.2.2.2.2.2.2.2.1, pw_cell_below Ku1.out hHeld.2.2.2.2.2.2.2.2.2.2.2.2.2.2.2.2.2.2.2.2.2.2.2.2.2.2.2.1, pw_cell_below Ku1.out hHeld.2.2.2.2.2.2.2.2.2.2.2.2.2.2.2.2.2.2.2.2.2.2.2.2.2.2.2.2.1, pw_cell_below Ku1.out hHeld.2.2.2.2.2.2.2.2.2.2.2.2.2.2.2.2.2.2.2.2.2.2.2.2.2.2.2.2.2.1, pw_cell_below Ku1.out hHeld.2.2.2.2.2.2.2.2.2.2.2.2.2.2.2.2.2.2.2.2.2.2.2.2.2.2.2.2.2.2.1, pw_cell_below Ku1.out hHeld.2.2.2.2.2.2.2.2.2.2.2.2.2.2.2.2.2.2.2.2.2.2.2.2.2.2.2.2.2.2.2.1, pw_cell_below Ku1.out hHeld.2.2.2.2.2.2.2.2.2.2.2.2.2.2.2.2.2.2.2.2.2.2.2.2.2.2.2.2.2.2.2.2.1, below_step hHeld.2.2.2.2.2.2.2.2.2.2.2.2.2.2.2.2.2.2.2.2.2.2.2.2.2.2.2.2.2.2.2.2.2 Ku1.out⟩ (fun hHeld => ?_)
  clear hK K
  refine norm_ (a' := ?_) ?_ ?_
  rotate_left
  · show Act.put _ (some 35) _ = _
    simp only [Act.put, List.setIfInBounds_toArray, List.set_cons_zero, List.set_cons_succ, i64_w, i32_w]
    rfl
  refine pure_ (i := 3) (N := some 36) (v := ?_) (a' := ?_) #[true, true, true, true, false, false, false, false, false, false, false, false, false, false, false, false, false, false, false, false, false, false, false, false, false, false, false, false, false, false, false, false, false, false, false, false, false, false, false, false, false, false, false, false, false, false, false, false, false, false, false, false, false, false, false, false, false, false] rfl rfl (by kernel_rfl) (fun _ _ _ h => h) (Or.inl ⟨by rfl, ?_⟩) ?_ ?_
  rotate_left
  · intro w'
    go_simp
    with_reducible rfl
  rotate_left
  · simp only [Act.put, List.setIfInBounds_toArray, List.set_cons_zero, List.set_cons_succ, i64_w, i32_w]
    rfl
  refine pure_ (i := 5) (N := some 38) (v := ?_) (a' := ?_) #[true, true, true, true, false, true, false, false, false, false, false, false, false, false, false, false, false, false, false, false, false, false, false, false, false, false, false, false, false, false, false, false, false, false, false, false, false, false, false, false, false, false, false, false, false, false, false, false, false, false, false, false, false, false, false, false, false, false] rfl rfl (by kernel_rfl) (fun _ _ _ h => h) (Or.inl ⟨by rfl, ?_⟩) ?_ ?_
  rotate_left
  · intro w'
    go_simp
    with_reducible rfl
  rotate_left
  · simp only [Act.put, List.setIfInBounds_toArray, List.set_cons_zero, List.set_cons_succ, i64_w, i32_w]
    rfl
  refine pure_ (i := 6) (N := some 39) (v := ?_) (a' := ?_) #[true, true, true, true, false, true, true, false, false, false, false, false, false, false, false, false, false, false, false, false, false, false, false, false, false, false, false, false, false, false, false, false, false, false, false, false, false, false, false, false, false, false, false, false, false, false, false, false, false, false, false, false, false, false, false, false, false, false] rfl rfl (by kernel_rfl) (fun _ _ _ h => h) (Or.inl ⟨by rfl, ?_⟩) ?_ ?_
  rotate_left
  · intro w'
    go_simp
    with_reducible rfl
  rotate_left
  · simp only [Act.put, List.setIfInBounds_toArray, List.set_cons_zero, List.set_cons_succ, i64_w, i32_w]
    rfl
  refine take_ (i := 4) (N := some 37) (v := ?_) (a' := ?_) #[true, true, true, true, true, true, true, false, false, false, false, false, false, false, false, false, false, false, false, false, false, false, false, false, false, false, false, false, false, false, false, false, false, false, false, false, false, false, false, false, false, false, false, false, false, false, false, false, false, false, false, false, false, false, false, false, false, false] rfl rfl (by kernel_rfl) (fun _ _ _ h => h) (Or.inl ⟨by rfl, ?_⟩) hHeld ?_ ?_
  rotate_left
  · rintro w' ⟨s0, s1, s2, s3, s4, s5, s6, s7, s8, s9, s10, s11, s12, s13, s14, s15, s16, s17, s18, s19, s20, s21, s22, s23, s24, s25, s26, s27, s28, s29, s30, s31, s32, s33⟩
    go_simp
    with_reducible rfl
  rotate_left
  · simp only [Act.put, List.setIfInBounds_toArray, List.set_cons_zero, List.set_cons_succ, i64_w, i32_w]
    rfl
  refine take_ (i := 7) (N := some 40) (v := ?_) (a' := ?_) #[true, true, true, true, true, true, true, true, false, false, false, false, false, false, false, false, false, false, false, false, false, false, false, false, false, false, false, false, false, false, false, false, false, false, false, false, false, false, false, false, false, false, false, false, false, false, false, false, false, false, false, false, false, false, false, false, false, false] rfl rfl (by kernel_rfl) (fun _ _ _ h => h) (Or.inl ⟨by rfl, ?_⟩) hHeld ?_ ?_
  rotate_left
  · rintro w' ⟨s0, s1, s2, s3, s4, s5, s6, s7, s8, s9, s10, s11, s12, s13, s14, s15, s16, s17, s18, s19, s20, s21, s22, s23, s24, s25, s26, s27, s28, s29, s30, s31, s32, s33⟩
    go_simp
    with_reducible rfl
  rotate_left
  · simp only [Act.put, List.setIfInBounds_toArray, List.set_cons_zero, List.set_cons_succ, i64_w, i32_w]
    rfl
  refine one_ (i := 8) (N := some 41) #[true, true, true, true, true, true, true, true, true, false, false, false, false, false, false, false, false, false, false, false, false, false, false, false, false, false, false, false, false, false, false, false, false, false, false, false, false, false, false, false, false, false, false, false, false, false, false, false, false, false, false, false, false, false, false, false, false, false] rfl rfl (by kernel_rfl) (by decide) (fun K hK => ?_)
  refine goes_ Try.func15 (by kernel_rfl) rfl #[.string ⟨#[2, 97, 113, 0, 0, 6]⟩, .string ⟨#[2, 97, 113, 0, 0, 5]⟩] (by rfl) rfl rfl (by simp only [List.map_toArray, List.map_cons, List.map_nil]; rfl) ?_
  with_reducible refine (framed_at (r := ⟨#[2, 97, 113, 0, 0, 6, 2, 97, 113, 0, 0, 5, 8, 0]⟩) _ (by decide +kernel)).mono ?_
  rintro e u2 ⟨rfl, hu2⟩
  refine ⟨_, rfl, ?_⟩
  have Ku2 := Aside0.mk hu2
  clear hu2
  refine hK.out _ _ ⟨pw_cell_below Ku2.out hHeld.1, pw_cell_below Ku2.out hHeld.2.1, pw_cell_below Ku2.out hHeld.2.2.1, pw_cell_below Ku2.out hHeld.2.2.2.1, pw_cell_below Ku2.out hHeld.2.2.2.2.1, pw_cell_below Ku2.out hHeld.2.2.2.2.2.1, pw_cell_below Ku2.out hHeld.2.2.2.2.2.2.1, pw_cell_below Ku2.out hHeld.2.2.2.2.2.2.2.1, pw_cell_below Ku2.out hHeld.2.2.2.2.2.2.2.2.1, pw_cell_below Ku2.out hHeld.2.2.2.2.2.2.2.2.2.1, pw_cell_below Ku2.out hHeld.2.2.2.2.2.2.2.2.2.2.1, pw_cell_below Ku2.out hHeld.2.2.2.2.2.2.2.2.2.2.2.1, pw_cell_below Ku2.out hHeld.2.2.2.2.2.2.2.2.2.2.2.2.1, pw_cell_below Ku2.out hHeld.2.2.2.2.2.2.2.2.2.2.2.2.2.1, pw_cell_below Ku2.out hHeld.2.2.2.2.2.2.2.2.2.2.2.2.2.2.1, pw_cell_below Ku2.out hHeld.2.2.2.2.2.2.2.2.2.2.2.2.2.2.2.1, pw_cell_below Ku2.out hHeld.2.2.2.2.2.2.2.2.2.2.2.2.2.2.2.2.1, pw_cell_below Ku2.out hHeld.2.2.2.2.2.2.2.2.2.2.2.2.2.2.2.2.2.1, pw_cell_below Ku2.out hHeld.2.2.2.2.2.2.2.2.2.2.2.2.2.2.2.2.2.2.1, pw_cell_below Ku2.out hHeld.2.2.2.2.2.2.2.2.2.2.2.2.2.2.2.2.2.2.2.1, pw_cell_below Ku2.out hHeld.2.2.2.2.2.2.2.2.2.2.2.2.2.2.2.2.2.2.2.2.1, pw_cell_below Ku2.out hHeld.2.2.2.2.2.2.2.2.2.2.2.2.2.2.2.2.2.2.2.2.2.1, pw_cell_below Ku2.out hHeld.2.2.2.2.2.2.2.2.2.2.2.2.2.2.2.2.2.2.2.2.2.2.1, pw_cell_below Ku2.out hHeld.2.2.2.2.2.2.2.2.2.2.2.2.2.2.2.2.2.2.2.2.2.2.2.1, pw_cell_below Ku2.out hHeld.2.2.2.2.2.2.2.2.2.2.2.2.2.2.2.2.2.2.2.2.2.2.2.2.1, pw_cell_below Ku2.out hHeld.2.2.2.2.2.2.2.2.2.2.2.2.2.2.2.2.2.2.2.2.2.2.2.2.2.1, pw_cell_below Ku2.out hHeld.2.2.2.2.2.2.2.2.2.2.2.2.2.2.2.2.2.2.2.2.2.2.2.2.2.2.1, pw_cell_below Ku2.out hHeld.2.2.2.2.2.2.2.2.2.2.2.2.2.2.2.2.2.2.2.2.2.2.2.2.2.2.2.1, pw_cell_below Ku2.out hHeld.2.2.2.2.2.2.2.2.2.2.2.2.2.2.2.2.2.2.2.2.2.2.2.2.2.2.2.2.1, pw_cell_below Ku2.out hHeld.2.2.2.2.2.2.2.2.2.2.2.2.2.2.2.2.2.2.2.2.2.2.2.2.2.2.2.2.2.1, pw_cell_below Ku2.out hHeld.2.2.2.2.2.2.2.2.2.2.2.2.2.2.2.2.2.2.2.2.2.2.2.2.2.2.2.2.2.2.1, pw_cell_below Ku2.out hHeld.2.2.2.2.2.2.2.2.2.2.2.2.2.2.2.2.2.2.2.2.2.2.2.2.2.2.2.2.2.2.2.1, pw_cell_below Ku2.out hHeld.2.2.2.2.2.2.2.2.2.2.2.2.2.2.2.2.2.2.2.2.2.2.2.2.2.2.2.2.2.2.2.2.1, below_step hHeld.2.2.2.2.2.2.2.2.2.2.2.2.2.2.2.2.2.2.2.2.2.2.2.2.2.2.2.2.2.2.2.2.2 Ku2.out⟩ (fun hHeld => ?_)
  clear hK K
  refine norm_ (a' := ?_) ?_ ?_
  rotate_left
  · show Act.put _ (some 41) _ = _
    simp only [Act.put, List.setIfInBounds_toArray, List.set_cons_zero, List.set_cons_succ, i64_w, i32_w]
    rfl
  refine one_ (i := 9) (N := some 42) #[true, true, true, true, true, true, true, true, true, true, false, false, false, false, false, false, false, false, false, false, false, false, false, false, false, false, false, false, false, false, false, false, false, false, false, false, false, false, false, false, false, false, false, false, false, false, false, false, false, false, false, false, false, false, false, false, false, false] rfl rfl (by kernel_rfl) (by decide) (fun K hK => ?_)
  refine goes_ Try.func13 (by kernel_rfl) rfl #[.agg #[.string ⟨#[2, 97, 113, 0, 0, 5]⟩, .bool false, .bool false, .bool false, .bool false, .bool false, .bool false, .slice none 0 0, .slice none 0 0, .bool false, .slice none 0 0], .string ⟨#[2, 97, 113, 0, 0, 6, 2, 97, 113, 0, 0, 5, 8, 0]⟩] (by rfl) rfl rfl (by simp only [List.map_toArray, List.map_cons, List.map_nil]; rfl) ?_
  with_reducible refine (fx_a2 _).mono ?_
  rintro e u3 ⟨rfl, hu3⟩
  refine ⟨_, rfl, ?_⟩
  have Ku3 := Aside0.mk hu3
  clear hu3
  refine hK.out _ _ ⟨pw_cell_below Ku3.out hHeld.1, pw_cell_below Ku3.out hHeld.2.1, pw_cell_below Ku3.out hHeld.2.2.1, pw_cell_below Ku3.out hHeld.2.2.2.1, pw_cell_below Ku3.out hHeld.2.2.2.2.1, pw_cell_below Ku3.out hHeld.2.2.2.2.2.1, pw_cell_below Ku3.out hHeld.2.2.2.2.2.2.1, pw_cell_below Ku3.out hHeld.2.2.2.2.2.2.2.1, pw_cell_below Ku3.out hHeld.2.2.2.2.2.2.2.2.1, pw_cell_below Ku3.out hHeld.2.2.2.2.2.2.2.2.2.1, pw_cell_below Ku3.out hHeld.2.2.2.2.2.2.2.2.2.2.1, pw_cell_below Ku3.out hHeld.2.2.2.2.2.2.2.2.2.2.2.1, pw_cell_below Ku3.out hHeld.2.2.2.2.2.2.2.2.2.2.2.2.1, pw_cell_below Ku3.out hHeld.2.2.2.2.2.2.2.2.2.2.2.2.2.1, pw_cell_below Ku3.out hHeld.2.2.2.2.2.2.2.2.2.2.2.2.2.2.1, pw_cell_below Ku3.out hHeld.2.2.2.2.2.2.2.2.2.2.2.2.2.2.2.1, pw_cell_below Ku3.out hHeld.2.2.2.2.2.2.2.2.2.2.2.2.2.2.2.2.1, pw_cell_below Ku3.out hHeld.2.2.2.2.2.2.2.2.2.2.2.2.2.2.2.2.2.1, pw_cell_below Ku3.out hHeld.2.2.2.2.2.2.2.2.2.2.2.2.2.2.2.2.2.2.1, pw_cell_below Ku3.out hHeld.2.2.2.2.2.2.2.2.2.2.2.2.2.2.2.2.2.2.2.1, pw_cell_below Ku3.out hHeld.2.2.2.2.2.2.2.2.2.2.2.2.2.2.2.2.2.2.2.2.1, pw_cell_below Ku3.out hHeld.2.2.2.2.2.2.2.2.2.2.2.2.2.2.2.2.2.2.2.2.2.1, pw_cell_below Ku3.out hHeld.2.2.2.2.2.2.2.2.2.2.2.2.2.2.2.2.2.2.2.2.2.2.1, pw_cell_below Ku3.out hHeld.2.2.2.2.2.2.2.2.2.2.2.2.2.2.2.2.2.2.2.2.2.2.2.1, pw_cell_below Ku3.out hHeld.2.2.2.2.2.2.2.2.2.2.2.2.2.2.2.2.2.2.2.2.2.2.2.2.1, pw_cell_below Ku3.out hHeld.2.2.2.2.2.2.2.2.2.2.2.2.2.2.2.2.2.2.2.2.2.2.2.2.2.1, pw_cell_below Ku3.out hHeld.2.2.2.2.2.2.2.2.2.2.2.2.2.2.2.2.2.2.2.2.2.2.2.2.2.2.1, pw_cell_below Ku3.out hHeld.2.2.2.2.2.2.2.2.2.2.2.2.2.2.2.2.2.2.2.2.2.2.2.2.2.2.2.1, pw_cell_below Ku3.out hHeld.2.2.2.2.2.2.2.2.2.2.2.2.2.2.2.2.2.2.2.2.2.2.2.2.2.2.2.2.1, pw_cell_below Ku3.out hHeld.2.2.2.2.2.2.2.2.2.2.2.2.2.2.2.2.2.2.2.2.2.2.2.2.2.2.2.2.2.1, pw_cell_below Ku3.out hHeld.2.2.2.2.2.2.2.2.2.2.2.2.2.2.2.2.2.2.2.2.2.2.2.2.2.2.2.2.2.2.1, pw_cell_below Ku3.out hHeld.2.2.2.2.2.2.2.2.2.2.2.2.2.2.2.2.2.2.2.2.2.2.2.2.2.2.2.2.2.2.2.1, pw_cell_below Ku3.out hHeld.2.2.2.2.2.2.2.2.2.2.2.2.2.2.2.2.2.2.2.2.2.2.2.2.2.2.2.2.2.2.2.2.1, below_step hHeld.2.2.2.2.2.2.2.2.2.2.2.2.2.2.2.2.2.2.2.2.2.2.2.2.2.2.2.2.2.2.2.2.2 Ku3.out⟩ (fun hHeld => ?_)
  clear hK K
  refine norm_ (a' := ?_) ?_ ?_
  rotate_left
  · show Act.put _ (some 42) _ = _
    simp only [Act.put, List.setIfInBounds_toArray, List.set_cons_zero, List.set_cons_succ, i64_w, i32_w]
    rfl
  refine pure_ (i := 10) (N := some 43) (v := ?_) (a' := ?_) #[true, true, true, true, true, true, true, true, true, true, true, false, false, false, false, false, false, false, false, false, false, false, false, false, false, false, false, false, false, false, false, false, false, false, false, false, false, false, false, false, false, false, false, false, false, false, false, false, false, false, false, false, false, false, false, false, false, false] rfl rfl (by kernel_rfl) (fun _ _ _ h => h) (Or.inl ⟨by rfl, ?_⟩) ?_ ?_
  rotate_left
  · intro w'
    go_simp
    with_reducible rfl
  rotate_left
  · simp only [Act.put, List.setIfInBounds_toArray, List.set_cons_zero, List.set_cons_succ, i64_w, i32_w]
    rfl
  refine pure_ (i := 11) (N := some 44) (v := ?_) (a' := ?_) #[true, true, true, true, true, true, true, true, true, true, true, true, false, false, false, false, false, false, false, false, false, false, false, false, false, false, false, false, false, false, false, false, false, false, false, false, false, false, false, false, false, false, false, false, false, false, false, false, false, false, false, false, false, false, false, false, false, false] rfl rfl (by kernel_rfl) (fun _ _ _ h => h) (Or.inl ⟨by rfl, ?_⟩) ?_ ?_
  rotate_left
  · intro w'
    go_simp
    with_reducible rfl
  rotate_left
  · simp only [Act.put, List.setIfInBounds_toArray, List.set_cons_zero, List.set_cons_succ, i64_w, i32_w]
    rfl
  refine pure_ (i := 12) (N := some 45) (v := ?_) (a' := ?_) #[true, true, true, true, true, true, true, true, true, true, true, true, true, false, false, false, false, false, false, false, false, false, false, false, false, false, false, false, false, false, false, false, false, false, false, false, false, false, false, false, false, false, false, false, false, false, false, false, false, false, false, false, false, false, false, false, false, false] rfl rfl (by kernel_rfl) (fun _ _ _ h => h) (Or.inl ⟨by rfl, ?_⟩) ?_ ?_
  rotate_left
  · intro w'
    go_simp
    with_reducible rfl
  rotate_left
  · simp only [Act.put, List.setIfInBounds_toArray, List.set_cons_zero, List.set_cons_succ, i64_w, i32_w]
    rfl
  refine pure_ (i := 14) (N := some 47) (v := ?_) (a' := ?_) #[true, true, true, true, true, true, true, true, true, true, true, true, true, false, true, false, false, false, false, false, false, false, false, false, false, false, false, false, false, false, false, false, false, false, false, false, false, false, false, false, false, false, false, false, false, false, false, false, false, false, false, false, false, false, false, false, false, false] rfl rfl (by kernel_rfl) (fun _ _ _ h => h) (Or.inl ⟨by rfl, ?_⟩) ?_ ?_
  rotate_left
  · intro w'
    go_simp
    with_reducible rfl
  rotate_left
  · simp only [Act.put, List.setIfInBounds_toArray, List.set_cons_zero, List.set_cons_succ, i64_w, i32_w]
    rfl
  refine take_ (i := 13) (N := some 46) (v := ?_) (a' := ?_) #[true, true, true, true, true, true, true, true, true, true, true, true, true, true, true, false, false, false, false, false, false, false, false, false, false, false, false, false, false, false, false, false, false, false, false, false, false, false, false, false, false, false, false, false, false, false, false, false, false, false, false, false, false, false, false, false, false, false] rfl rfl (by kernel_rfl) (fun _ _ _ h => h) (Or.inl ⟨by rfl, ?_⟩) hHeld ?_ ?_
  rotate_left
  · rintro w' ⟨s0, s1, s2, s3, s4, s5, s6, s7, s8, s9, s10, s11, s12, s13, s14, s15, s16, s17, s18, s19, s20, s21, s22, s23, s24, s25, s26, s27, s28, s29, s30, s31, s32, s33⟩
    go_simp
    with_reducible rfl
  rotate_left
  · simp only [Act.put, List.setIfInBounds_toArray, List.set_cons_zero, List.set_cons_succ, i64_w, i32_w]
    rfl
  refine one_ (i := 15) (N := some 48) #[true, true, true, true, true, true, true, true, true, true, true, true, true, true, true, true, false, false, false, false, false, false, false, false, false, false, false, false, false, false, false, false, false, false, false, false, false, false, false, false, false, false, false, false, false, false, false, false, false, false, false, false, false, false, false, false, false, false] rfl rfl (by kernel_rfl) (by decide) (fun K hK => ?_)
  refine goes_ Try.func15 (by kernel_rfl) rfl #[.string ⟨#[255, 255, 255, 255, 255, 255]⟩, .string ⟨#[2, 97, 113, 0, 0, 6]⟩] (by rfl) rfl rfl (by simp only [List.map_toArray, List.map_cons, List.map_nil]; rfl) ?_
  with_reducible refine (framed_at (r := ⟨#[255, 255, 255, 255, 255, 255, 2, 97, 113, 0, 0, 6, 8, 0]⟩) _ (by decide +kernel)).mono ?_
  rintro e u4 ⟨rfl, hu4⟩
  refine ⟨_, rfl, ?_⟩
  have Ku4 := Aside0.mk hu4
  clear hu4
  refine hK.out _ _ ⟨pw_cell_below Ku4.out hHeld.1, pw_cell_below Ku4.out hHeld.2.1, pw_cell_below Ku4.out hHeld.2.2.1, pw_cell_below Ku4.out hHeld.2.2.2.1, pw_cell_below Ku4.out hHeld.2.2.2.2.1, pw_cell_below Ku4.out hHeld.2.2.2.2.2.1, pw_cell_below Ku4.out hHeld.2.2.2.2.2.2.1, pw_cell_below Ku4.out hHeld.2.2.2.2.2.2.2.1, pw_cell_below Ku4.out hHeld.2.2.2.2.2.2.2.2.1, pw_cell_below Ku4.out hHeld.2.2.2.2.2.2.2.2.2.1, pw_cell_below Ku4.out hHeld.2.2.2.2.2.2.2.2.2.2.1, pw_cell_below Ku4.out hHeld.2.2.2.2.2.2.2.2.2.2.2.1, pw_cell_below Ku4.out hHeld.2.2.2.2.2.2.2.2.2.2.2.2.1, pw_cell_below Ku4.out hHeld.2.2.2.2.2.2.2.2.2.2.2.2.2.1, pw_cell_below Ku4.out hHeld.2.2.2.2.2.2.2.2.2.2.2.2.2.2.1, pw_cell_below Ku4.out hHeld.2.2.2.2.2.2.2.2.2.2.2.2.2.2.2.1, pw_cell_below Ku4.out hHeld.2.2.2.2.2.2.2.2.2.2.2.2.2.2.2.2.1, pw_cell_below Ku4.out hHeld.2.2.2.2.2.2.2.2.2.2.2.2.2.2.2.2.2.1, pw_cell_below Ku4.out hHeld.2.2.2.2.2.2.2.2.2.2.2.2.2.2.2.2.2.2.1, pw_cell_below Ku4.out hHeld.2.2.2.2.2.2.2.2.2.2.2.2.2.2.2.2.2.2.2.1, pw_cell_below Ku4.out hHeld.2.2.2.2.2.2.2.2.2.2.2.2.2.2.2.2.2.2.2.2.1, pw_cell_below Ku4.out hHeld.2.2.2.2.2.2.2.2.2.2.2.2.2.2.2.2.2.2.2.2.2.1, pw_cell_below Ku4.out hHeld.2.2.2.2.2.2.2.2.2.2.2.2.2.2.2.2.2.2.2.2.2.2.1, pw_cell_below Ku4.out hHeld.2.2.2.2.2.2.2.2.2.2.2.2.2.2.2.2.2.2.2.2.2.2.2.1, pw_cell_below Ku4.out hHeld.2.2.2.2.2.2.2.2.2.2.2.2.2.2.2.2.2.2.2.2.2.2.2.2.1, pw_cell_below Ku4.out hHeld.2.2.2.2.2.2.2.2.2.2.2.2.2.2.2.2.2.2.2.2.2.2.2.2.2.1, pw_cell_below Ku4.out hHeld.2.2.2.2.2.2.2.2.2.2.2.2.2.2.2.2.2.2.2.2.2.2.2.2.2.2.1, pw_cell_below Ku4.out hHeld.2.2.2.2.2.2.2.2.2.2.2.2.2.2.2.2.2.2.2.2.2.2.2.2.2.2.2.1, pw_cell_below Ku4.out hHeld.2.2.2.2.2.2.2.2.2.2.2.2.2.2.2.2.2.2.2.2.2.2.2.2.2.2.2.2.1, pw_cell_below Ku4.out hHeld.2.2.2.2.2.2.2.2.2.2.2.2.2.2.2.2.2.2.2.2.2.2.2.2.2.2.2.2.2.1, pw_cell_below Ku4.out hHeld.2.2.2.2.2.2.2.2.2.2.2.2.2.2.2.2.2.2.2.2.2.2.2.2.2.2.2.2.2.2.1, pw_cell_below Ku4.out hHeld.2.2.2.2.2.2.2.2.2.2.2.2.2.2.2.2.2.2.2.2.2.2.2.2.2.2.2.2.2.2.2.1, pw_cell_below Ku4.out hHeld.2.2.2.2.2.2.2.2.2.2.2.2.2.2.2.2.2.2.2.2.2.2.2.2.2.2.2.2.2.2.2.2.1, below_step hHeld.2.2.2.2.2.2.2.2.2.2.2.2.2.2.2.2.2.2.2.2.2.2.2.2.2.2.2.2.2.2.2.2.2 Ku4.out⟩ (fun hHeld => ?_)
  clear hK K
  refine norm_ (a' := ?_) ?_ ?_
  rotate_left
  · show Act.put _ (some 48) _ = _
    simp only [Act.put, List.setIfInBounds_toArray, List.set_cons_zero, List.set_cons_succ, i64_w, i32_w]
    rfl
  refine one_ (i := 16) (N := some 49) #[true, true, true, true, true, true, true, true, true, true, true, true, true, true, true, true, true, false, false, false, false, false, false, false, false, false, false, false, false, false, false, false, false, false, false, false, false, false, false, false, false, false, false, false, false, false, false, false, false, false, false, false, false, false, false, false, false, false] rfl rfl (by kernel_rfl) (by decide) (fun K hK => ?_)
  refine goes_ Try.func13 (by kernel_rfl) rfl #[.agg #[.string ⟨#[2, 97, 113, 0, 0, 5]⟩, .bool false, .bool false, .bool false, .bool false, .bool false, .bool false, .slice none 0 0, .slice none 0 0, .bool false, .slice none 0 0], .string ⟨#[255, 255, 255, 255, 255, 255, 2, 97, 113, 0, 0, 6, 8, 0]⟩] (by rfl) rfl rfl (by simp only [List.map_toArray, List.map_cons, List.map_nil]; rfl) ?_
  with_reducible refine (fx_a3 _).mono ?_
  rintro e u5 ⟨rfl, hu5⟩
  refine ⟨_, rfl, ?_⟩
  have Ku5 := Aside0.mk hu5
  clear hu5
  refine hK.out _ _ ⟨pw_cell_below Ku5.out hHeld.1, pw_cell_below Ku5.out hHeld.2.1, pw_cell_below Ku5.out hHeld.2.2.1, pw_cell_below Ku5.out hHeld.2.2.2.1, pw_cell_below Ku5.out hHeld.2.2.2.2.1, pw_cell_below Ku5.out hHeld.2.2.2.2.2.1, pw_cell_below Ku5.out hHeld.2.2.2.2.2.2.1, pw_cell_below Ku5.out hHeld.2.2.2.2.2.2.2.1, pw_cell_below Ku5.out hHeld.2.2.2.2.2.2.2.2.1, pw_cell_below Ku5.out hHeld.2.2.2.2.2.2.2.2.2.1, pw_cell_below Ku5.out hHeld.2.2.2.2.2.2.2.2.2.2.1, pw_cell_below Ku5.out hHeld.2.2.2.2.2.2.2.2.2.2.2.1, pw_cell_below Ku5.out hHeld.2.2.2.2.2.2.2.2.2.2.2.2.1, pw_cell_below Ku5.out hHeld.2.2.2.2.2.2.2.2.2.2.2.2.2.1, pw_cell_below Ku5.out hHeld.2.2.2.2.2.2.2.2.2.2.2.2.2.2.1, pw_cell_below Ku5.out hHeld.2.2.2.2.2.2.2.2.2.2.2.2.2.2.2.1, pw_cell_below Ku5.out hHeld.2.2.2.2.2.2.2.2.2.2.2.2.2.2.2.2.1, pw_cell_below Ku5.out hHeld.2.2.2.2.2.2.2.2.2.2.2.2.2.2.2.2.2.1, pw_cell_below Ku5.out hHeld.2.2.2.2.2.2.2.2.2.2.2.2.2.2.2.2.2.2.1, pw_cell_below Ku5.out hHeld.2.2.2.2.2.2.2.2.2.2.2.2.2.2.2.2.2.2.2.1, pw_cell_below Ku5.out hHeld.2.2.2.2.2.2.2.2.2.2.2.2.2.2.2.2.2.2.2.2.1, pw_cell_below Ku5.out hHeld.2.2.2.2.2.2.2.2.2.2.2.2.2.2.2.2.2.2.2.2.2.1, pw_cell_below Ku5.out hHeld.2.2.2.2.2.2.2.2.2.2.2.2.2.2.2.2.2.2.2.2.2.2.1, pw_cell_below Ku5.out hHeld.2.2.2.2.2.2.2.2.2.2.2.2.2.2.2.2.2.2.2.2.2.2.2.1, pw_cell_below Ku5.out hHeld.2.2.2.2.2.2.2.2.2.2.2.2.2.2.2.2.2.2.2.2.2.2.2.2.1, pw_cell_below Ku5.out hHeld.2.2.2.2.2.2.2.2.2.2.2.2.2.2.2.2.2.2.2.2.2.2.2.2.2.1, pw_cell_below Ku5.out hHeld.2.2.2.2.2.2.2.2.2.2.2.2.2.2.2.2.2.2.2.2.2.2.2.2.2.2.1, pw_cell_below Ku5.out hHeld.2.2.2.2.2.2.2.2.2.2.2.2.2.2.2.2.2.2.2.2.2.2.2.2.2.2.2.1, pw_cell_below Ku5.out hHeld.2.2.2.2.2.2.2.2.2.2.2.2.2.2.2.2.2.2.2.2.2.2.2.2.2.2.2.2.1, pw_cell_below Ku5.out hHeld.2.2.2.2.2.2.2.2.2.2.2.2.2.2.2.2.2.2.2.2.2.2.2.2.2.2.2.2.2.1, pw_cell_below Ku5.out hHeld.2.2.2.2.2.2.2.2.2.2.2.2.2.2.2.2.2.2.2.2.2.2.2.2.2.2.2.2.2.2.1, pw_cell_below Ku5.out hHeld.2.2.2.2.2.2.2.2.2.2.2.2.2.2.2.2.2.2.2.2.2.2.2.2.2.2.2.2.2.2.2.1, pw_cell_below Ku5.out hHeld.2.2.2.2.2.2.2.2.2.2.2.2.2.2.2.2.2.2.2.2.2.2.2.2.2.2.2.2.2.2.2.2.1, below_step hHeld.2.2.2.2.2.2.2.2.2.2.2.2.2.2.2.2.2.2.2.2.2.2.2.2.2.2.2.2.2.2.2.2.2 Ku5.out⟩ (fun hHeld => ?_)
  clear hK K
  refine norm_ (a' := ?_) ?_ ?_
  rotate_left
  · show Act.put _ (some 49) _ = _
    simp only [Act.put, List.setIfInBounds_toArray, List.set_cons_zero, List.set_cons_succ, i64_w, i32_w]
    rfl
  refine pure_ (i := 17) (N := some 50) (v := ?_) (a' := ?_) #[true, true, true, true, true, true, true, true, true, true, true, true, true, true, true, true, true, true, false, false, false, false, false, false, false, false, false, false, false, false, false, false, false, false, false, false, false, false, false, false, false, false, false, false, false, false, false, false, false, false, false, false, false, false, false, false, false, false] rfl rfl (by kernel_rfl) (fun _ _ _ h => h) (Or.inl ⟨by rfl, ?_⟩) ?_ ?_
  rotate_left
  · intro w'
    go_simp
    with_reducible rfl
  rotate_left
  · simp only [Act.put, List.setIfInBounds_toArray, List.set_cons_zero, List.set_cons_succ, i64_w, i32_w]
    rfl
  refine pure_ (i := 18) (N := some 51) (v := ?_) (a' := ?_) #[true, true, true, true, true, true, true, true, true, true, true, true, true, true, true, true, true, true, true, false, false, false, false, false, false, false, false, false, false, false, false, false, false, false, false, false, false, false, false, false, false, false, false, false, false, false, false, false, false, false, false, false, false, false, false, false, false, false] rfl rfl (by kernel_rfl) (fun _ _ _ h => h) (Or.inl ⟨by rfl, ?_⟩) ?_ ?_
  rotate_left
  · intro w'
    go_simp
    with_reducible rfl
  rotate_left
  · simp only [Act.put, List.setIfInBounds_toArray, List.set_cons_zero, List.set_cons_succ, i64_w, i32_w]
    rfl
  refine take_ (i := 19) (N := some 52) (v := ?_) (a' := ?_) #[true, true, true, true, true, true, true, true, true, true, true, true, true, true, true, true, true, true, true, true, false, false, false, false, false, false, false, false, false, false, false, false, false, false, false, false, false, false, false, false, false, false, false, false, false, false, false, false, false, false, false, false, false, false, false, false, false, false] rfl rfl (by kernel_rfl) (fun _ _ _ h => h) (Or.inl ⟨by rfl, ?_⟩) hHeld ?_ ?_
  rotate_left
  · rintro w' ⟨s0, s1, s2, s3, s4, s5, s6, s7, s8, s9, s10, s11, s12, s13, s14, s15, s16, s17, s18, s19, s20, s21, s22, s23, s24, s25, s26, s27, s28, s29, s30, s31, s32, s33⟩
    go_simp
    with_reducible rfl
  rotate_left
  · simp only [Act.put, List.setIfInBounds_toArray, List.set_cons_zero, List.set_cons_succ, i64_w, i32_w]
    rfl
  refine one_ (i := 20) (N := some 53) #[true, true, true, true, true, true, true, true, true, true, true, true, true, true, true, true, true, true, true, true, true, false, false, false, false, false, false, false, false, false, false, false, false, false, false, false, false, false, false, false, false, false, false, false, false, false, false, false, false, false, false, false, false, false, false, false, false, false] rfl rfl (by kernel_rfl) (by decide) (fun K hK => ?_)
  refine goes_ Try.func11 (by kernel_rfl) rfl #[.agg #[.string ⟨#[2, 97, 113, 0, 0, 5]⟩, .bool false, .bool false, .bool false, .bool false, .bool false, .bool false, .slice none 0 0, .slice none 0 0, .bool false, .slice none 0 0]] (by rfl) rfl rfl (by simp only [List.map_toArray, List.map_cons, List.map_nil]; rfl) ?_
  with_reducible refine (fx_c1 _).mono ?_
  rintro e u6 ⟨rfl, hu6⟩
  refine ⟨_, rfl, ?_⟩
  have Ku6 := Aside0.mk hu6
  clear hu6
  refine hK.out _ _ ⟨pw_cell_below Ku6.out hHeld.1, pw_cell_below Ku6.out hHeld.2.1, pw_cell_below Ku6.out hHeld.2.2.1, pw_cell_below Ku6.out hHeld.2.2.2.1, pw_cell_below Ku6.out hHeld.2.2.2.2.1, pw_cell_below Ku6.out hHeld.2.2.2.2.2.1, pw_cell_below Ku6.out hHeld.2.2.2.2.2.2.1, pw_cell_below Ku6.out hHeld.2.2.2.2.2.2.2.1, pw_cell_below Ku6.out hHeld.2.2.2.2.2.2.2.2.1, pw_cell_below Ku6.out hHeld.2.2.2.2.2.2.2.2.2.1, pw_cell_below Ku6.out hHeld.2.2.2.2.2.2.2.2.2.2.1, pw_cell_below Ku6.out hHeld.2.2.2.2.2.2.2.2.2.2.2.1, pw_cell_below Ku6.out hHeld.2.2.2.2.2.2.2.2.2.2.2.2.1, pw_cell_below Ku6.out hHeld.2.2.2.2.2.2.2.2.2.2.2.2.2.1, pw_cell_below Ku6.out hHeld.2.2.2.2.2.2.2.2.2.2.2.2.2.2.1, pw_cell_below Ku6.out hHeld.2.2.2.2.2.2.2.2.2.2.2.2.2.2.2.1, pw_cell_below Ku6.out hHeld.2.2.2.2.2.2.2.2.2.2.2.2.2.2.2.2.1, pw_cell_below Ku6.out hHeld.2.2.2.2.2.2.2.2.2.2.2.2.2.2.2.2.2.1, pw_cell_below Ku6.out hHeld.2.2.2.2.2.2.2.2.2.2.2.2.2.2.2.2.2.2.1, pw_cell_below Ku6.out hHeld.2.2.2.2.2.2.2.2.2.2.2.2.2.2.2.2.2.2.2.1, pw_cell_below Ku6.out hHeld.2.2.2.2.2.2.2.2.2.2.2.2.2.2.2.2.2.2.2.2.1, pw_cell_below Ku6.out hHeld.2.2.2.2.2.2.2.2.2.2.2.2.2.2.2.2.2.2.2.2.2.1, pw_cell_below Ku6.out hHeld.2.2.2.2.2.2.2.2.2.2.2.2.2.2.2.2.2.2.2.2.2.2.1, pw_cell_below Ku6.out hHeld.2.2.2.2.2.2.2.2.2.2.2.2.2.2.2.2.2.2.2.2.2.2.2.1, pw_cell_below Ku6.out hHeld.2.2.2.2.2.2.2.2.2.2.2.2.2.2.2.2.2.2.2.2.2.2.2.2.1, pw_cell_below Ku6.out hHeld.2.2.2.2.2.2.2.2.2.2.2.2.2.2.2.2.2.2.2.2.2.2.2.2.2.1, pw_cell_below Ku6.out hHeld.2.2.2.2.2.2.2.2.2.2.2.2.2.2.2.2.2.2.2.2.2.2.2.2.2.2.1, pw_cell_below Ku6.out hHeld.2.2.2.2.2.2.2.2.2.2.2.2.2.2.2.2.2.2.2.2.2.2.2.2.2.2.2.1, pw_cell_below Ku6.out hHeld.2.2.2.2.2.2.2.2.2.2.2.2.2.2.2.2.2.2.2.2.2.2.2.2.2.2.2.2.1, pw_cell_below Ku6.out hHeld.2.2.2.2.2.2.2.2.2.2.2.2.2.2.2.2.2.2.2.2.2.2.2.2.2.2.2.2.2.1, pw_cell_below Ku6.out hHeld.2.2.2.2.2.2.2.2.2.2.2.2.2.2.2.2.2.2.2.2.2.2.2.2.2.2.2.2.2.2.1, pw_cell_below Ku6.out hHeld.2.2.2.2.2.2.2.2.2.2.2.2.2.2.2.2.2.2.2.2.2.2.2.2.2.2.2.2.2.2.2.1, pw_cell_below Ku6.out hHeld.2.2.2.2.2.2.2.2.2.2.2.2.2.2.2.2.2.2.2.2.2.2.2.2.2.2.2.2.2.2.2.2.1, below_step hHeld.2.2.2.2.2.2.2.2.2.2.2.2.2.2.2.2.2.2.2.2.2.2.2.2.2.2.2.2.2.2.2.2.2 Ku6.out⟩ (fun hHeld => ?_)
  clear hK K
  refine norm_ (a' := ?_) ?_ ?_
  rotate_left
  · show Act.put _ (some 53) _ = _
    simp only [Act.put, List.setIfInBounds_toArray, List.set_cons_zero, List.set_cons_succ, i64_w, i32_w]
    rfl
  refine pure_ (i := 21) (N := some 54) (v := ?_) (a' := ?_) #[true, true, true, true, true, true, true, true, true, true, true, true, true, true, true, true, true, true, true, true, true, true, false, false, false, false, false, false, false, false, false, false, false, false, false, false, false, false, false, false, false, false, false, false, false, false, false, false, false, false, false, false, false, false, false, false, false, false] rfl rfl (by kernel_rfl) (fun _ _ _ h => h) (Or.inl ⟨by rfl, ?_⟩) ?_ ?_
  rotate_left
  · intro w'
    go_simp
    with_reducible rfl
  rotate_left
  · simp only [Act.put, List.setIfInBounds_toArray, List.set_cons_zero, List.set_cons_succ, i64_w, i32_w]
    rfl
  refine pure_ (i := 22) (N := some 55) (v := ?_) (a' := ?_) #[true, true, true, true, true, true, true, true, true, true, true, true, true, true, true, true, true, true, true, true, true, true, true, false, false, false, false, false, false, false, false, false, false, false, false, false, false, false, false, false, false, false, false, false, false, false, false, false, false, false, false, false, false, false, false, false, false, false] rfl rfl (by kernel_rfl) (fun _ _ _ h => h) (Or.inl ⟨by rfl, ?_⟩) ?_ ?_
  rotate_left
  · intro w'
    go_simp
    with_reducible rfl
  rotate_left
  · simp only [Act.put, List.setIfInBounds_toArray, List.set_cons_zero, List.set_cons_succ, i64_w, i32_w]
    rfl
  refine pure_ (i := 23) (N := some 56) (v := ?_) (a' := ?_) #[true, true, true, true, true, true, true, true, true, true, true, true, true, true, true, true, true, true, true, true, true, true, true, true, false, false, false, false, false, false, false, false, false, false, false, false, false, false, false, false, false, false, false, false, false, false, false, false, false, false, false, false, false, false, false, false, false, false] rfl rfl (by kernel_rfl) (fun _ _ _ h => h) (Or.inl ⟨by rfl, ?_⟩) ?_ ?_
  rotate_left
  · intro w'
    go_simp
    with_reducible rfl
  rotate_left
  · simp only [Act.put, List.setIfInBounds_toArray, List.set_cons_zero, List.set_cons_succ, i64_w, i32_w]
    rfl
  refine pure_ (i := 24) (N := some 57) (v := ?_) (a' := ?_) #[true, true, true, true, true, true, true, true, true, true, true, true, true, true, true, true, true, true, true, true, true, true, true, true, true, false, false, false, false, false, false, false, false, false, false, false, false, false, false, false, false, false, false, false, false, false, false, false, false, false, false, false, false, false, false, false, false, false] rfl rfl (by kernel_rfl) (fun _ _ _ h => h) (Or.inl ⟨by rfl, ?_⟩) ?_ ?_
  rotate_left
  · intro w'
    go_simp
    with_reducible rfl
  rotate_left
  · simp only [Act.put, List.setIfInBounds_toArray, List.set_cons_zero, List.set_cons_succ, i64_w, i32_w]
    rfl
  refine one_ (i := 25) (N := some 58) #[true, true, true, true, true, true, true, true, true, true, true, true, true, true, true, true, true, true, true, true, true, true, true, true, true, true, false, false, false, false, false, false, false, false, false, false, false, false, false, false, false, false, false, false, false, false, false, false, false, false, false, false, false, false, false, false, false, false] rfl rfl (by kernel_rfl) (by decide) (fun K hK => ?_)
  refine goes_ Try.func11 (by kernel_rfl) rfl #[.agg #[.string ⟨#[]⟩, .bool false, .bool false, .bool false, .bool false, .bool false, .bool false, .slice none 0 0, .slice none 0 0, .bool false, .slice none 0 0]] (by rfl) rfl rfl (by simp only [List.map_toArray, List.map_cons, List.map_nil]; rfl) ?_
  with_reducible refine (fx_c2 _).mono ?_
  rintro e u7 ⟨rfl, hu7⟩
  refine ⟨_, rfl, ?_⟩
  have Ku7 := Aside0.mk hu7
  clear hu7
  refine hK.out _ _ ⟨pw_cell_below Ku7.out hHeld.1, pw_cell_below Ku7.out hHeld.2.1, pw_cell_below Ku7.out hHeld.2.2.1, pw_cell_below Ku7.out hHeld.2.2.2.1, pw_cell_below Ku7.out hHeld.2.2.2.2.1, pw_cell_below Ku7.out hHeld.2.2.2.2.2.1, pw_cell_below Ku7.out hHeld.2.2.2.2.2.2.1, pw_cell_below Ku7.out hHeld.2.2.2.2.2.2.2.1, pw_cell_below Ku7.out hHeld.2.2.2.2.2.2.2.2.1, pw_cell_below Ku7.out hHeld.2.2.2.2.2.2.2.2.2.1, pw_cell_below Ku7.out hHeld.2.2.2.2.2.2.2.2.2.2.1, pw_cell_below Ku7.out hHeld.2.2.2.2.2.2.2.2.2.2.2.1, pw_cell_below Ku7.out hHeld.2.2.2.2.2.2.2.2.2.2.2.2.1, pw_cell_below Ku7.out hHeld.2.2.2.2.2.2.2.2.2.2.2.2.2.1, pw_cell_below Ku7.out hHeld.2.2.2.2.2.2.2.2.2.2.2.2.2.2.1, pw_cell_below Ku7.out hHeld.2.2.2.2.2.2.2.2.2.2.2.2.2.2.2.1, pw_cell_below Ku7.out hHeld.2.2.2.2.2.2.2.2.2.2.2.2.2.2.2.2.1, pw_cell_below Ku7.out hHeld.2.2.2.2.2.2.2.2.2.2.2.2.2.2.2.2.2.1, pw_cell_below Ku7.out hHeld.2.2.2.2.2.2.2.2.2.2.2.2.2.2.2.2.2.2.1, pw_cell_below Ku7.out hHeld.2.2.2.2.2.2.2.2.2.2.2.2.2.2.2.2.2.2.2.1, pw_cell_below Ku7.out hHeld.2.2.2.2.2.2.2.2.2.2.2.2.2.2.2.2.2.2.2.2.1, pw_cell_below Ku7.out hHeld.2.2.2.2.2.2.2.2.2.2.2.2.2.2.2.2.2.2.2.2.2.1, pw_cell_below Ku7.out hHeld.2.2.2.2.2.2.2.2.2.2.2.2.2.2.2.2.2.2.2.2.2.2.1, pw_cell_below Ku7.out hHeld.2.2.2.2.2.2.2.2.2.2.2.2.2.2.2.2.2.2.2.2.2.2.2.1, pw_cell_below Ku7.out hHeld.2.2.2.2.2.2.2.2.2.2.2.2.2.2.2.2.2.2.2.2.2.2.2.2.1, pw_cell_below Ku7.out hHeld.2.2.2.2.2.2.2.2.2.2.2.2.2.2.2.2.2.2.2.2.2.2.2.2.2.1, pw_cell_below Ku7.out hHeld.2.2.2.2.2.2.2.2.2.2.2.2.2.2.2.2.2.2.2.2.2.2.2.2.2.2.1, pw_cell_below Ku7.out hHeld.2.2.2.2.2.2.2.2.2.2.2.2.2.2.2.2.2.2.2.2.2.2.2.2.2.2.2.1, pw_cell_below Ku7.out hHeld.2.2.2.2.2.2.2.2.2.2.2.2.2.2.2.2.2.2.2.2.2.2.2.2.2.2.2.2.1, pw_cell_below Ku7.out hHeld.2.2.2.2.2.2.2.2.2.2.2.2.2.2.2.2.2.2.2.2.2.2.2.2.2.2.2.2.2.1, pw_cell_below Ku7.out hHeld.2.2.2.2.2.2.2.2.2.2.2.2.2.2.2.2.2.2.2.2.2.2.2.2.2.2.2.2.2.2.1, pw_cell_below Ku7.out hHeld.2.2.2.2.2.2.2.2.2.2.2.2.2.2.2.2.2.2.2.2.2.2.2.2.2.2.2.2.2.2.2.1, pw_cell_below Ku7.out hHeld.2.2.2.2.2.2.2.2.2.2.2.2.2.2.2.2.2.2.2.2.2.2.2.2.2.2.2.2.2.2.2.2.1, below_step hHeld.2.2.2.2.2.2.2.2.2.2.2.2.2.2.2.2.2.2.2.2.2.2.2.2.2.2.2.2.2.2.2.2.2 Ku7.out⟩ (fun hHeld => ?_)
  clear hK K
  refine norm_ (a' := ?_) ?_ ?_
  rotate_left
  · show Act.put _ (some 58) _ = _
    simp only [Act.put, List.setIfInBounds_toArray, List.set_cons_zero, List.set_cons_succ, i64_w, i32_w]
    rfl
  refine pure_ (i := 26) (N := some 59) (v := ?_) (a' := ?_) #[true, true, true, true, true, true, true, true, true, true, true, true, true, true, true, true, true, true, true, true, true, true, true, true, true, true, true, false, false, false, false, false, false, false, false, false, false, false, false, false, false, false, false, false, false, false, false, false, false, false, false, false, false, false, false, false, false, false] rfl rfl (by kernel_rfl) (fun _ _ _ h => h) (Or.inl ⟨by rfl, ?_⟩) ?_ ?_
  rotate_left
  · intro w'
    go_simp
    with_reducible rfl
  rotate_left
  · simp only [Act.put, List.setIfInBounds_toArray, List.set_cons_zero, List.set_cons_succ, i64_w, i32_w]
    rfl
  refine pure_ (i := 27) (N := some 60) (v := ?_) (a' := ?_) #[true, true, true, true, true, true, true, true, true, true, true, true, true, true, true, true, true, true, true, true, true, true, true, true, true, true, true, true, false, false, false, false, false, false, false, false, false, false, false, false, false, false, false, false, false, false, false, false, false, false, false, false, false, false, false, false, false, false] rfl rfl (by kernel_rfl) (fun _ _ _ h => h) (Or.inl ⟨by rfl, ?_⟩) ?_ ?_
  rotate_left
  · intro w'
    go_simp
    with_reducible rfl
  rotate_left
  · simp only [Act.put, List.setIfInBounds_toArray, List.set_cons_zero, List.set_cons_succ, i64_w, i32_w]
    rfl
  refine pure_ (i := 28) (N := some 61) (v := ?_) (a' := ?_) #[true, true, true, true, true, true, true, true, true, true, true, true, true, true, true, true, true, true, true, true, true, true, true, true, true, true, true, true, true, false, false, false, false, false, false, false, false, false, false, false, false, false, false, false, false, false, false, false, false, false, false, false, false, false, false, false, false, false] rfl rfl (by kernel_rfl) (fun _ _ _ h => h) (Or.inl ⟨by rfl, ?_⟩) ?_ ?_
  rotate_left
  · intro w'
    go_simp
    with_reducible rfl
  rotate_left
  · simp only [Act.put, List.setIfInBounds_toArray, List.set_cons_zero, List.set_cons_succ, i64_w, i32_w]
    rfl
  refine pure_ (i := 29) (N := some 62) (v := ?_) (a' := ?_) #[true, true, true, true, true, true, true, true, true, true, true, true, true, true, true, true, true, true, true, true, true, true, true, true, true, true, true, true, true, true, false, false, false, false, false, false, false, false, false, false, false, false, false, false, false, false, false, false, false, false, false, false, false, false, false, false, false, false] rfl rfl (by kernel_rfl) (fun _ _ _ h => h) (Or.inl ⟨by rfl, ?_⟩) ?_ ?_
  rotate_left
  · intro w'
    go_simp
    with_reducible rfl
  rotate_left
  · simp only [Act.put, List.setIfInBounds_toArray, List.set_cons_zero, List.set_cons_succ, i64_w, i32_w]
    rfl
  refine pure_ (i := 30) (N := some 63) (v := ?_) (a' := ?_) #[true, true, true, true, true, true, true, true, true, true, true, true, true, true, true, true, true, true, true, true, true, true, true, true, true, true, true, true, true, true, true, false, false, false, false, false, false, false, false, false, false, false, false, false, false, false, false, false, false, false, false, false, false, false, false, false, false, false] rfl rfl (by kernel_rfl) (fun _ _ _ h => h) (Or.inl ⟨by rfl, ?_⟩) ?_ ?_
  rotate_left
  · intro w'
    go_simp
    with_reducible rfl
  rotate_left
  · simp only [Act.put, List.setIfInBounds_toArray, List.set_cons_zero, List.set_cons_succ, i64_w, i32_w]
    rfl
  refine pure_ (i := 31) (N := some 64) (v := ?_) (a' := ?_) #[true, true, true, true, true, true, true, true, true, true, true, true, true, true, true, true, true, true, true, true, true, true, true, true, true, true, true, true, true, true, true, true, false, false, false, false, false, false, false, false, false, false, false, false, false, false, false, false, false, false, false, false, false, false, false, false, false, false] rfl rfl (by kernel_rfl) (fun _ _ _ h => h) (Or.inl ⟨by rfl, ?_⟩) ?_ ?_
  rotate_left
  · intro w'
    go_simp
    with_reducible rfl
  rotate_left
  · simp only [Act.put, List.setIfInBounds_toArray, List.set_cons_zero, List.set_cons_succ, i64_w, i32_w]
    rfl
  refine pure_ (i := 32) (N := some 65) (v := ?_) (a' := ?_) #[true, true, true, true, true, true, true, true, true, true, true, true, true, true, true, true, true, true, true, true, true, true, true, true, true, true, true, true, true, true, true, true, true, false, false, false, false, false, false, false, false, false, false, false, false, false, false, false, false, false, false, false, false, false, false, false, false, false] rfl rfl (by kernel_rfl) (fun _ _ _ h => h) (Or.inl ⟨by rfl, ?_⟩) ?_ ?_
  rotate_left
  · intro w'
    go_simp
    with_reducible rfl
  rotate_left
  · simp only [Act.put, List.setIfInBounds_toArray, List.set_cons_zero, List.set_cons_succ, i64_w, i32_w]
    rfl
  refine pure_ (i := 33) (N := some 66) (v := ?_) (a' := ?_) #[true, true, true, true, true, true, true, true, true, true, true, true, true, true, true, true, true, true, true, true, true, true, true, true, true, true, true, true, true, true, true, true, true, true, false, false, false, false, false, false, false, false, false, false, false, false, false, false, false, false, false, false, false, false, false, false, false, false] rfl rfl (by kernel_rfl) (fun _ _ _ h => h) (Or.inl ⟨by rfl, ?_⟩) ?_ ?_
  rotate_left
  · intro w'
    go_simp
    with_reducible rfl
  rotate_left
  · simp only [Act.put, List.setIfInBounds_toArray, List.set_cons_zero, List.set_cons_succ, i64_w, i32_w]
    rfl
  refine pure_ (i := 34) (N := some 67) (v := ?_) (a' := ?_) #[true, true, true, true, true, true, true, true, true, true, true, true, true, true, true, true, true, true, true, true, true, true, true, true, true, true, true, true, true, true, true, true, true, true, true, false, false, false, false, false, false, false, false, false, false, false, false, false, false, false, false, false, false, false, false, false, false, false] rfl rfl (by kernel_rfl) (fun _ _ _ h => h) (Or.inl ⟨by rfl, ?_⟩) ?_ ?_
  rotate_left
  · intro w'
    go_simp
    with_reducible rfl
  rotate_left
  · simp only [Act.put, List.setIfInBounds_toArray, List.set_cons_zero, List.set_cons_succ, i64_w, i32_w]
    rfl
  refine pure_ (i := 35) (N := some 68) (v := ?_) (a' := ?_) #[true, true, true, true, true, true, true, true, true, true, true, true, true, true, true, true, true, true, true, true, true, true, true, true, true, true, true, true, true, true, true, true, true, true, true, true, false, false, false, false, false, false, false, false, false, false, false, false, false, false, false, false, false, false, false, false, false, false] rfl rfl (by kernel_rfl) (fun _ _ _ h => h) (Or.inl ⟨by rfl, ?_⟩) ?_ ?_
  rotate_left
  · intro w'
    go_simp
    with_reducible rfl
  rotate_left
  · simp only [Act.put, List.setIfInBounds_toArray, List.set_cons_zero, List.set_cons_succ, i64_w, i32_w]
    rfl
  refine pure_ (i := 36) (N := some 69) (v := ?_) (a' := ?_) #[true, true, true, true, true, true, true, true, true, true, true, true, true, true, true, true, true, true, true, true, true, true, true, true, true, true, true, true, true, true, true, true, true, true, true, true, true, false, false, false, false, false, false, false, false, false, false, false, false, false, false, false, false, false, false, false, false, false] rfl rfl (by kernel_rfl) (fun _ _ _ h => h) (Or.inl ⟨by rfl, ?_⟩) ?_ ?_
  rotate_left
  · intro w'
    go_simp
    with_reducible rfl
  rotate_left
  · simp only [Act.put, List.setIfInBounds_toArray, List.set_cons_zero, List.set_cons_succ, i64_w, i32_w]
    rfl
  refine pure_ (i := 38) (N := some 71) (v := ?_) (a' := ?_) #[true, true, true, true, true, true, true, true, true, true, true, true, true, true, true, true, true, true, true, true, true, true, true, true, true, true, true, true, true, true, true, true, true, true, true, true, true, false, true, false, false, false, false, false, false, false, false, false, false, false, false, false, false, false, false, false, false, false] rfl rfl (by kernel_rfl) (fun _ _ _ h => h) (Or.inl ⟨by rfl, ?_⟩) ?_ ?_
  rotate_left
  · intro w'
    go_simp
    with_reducible rfl
  rotate_left
  · simp only [Act.put, List.setIfInBounds_toArray, List.set_cons_zero, List.set_cons_succ, i64_w, i32_w]
    rfl
  refine take_ (i := 37) (N := some 70) (v := ?_) (a' := ?_) #[true, true, true, true, true, true, true, true, true, true, true, true, true, true, true, true, true, true, true, true, true, true, true, true, true, true, true, true, true, true, true, true, true, true, true, true, true, true, true, false, false, false, false, false, false, false, false, false, false, false, false, false, false, false, false, false, false, false] rfl rfl (by kernel_rfl) (fun _ _ _ h => h) (Or.inl ⟨by rfl, ?_⟩) hHeld ?_ ?_
  rotate_left
  · rintro w' ⟨s0, s1, s2, s3, s4, s5, s6, s7, s8, s9, s10, s11, s12, s13, s14, s15, s16, s17, s18, s19, s20, s21, s22, s23, s24, s25, s26, s27, s28, s29, s30, s31, s32, s33⟩
    go_simp
    with_reducible rfl
  rotate_left
  · simp only [Act.put, List.setIfInBounds_toArray, List.set_cons_zero, List.set_cons_succ, i64_w, i32_w]
    rfl
  refine one_ (i := 39) (N := some 72) #[true, true, true, true, true, true, true, true, true, true, true, true, true, true, true, true, true, true, true, true, true, true, true, true, true, true, true, true, true, true, true, true, true, true, true, true, true, true, true, true, false, false, false, false, false, false, false, false, false, false, false, false, false, false, false, false, false, false] rfl rfl (by kernel_rfl) (by decide) (fun K hK => ?_)
  refine goes_ Try.func13 (by kernel_rfl) rfl #[.agg #[.string ⟨#[2, 97, 113, 0, 0, 5]⟩, .bool false, .bool false, .bool false, .bool false, .bool false, .bool false, .slice none 0 0, .slice none 0 0, .bool false, .slice none 0 0], .string ⟨#[2, 97, 113, 0, 0, 5, 2, 97, 113, 0, 0, 6, 129, 0, 0, 7, 8, 0]⟩] (by rfl) rfl rfl (by simp only [List.map_toArray, List.map_cons, List.map_nil]; rfl) ?_
  with_reducible refine (fx_a4 _).mono ?_
  rintro e u8 ⟨rfl, hu8⟩
  refine ⟨_, rfl, ?_⟩
  have Ku8 := Aside0.mk hu8
  clear hu8
  refine hK.out _ _ ⟨pw_cell_below Ku8.out hHeld.1, pw_cell_below Ku8.out hHeld.2.1, pw_cell_below Ku8.out hHeld.2.2.1, pw_cell_below Ku8.out hHeld.2.2.2.1, pw_cell_below Ku8.out hHeld.2.2.2.2.1, pw_cell_below Ku8.out hHeld.2.2.2.2.2.1, pw_cell_below Ku8.out hHeld.2.2.2.2.2.2.1, pw_cell_below Ku8.out hHeld.2.2.2.2.2.2.2.1, pw_cell_below Ku8.out hHeld.2.2.2.2.2.2.2.2.1, pw_cell_below Ku8.out hHeld.2.2.2.2.2.2.2.2.2.1, pw_cell_below Ku8.out hHeld.2.2.2.2.2.2.2.2.2.2.1, pw_cell_below Ku8.out hHeld.2.2.2.2.2.2.2.2.2.2.2.1, pw_cell_below Ku8.out hHeld.2.2.2.2.2.2.2.2.2.2.2.2.1, pw_cell_below Ku8.out hHeld.2.2.2.2.2.2.2.2.2.2.2.2.2.1, pw_cell_below Ku8.out hHeld.2.2.2.2.2.2.2.2.2.2.2.2.2.2.1, pw_cell_below Ku8.out hHeld.2.2.2.2.2.2.2.2.2.2.2.2.2.2.2.1, pw_cell_below Ku8.out hHeld.2.2.2.2.2.2.2.2.2.2.2.2.2.2.2.2.1, pw_cell_below Ku8.out hHeld.2.2.2.2.2.2.2.2.2.2.2.2.2.2.2.2.2.1, pw_cell_below Ku8.out hHeld.2.2.2.2.2.2.2.2.2.2.2.2.2.2.2.2.2.2.1, pw_cell_below Ku8.out hHeld.2.2.2.2.2.2.2.2.2.2.2.2.2.2.2.2.2.2.2.1, pw_cell_below Ku8.out hHeld.2.2.2.2.2.2.2.2.2.2.2.2.2.2.2.2.2.2.2.2.1, pw_cell_below Ku8.out hHeld.2.2.2.2.2.2.2.2.2.2.2.2.2.2.2.2.2.2.2.2.2.1, pw_cell_below Ku8.out hHeld.2.2.2.2.2.2.2.2.2.2.2.2.2.2.2.2.2.2.2.2.2.2.1, pw_cell_below Ku8.out hHeld.2.2.2.2.2.2.2.2.2.2.2.2.2.2.2.2.2.2.2.2.2.2.2.1, pw_cell_below Ku8.out hHeld.2.2.2.2.2.2.2.2.2.2.2.2.2.2.2.2.2.2.2.2.2.2.2.2.1, pw_cell_below Ku8.out hHeld.2.2.2.2.2.2.2.2.2.2.2.2.2.2.2.2.2.2.2.2.2.2.2.2.2.1, pw_cell_below Ku8.out hHeld.2.2.2.2.2.2.2.2.2.2.2.2.2.2.2.2.2.2.2.2.2.2.2.2.2.2.1, pw_cell_below Ku8.out hHeld.2.2.2.2.2.2.2.2.2.2.2.2.2.2.2.2.2.2.2.2.2.2.2.2.2.2.2.1, pw_cell_below Ku8.out hHeld.2.2.2.2.2.2.2.2.2.2.2.2.2.2.2.2.2.2.2.2.2.2.2.2.2.2.2.2.1, pw_cell_below Ku8.out hHeld.2.2.2.2.2.2.2.2.2.2.2.2.2.2.2.2.2.2.2.2.2.2.2.2.2.2.2.2.2.1, pw_cell_below Ku8.out hHeld.2.2.2.2.2.2.2.2.2.2.2.2.2.2.2.2.2.2.2.2.2.2.2.2.2.2.2.2.2.2.1, pw_cell_below Ku8.out hHeld.2.2.2.2.2.2.2.2.2.2.2.2.2.2.2.2.2.2.2.2.2.2.2.2.2.2.2.2.2.2.2.1, pw_cell_below Ku8.out hHeld.2.2.2.2.2.2.2.2.2.2.2.2.2.2.2.2.2.2.2.2.2.2.2.2.2.2.2.2.2.2.2.2.1, below_step hHeld.2.2.2.2.2.2.2.2.2.2.2.2.2.2.2.2.2.2.2.2.2.2.2.2.2.2.2.2.2.2.2.2.2 Ku8.out⟩ (fun hHeld => ?_)
  clear hK K
  refine norm_ (a' := ?_) ?_ ?_
  rotate_left
  · show Act.put _ (some 72) _ = _
    simp only [Act.put, List.setIfInBounds_toArray, List.set_cons_zero, List.set_cons_succ, i64_w, i32_w]
    rfl
  refine pure_ (i := 40) (N := some 73) (v := ?_) (a' := ?_) #[true, true, true, true, true, true, true, true, true, true, true, true, true, true, true, true, true, true, true, true, true, true, true, true, true, true, true, true, true, true, true, true, true, true, true, true, true, true, true, true, true, false, false, false, false, false, false, false, false, false, false, false, false, false, false, false, false, false] rfl rfl (by kernel_rfl) (fun _ _ _ h => h) (Or.inl ⟨by rfl, ?_⟩) ?_ ?_
  rotate_left
  · intro w'
    go_simp
    with_reducible rfl
  rotate_left
  · simp only [Act.put, List.setIfInBounds_toArray, List.set_cons_zero, List.set_cons_succ, i64_w, i32_w]
    rfl
  refine pure_ (i := 41) (N := some 74) (v := ?_) (a' := ?_) #[true, true, true, true, true, true, true, true, true, true, true, true, true, true, true, true, true, true, true, true, true, true, true, true, true, true, true, true, true, true, true, true, true, true, true, true, true, true, true, true, true, true, false, false, false, false, false, false, false, false, false, false, false, false, false, false, false, false] rfl rfl (by kernel_rfl) (fun _ _ _ h => h) (Or.inl ⟨by rfl, ?_⟩) ?_ ?_
  rotate_left
  · intro w'
    go_simp
    with_reducible rfl
  rotate_left
  · simp only [Act.put, List.setIfInBounds_toArray, List.set_cons_zero, List.set_cons_succ, i64_w, i32_w]
    rfl
  refine pure_ (i := 43) (N := some 76) (v := ?_) (a' := ?_) #[true, true, true, true, true, true, true, true, true, true, true, true, true, true, true, true, true, true, true, true, true, true, true, true, true, true, true, true, true, true, true, true, true, true, true, true, true, true, true, true, true, true, false, true, false, false, false, false, false, false, false, false, false, false, false, false, false, false] rfl rfl (by kernel_rfl) (fun _ _ _ h => h) (Or.inl ⟨by rfl, ?_⟩) ?_ ?_
  rotate_left
  · intro w'
    go_simp
    with_reducible rfl
  rotate_left
  · simp only [Act.put, List.setIfInBounds_toArray, List.set_cons_zero, List.set_cons_succ, i64_w, i32_w]
    rfl
  refine take_ (i := 42) (N := some 75) (v := ?_) (a' := ?_) #[true, true, true, true, true, true, true, true, true, true, true, true, true, true, true, true, true, true, true, true, true, true, true, true, true, true, true, true, true, true, true, true, true, true, true, true, true, true, true, true, true, true, true, true, false, false, false, false, false, false, false, false, false, false, false, false, false, false] rfl rfl (by kernel_rfl) (fun _ _ _ h => h) (Or.inl ⟨by rfl, ?_⟩) hHeld ?_ ?_
  rotate_left
  · rintro w' ⟨s0, s1, s2, s3, s4, s5, s6, s7, s8, s9, s10, s11, s12, s13, s14, s15, s16, s17, s18, s19, s20, s21, s22, s23, s24, s25, s26, s27, s28, s29, s30, s31, s32, s33⟩
    go_simp
    with_reducible rfl
  rotate_left
  · simp only [Act.put, List.setIfInBounds_toArray, List.set_cons_zero, List.set_cons_succ, i64_w, i32_w]
    rfl
  refine one_ (i := 44) (N := some 77) #[true, true, true, true, true, true, true, true, true, true, true, true, true, true, true, true, true, true, true, true, true, true, true, true, true, true, true, true, true, true, true, true, true, true, true, true, true, true, true, true, true, true, true, true, true, false, false, false, false, false, false, false, false, false, false, false, false, false] rfl rfl (by kernel_rfl) (by decide) (fun K hK => ?_)
  refine goes_ Try.func13 (by kernel_rfl) rfl #[.agg #[.string ⟨#[2, 97, 113, 0, 0, 5]⟩, .bool false, .bool false, .bool false, .bool false, .bool false, .bool false, .slice none 0 0, .slice none 0 0, .bool true, .slice none 0 0], .string ⟨#[2, 97, 113, 0, 0, 5, 2, 97, 113, 0, 0, 6, 129, 0, 0, 7, 8, 0]⟩] (by rfl) rfl rfl (by simp only [List.map_toArray, List.map_cons, List.map_nil]; rfl) ?_
  with_reducible refine (fx_a5 _).mono ?_
  rintro e u9 ⟨rfl, hu9⟩
  refine ⟨_, rfl, ?_⟩
  have Ku9 := Aside0.mk hu9
  clear hu9
  refine hK.out _ _ ⟨pw_cell_below Ku9.out hHeld.1, pw_cell_below Ku9.out hHeld.2.1, pw_cell_below Ku9.out hHeld.2.2.1, pw_cell_below Ku9.out hHeld.2.2.2.1, pw_cell_below Ku9.out hHeld.2.2.2.2.1, pw_cell_below Ku9.out hHeld.2.2.2.2.2.1, pw_cell_below Ku9.out hHeld.2.2.2.2.2.2.1, pw_cell_below Ku9.out hHeld.2.2.2.2.2.2.2.1, pw_cell_below Ku9.out hHeld.2.2.2.2.2.2.2.2.1, pw_cell_below Ku9.out hHeld.2.2.2.2.2.2.2.2.2.1, pw_cell_below Ku9.out hHeld.2.2.2.2.2.2.2.2.2.2.1, pw_cell_below Ku9.out hHeld.2.2.2.2.2.2.2.2.2.2.2.1, pw_cell_below Ku9.out hHeld.2.2.2.2.2.2.2.2.2.2.2.2.1, pw_cell_below Ku9.out hHeld.2.2.2.2.2.2.2.2.2.2.2.2.2.1, pw_cell_below Ku9.out hHeld.2.2.2.2.2.2.2.2.2.2.2.2.2.2.1, pw_cell_below Ku9.out hHeld.2.2.2.2.2.2.2.2.2.2.2.2.2.2.2.1, pw_cell_below Ku9.out hHeld.2.2.2.2.2.2.2.2.2.2.2.2.2.2.2.2.1, pw_cell_below Ku9.out hHeld.2.2.2.2.2.2.2.2.2.2.2.2.2.2.2.2.2.1, pw_cell_below Ku9.out hHeld.2.2.2.2.2.2.2.2.2.2.2.2.2.2.2.2.2.2.1, pw_cell_below Ku9.out hHeld.2.2.2.2.2.2.2.2.2.2.2.2.2.2.2.2.2.2.2.1, pw_cell_below Ku9.out hHeld.2.2.2.2.2.2.2.2.2.2.2.2.2.2.2.2.2.2.2.2.1, pw_cell_below Ku9.out hHeld.2.2.2.2.2.2.2.2.2.2.2.2.2.2.2.2.2.2.2.2.2.1, pw_cell_below Ku9.out hHeld.2.2.2.2.2.2.2.2.2.2.2.2.2.2.2.2.2.2.2.2.2.2.1, pw_cell_below Ku9.out hHeld.2.2.2.2.2.2.2.2.2.2.2.2.2.2.2.2.2.2.2.2.2.2.2.1, pw_cell_below Ku9.out hHeld.2.2.2.2.2.2.2.2.2.2.2.2.2.2.2.2.2.2.2.2.2.2.2.2.1, pw_cell_below Ku9.out hHeld.2.2.2.2.2.2.2.2.2.2.2.2.2.2.2.2.2.2.2.2.2.2.2.2.2.1, pw_cell_below Ku9.out hHeld.2.2.2.2.2.2.2.2.2.2.2.2.2.2.2.2.2.2.2.2.2.2.2.2.2.2.1, pw_cell_below Ku9.out hHeld.2.2.2.2.2.2.2.2.2.2.2.2.2.2.2.2.2.2.2.2.2.2.2.2.2.2.2.1, pw_cell_below Ku9.out hHeld.2.2.2.2.2.2.2.2.2.2.2.2.2.2.2.2.2.2.2.2.2.2.2.2.2.2.2.2.1, pw_cell_below Ku9.out hHeld.2.2.2.2.2.2.2.2.2.2.2.2.2.2.2.2.2.2.2.2.2.2.2.2.2.2.2.2.2.1, pw_cell_below Ku9.out hHeld.2.2.2.2.2.2.2.2.2.2.2.2.2.2.2.2.2.2.2.2.2.2.2.2.2.2.2.2.2.2.1, pw_cell_below Ku9.out hHeld.2.2.2.2.2.2.2.2.2.2.2.2.2.2.2.2.2.2.2.2.2.2.2.2.2.2.2.2.2.2.2.1, pw_cell_below Ku9.out hHeld.2.2.2.2.2.2.2.2.2.2.2.2.2.2.2.2.2.2.2.2.2.2.2.2.2.2.2.2.2.2.2.2.1, below_step hHeld.2.2.2.2.2.2.2.2.2.2.2.2.2.2.2.2.2.2.2.2.2.2.2.2.2.2.2.2.2.2.2.2.2 Ku9.out⟩ (fun hHeld => ?_)
  clear hK K
  refine norm_ (a' := ?_) ?_ ?_
  rotate_left
  · show Act.put _ (some 77) _ = _
    simp only [Act.put, List.setIfInBounds_toArray, List.set_cons_zero, List.set_cons_succ, i64_w, i32_w]
    rfl
  refine pure_ (i := 45) (N := some 78) (v := ?_) (a' := ?_) #[true, true, true, true, true, true, true, true, true, true, true, true, true, true, true, true, true, true, true, true, true, true, true, true, true, true, true, true, true, true, true, true, true, true, true, true, true, true, true, true, true, true, true, true, true, true, false, false, false, false, false, false, false, false, false, false, false, false] rfl rfl (by kernel_rfl) (fun _ _ _ h => h) (Or.inl ⟨by rfl, ?_⟩) ?_ ?_
  rotate_left
  · intro w'
    go_simp
    with_reducible rfl
  rotate_left
  · simp only [Act.put, List.setIfInBounds_toArray, List.set_cons_zero, List.set_cons_succ, i64_w, i32_w]
    rfl
  refine pure_ (i := 46) (N := some 79) (v := ?_) (a' := ?_) #[true, true, true, true, true, true, true, true, true, true, true, true, true, true, true, true, true, true, true, true, true, true, true, true, true, true, true, true, true, true, true, true, true, true, true, true, true, true, true, true, true, true, true, true, true, true, true, false, false, false, false, false, false, false, false, false, false, false] rfl rfl (by kernel_rfl) (fun _ _ _ h => h) (Or.inl ⟨by rfl, ?_⟩) ?_ ?_
  rotate_left
  · intro w'
    go_simp
    with_reducible rfl
  rotate_left
  · simp only [Act.put, List.setIfInBounds_toArray, List.set_cons_zero, List.set_cons_succ, i64_w, i32_w]
    rfl
  refine pure_ (i := 47) (N := some 80) (v := ?_) (a' := ?_) #[true, true, true, true, true, true, true, true, true, true, true, true, true, true, true, true, true, true, true, true, true, true, true, true, true, true, true, true, true, true, true, true, true, true, true, true, true, true, true, true, true, true, true, true, true, true, true, true, false, false, false, false, false, false, false, false, false, false] rfl rfl (by kernel_rfl) (fun _ _ _ h => h) (Or.inl ⟨by rfl, ?_⟩) ?_ ?_
  rotate_left
  · intro w'
    go_simp
    with_reducible rfl
  rotate_left
  · simp only [Act.put, List.setIfInBounds_toArray, List.set_cons_zero, List.set_cons_succ, i64_w, i32_w]
    rfl
  refine pure_ (i := 49) (N := some 82) (v := ?_) (a' := ?_) #[true, true, true, true, true, true, true, true, true, true, true, true, true, true, true, true, true, true, true, true, true, true, true, true, true, true, true, true, true, true, true, true, true, true, true, true, true, true, true, true, true, true, true, true, true, true, true, true, false, true, false, false, false, false, false, false, false, false] rfl rfl (by kernel_rfl) (fun _ _ _ h => h) (Or.inl ⟨by rfl, ?_⟩) ?_ ?_
  rotate_left
  · intro w'
    go_simp
    with_reducible rfl
  rotate_left
  · simp only [Act.put, List.setIfInBounds_toArray, List.set_cons_zero, List.set_cons_succ, i64_w, i32_w]
    rfl
  refine take_ (i := 48) (N := some 81) (v := ?_) (a' := ?_) #[true, true, true, true, true, true, true, true, true, true, true, true, true, true, true, true, true, true, true, true, true, true, true, true, true, true, true, true, true, true, true, true, true, true, true, true, true, true, true, true, true, true, true, true, true, true, true, true, true, true, false, false, false, false, false, false, false, false] rfl rfl (by kernel_rfl) (fun _ _ _ h => h) (Or.inl ⟨by rfl, ?_⟩) hHeld ?_ ?_
  rotate_left
  · rintro w' ⟨s0, s1, s2, s3, s4, s5, s6, s7, s8, s9, s10, s11, s12, s13, s14, s15, s16, s17, s18, s19, s20, s21, s22, s23, s24, s25, s26, s27, s28, s29, s30, s31, s32, s33⟩
    go_simp
    with_reducible rfl
  rotate_left
  · simp only [Act.put, List.setIfInBounds_toArray, List.set_cons_zero, List.set_cons_succ, i64_w, i32_w]
    rfl
  refine one_ (i := 50) (N := some 83) #[true, true, true, true, true, true, true, true, true, true, true, true, true, true, true, true, true, true, true, true, true, true, true, true, true, true, true, true, true, true, true, true, true, true, true, true, true, true, true, true, true, true, true, true, true, true, true, true, true, true, true, false, false, false, false, false, false, false] rfl rfl (by kernel_rfl) (by decide) (fun K hK => ?_)
  refine goes_ Try.func13 (by kernel_rfl) rfl #[.agg #[.string ⟨#[2, 97, 113, 0, 0, 5]⟩, .bool false, .bool false, .bool false, .bool false, .bool false, .bool false, .slice X7 0 y7, .slice X8 0 y8, .bool true, .slice X 1 y], .string ⟨#[2, 97, 113, 0, 0, 5, 2, 97, 113, 0, 0, 6, 129, 0, 0, 7, 8, 0]⟩] (by rfl) rfl rfl (by simp only [List.map_toArray, List.map_cons, List.map_nil]; rfl) ?_
  with_reducible refine (fx_a6 X7 X8 X y7 y8 y _ (fx_on (O18_g.out.fv.below hHeld.2.2.2.2.2.2.2.2.2.2.2.2.2.2.2.2.2.2.2.2.2.2.2.2.2.2.2.2.2.2.2.2.2))).mono ?_
  rintro e u10 ⟨rfl, hu10⟩
  refine ⟨_, rfl, ?_⟩
  have Ku10 := Aside0.mk hu10
  clear hu10
  refine hK.out _ _ ⟨pw_cell_below Ku10.out hHeld.1, pw_cell_below Ku10.out hHeld.2.1, pw_cell_below Ku10.out hHeld.2.2.1, pw_cell_below Ku10.out hHeld.2.2.2.1, pw_cell_below Ku10.out hHeld.2.2.2.2.1, pw_cell_below Ku10.out hHeld.2.2.2.2.2.1, pw_cell_below Ku10.out hHeld.2.2.2.2.2.2.1, pw_cell_below Ku10.out hHeld.2.2.2.2.2.2.2.1, pw_cell_below Ku10.out hHeld.2.2.2.2.2.2.2.2.1, pw_cell_below Ku10.out hHeld.2.2.2.2.2.2.2.2.2.1, pw_cell_below Ku10.out hHeld.2.2.2.2.2.2.2.2.2.2.1, pw_cell_below Ku10.out hHeld.2.2.2.2.2.2.2.2.2.2.2.1, pw_cell_below Ku10.out hHeld.2.2.2.2.2.2.2.2.2.2.2.2.1, pw_cell_below Ku10.out hHeld.2.2.2.2.2.2.2.2.2.2.2.2.2.1, pw_cell_below Ku10.out hHeld.2.2.2.2.2.2.2.2.2.2.2.2.2.2.1, pw_cell_below Ku10.out hHeld.2.2.2.2.2.2.2.2.2.2.2.2.2.2.2.1, pw_cell_below Ku10.out hHeld.2.2.2.2.2.2.2.2.2.2.2.2.2.2.2.2.1, pw_cell_below Ku10.out hHeld.2.2.2.2.2.2.2.2.2.2.2.2.2.2.2.2.2.1, pw_cell_below Ku10.out hHeld.2.2.2.2.2.2.2.2.2.2.2.2.2.2.2.2.2.2.1, pw_cell_below Ku10.out hHeld.2.2.2.2.2.2.2.2.2.2.2.2.2.2.2.2.2.2.2.1, pw_cell_below Ku10.out hHeld.2.2.2.2.2.2.2.2.2.2.2.2.2.2.2.2.2.2.2.2.1, pw_cell_below Ku10.out hHeld.2.2.2.2.2.2.2.2.2.2.2.2.2.2.2.2.2.2.2.2.2.1, pw_cell_below Ku10.out hHeld.2.2.2.2.2.2.2.2.2.2.2.2.2.2.2.2.2.2.2.2.2.2.1, pw_cell_below Ku10.out hHeld.2.2.2.2.2.2.2.2.2.2.2.2.2.2.2.2.2.2.2.2.2.2.2.1, pw_cell_below Ku10.out hHeld.2.2.2.2.2.2.2.2.2.2.2.2.2.2.2.2.2.2.2.2.2.2.2.2.1, pw_cell_below Ku10.out hHeld.2.2.2.2.2.2.2.2.2.2.2.2.2.2.2.2.2.2.2.2.2.2.2.2.2.1, pw_cell_below Ku10.out hHeld.2.2.2.2.2.2.2.2.2.2.2.2.2.2.2.2.2.2.2.2.2.2.2.2.2.2.1, pw_cell_below Ku10.out hHeld.2.2.2.2.2.2.2.2.2.2.2.2.2.2.2.2.2.2.2.2.2.2.2.2.2.2.2.1, pw_cell_below Ku10.out hHeld.2.2.2.2.2.2.2.2.2.2.2.2.2.2.2.2.2.2.2.2.2.2.2.2.2.2.2.2.1, pw_cell_below Ku10.out hHeld.2.2.2.2.2.2.2.2.2.2.2.2.2.2.2.2.2.2.2.2.2.2.2.2.2.2.2.2.2.1, pw_cell_below Ku10.out hHeld.2.2.2.2.2.2.2.2.2.2.2.2.2.2.2.2.2.2.2.2.2.2.2.2.2.2.2.2.2.2.1, pw_cell_below Ku10.out hHeld.2.2.2.2.2.2.2.2.2.2.2.2.2.2.2.2.2.2.2.2.2.2.2.2.2.2.2.2.2.2.2.1, pw_cell_below Ku10.out hHeld.2.2.2.2.2.2.2.2.2.2.2.2.2.2.2.2.2.2.2.2.2.2.2.2.2.2.2.2.2.2.2.2.1, below_step hHeld.2.2.2.2.2.2.2.2.2.2.2.2.2.2.2.2.2.2.2.2.2.2.2.2.2.2.2.2.2.2.2.2.2 Ku10.out⟩ (fun hHeld => ?_)
  clear hK K
  refine norm_ (a' := ?_) ?_ ?_
  rotate_left
  · show Act.put _ (some 83) _ = _
    simp only [Act.put, List.setIfInBounds_toArray, List.set_cons_zero, List.set_cons_succ, i64_w, i32_w]
    rfl
  refine pure_ (i := 51) (N := some 84) (v := ?_) (a' := ?_) #[true, true, true, true, true, true, true, true, true, true, true, true, true, true, true, true, true, true, true, true, true, true, true, true, true, true, true, true, true, true, true, true, true, true, true, true, true, true, true, true, true, true, true, true, true, true, true, true, true, true, true, true, false, false, false, false, false, false] rfl rfl (by kernel_rfl) (fun _ _ _ h => h) (Or.inl ⟨by rfl, ?_⟩) ?_ ?_
  rotate_left
  · intro w'
    go_simp
    with_reducible rfl
  rotate_left
  · simp only [Act.put, List.setIfInBounds_toArray, List.set_cons_zero, List.set_cons_succ, i64_w, i32_w]
    rfl
  refine pure_ (i := 52) (N := some 85) (v := ?_) (a' := ?_) #[true, true, true, true, true, true, true, true, true, true, true, true, true, true, true, true, true, true, true, true, true, true, true, true, true, true, true, true, true, true, true, true, true, true, true, true, true, true, true, true, true, true, true, true, true, true, true, true, true, true, true, true, true, false, false, false, false, false] rfl rfl (by kernel_rfl) (fun _ _ _ h => h) (Or.inl ⟨by rfl, ?_⟩) ?_ ?_
  rotate_left
  · intro w'
    go_simp
    with_reducible rfl
  rotate_left
  · simp only [Act.put, List.setIfInBounds_toArray, List.set_cons_zero, List.set_cons_succ, i64_w, i32_w]
    rfl
  refine take_ (i := 53) (N := some 86) (v := ?_) (a' := ?_) #[true, true, true, true, true, true, true, true, true, true, true, true, true, true, true, true, true, true, true, true, true, true, true, true, true, true, true, true, true, true, true, true, true, true, true, true, true, true, true, true, true, true, true, true, true, true, true, true, true, true, true, true, true, true, false, false, false, false] rfl rfl (by kernel_rfl) (fun _ _ _ h => h) (Or.inl ⟨by rfl, ?_⟩) hHeld ?_ ?_
  rotate_left
  · rintro w' ⟨s0, s1, s2, s3, s4, s5, s6, s7, s8, s9, s10, s11, s12, s13, s14, s15, s16, s17, s18, s19, s20, s21, s22, s23, s24, s25, s26, s27, s28, s29, s30, s31, s32, s33⟩
    go_simp
    with_reducible rfl
  rotate_left
  · simp only [Act.put, List.setIfInBounds_toArray, List.set_cons_zero, List.set_cons_succ, i64_w, i32_w]
    rfl
  refine one_ (i := 54) (N := some 87) #[true, true, true, true, true, true, true, true, true, true, true, true, true, true, true, true, true, true, true, true, true, true, true, true, true, true, true, true, true, true, true, true, true, true, true, true, true, true, true, true, true, true, true, true, true, true, true, true, true, true, true, true, true, true, true, false, false, false] rfl rfl (by kernel_rfl) (by decide) (fun K hK => ?_)
  refine goes_ Try.func13 (by kernel_rfl) rfl #[.agg #[.string ⟨#[2, 97, 113, 0, 0, 5]⟩, .bool false, .bool false, .bool false, .bool false, .bool false, .bool false, .slice none 0 0, .slice none 0 0, .bool false, .slice none 0 0], .string ⟨#[115, 104, 111, 114, 116]⟩] (by rfl) rfl rfl (by simp only [List.map_toArray, List.map_cons, List.map_nil]; rfl) ?_
  with_reducible refine (fx_a7 _).mono ?_
  rintro e u11 ⟨rfl, hu11⟩
  refine ⟨_, rfl, ?_⟩
  have Ku11 := Aside0.mk hu11
  clear hu11
  refine hK.out _ _ ⟨pw_cell_below Ku11.out hHeld.1, pw_cell_below Ku11.out hHeld.2.1, pw_cell_below Ku11.out hHeld.2.2.1, pw_cell_below Ku11.out hHeld.2.2.2.1, pw_cell_below Ku11.out hHeld.2.2.2.2.1, pw_cell_below Ku11.out hHeld.2.2.2.2.2.1, pw_cell_below Ku11.out hHeld.2.2.2.2.2.2.1, pw_cell_below Ku11.out hHeld.2.2.2.2.2.2.2.1, pw_cell_below Ku11.out hHeld.2.2.2.2.2.2.2.2.1, pw_cell_below Ku11.out hHeld.2.2.2.2.2.2.2.2.2.1, pw_cell_below Ku11.out hHeld.2.2.2.2.2.2.2.2.2.2.1, pw_cell_below Ku11.out hHeld.2.2.2.2.2.2.2.2.2.2.2.1, pw_cell_below Ku11.out hHeld.2.2.2.2.2.2.2.2.2.2.2.2.1, pw_cell_below Ku11.out hHeld.2.2.2.2.2.2.2.2.2.2.2.2.2.1, pw_cell_below Ku11.out hHeld.2.2.2.2.2.2.2.2.2.2.2.2.2.2.1, pw_cell_below Ku11.out hHeld.2.2.2.2.2.2.2.2.2.2.2.2.2.2.2.1, pw_cell_below Ku11.out hHeld.2.2.2.2.2.2.2.2.2.2.2.2.2.2.2.2.1, pw_cell_below Ku11.out hHeld.2.2.2.2.2.2.2.2.2.2.2.2.2.2.2.2.2.1, pw_cell_below Ku11.out hHeld.2.2.2.2.2.2.2.2.2.2.2.2.2.2.2.2.2.2.1, pw_cell_below Ku11.out hHeld.2.2.2.2.2.2.2.2.2.2.2.2.2.2.2.2.2.2.2.1, pw_cell_below Ku11.out hHeld.2.2.2.2.2.2.2.2.2.2.2.2.2.2.2.2.2.2.2.2.1, pw_cell_below Ku11.out hHeld.2.2.2.2.2.2.2.2.2.2.2.2.2.2.2.2.2.2.2.2.2.1, pw_cell_below Ku11.out hHeld.2.2.2.2.2.2.2.2.2.2.2.2.2.2.2.2.2.2.2.2.2.2.1, pw_cell_below Ku11.out hHeld.2.2.2.2.2.2.2.2.2.2.2.2.2.2.2.2.2.2.2.2.2.2.2.1, pw_cell_below Ku11.out hHeld.2.2.2.2.2.2.2.2.2.2.2.2.2.2.2.2.2.2.2.2.2.2.2.2.1, pw_cell_below Ku11.out hHeld.2.2.2.2.2.2.2.2.2.2.2.2.2.2.2.2.2.2.2.2.2.2.2.2.2.1, pw_cell_below Ku11.out hHeld.2.2.2.2.2.2.2.2.2.2.2.2.2.2.2.2.2.2.2.2.2.2.2.2.2.2.1, pw_cell_below Ku11.out hHeld.2.2.2.2.2.2.2.2.2.2.2.2.2.2.2.2.2.2.2.2.2.2.2.2.2.2.2.1, pw_cell_below Ku11.out hHeld.2.2.2.2.2.2.2.2.2.2.2.2.2.2.2.2.2.2.2.2.2.2.2.2.2.2.2.2.1, pw_cell_below Ku11.out hHeld.2.2.2.2.2.2.2.2.2.2.2.2.2.2.2.2.2.2.2.2.2.2.2.2.2.2.2.2.2.1, pw_cell_below Ku11.out hHeld.2.2.2.2.2.2.2.2.2.2.2.2.2.2.2.2.2.2.2.2.2.2.2.2.2.2.2.2.2.2.1, pw_cell_below Ku11.out hHeld.2.2.2.2.2.2.2.2.2.2.2.2.2.2.2.2.2.2.2.2.2.2.2.2.2.2.2.2.2.2.2.1, pw_cell_below Ku11.out hHeld.2.2.2.2.2.2.2.2.2.2.2.2.2.2.2.2.2.2.2.2.2.2.2.2.2.2.2.2.2.2.2.2.1, below_step hHeld.2.2.2.2.2.2.2.2.2.2.2.2.2.2.2.2.2.2.2.2.2.2.2.2.2.2.2.2.2.2.2.2.2 Ku11.out⟩ (fun hHeld => ?_)
  clear hK K
  refine norm_ (a' := ?_) ?_ ?_
  rotate_left
  · show Act.put _ (some 87) _ = _
    simp only [Act.put, List.setIfInBounds_toArray, List.set_cons_zero, List.set_cons_succ, i64_w, i32_w]
    rfl
  refine pure_ (i := 55) (N := some 88) (v := ?_) (a' := ?_) #[true, true, true, true, true, true, true, true, true, true, true, true, true, true, true, true, true, true, true, true, true, true, true, true, true, true, true, true, true, true, true, true, true, true, true, true, true, true, true, true, true, true, true, true, true, true, true, true, true, true, true, true, true, true, true, true, false, false] rfl rfl (by kernel_rfl) (fun _ _ _ h => h) (Or.inl ⟨by rfl, ?_⟩) ?_ ?_
  rotate_left
  · intro w'
    go_simp
    with_reducible rfl
  rotate_left
  · simp only [Act.put, List.setIfInBounds_toArray, List.set_cons_zero, List.set_cons_succ, i64_w, i32_w]
    rfl
  refine pure_ (i := 56) (N := some 89) (v := ?_) (a' := ?_) #[true, true, true, true, true, true, true, true, true, true, true, true, true, true, true, true, true, true, true, true, true, true, true, true, true, true, true, true, true, true, true, true, true, true, true, true, true, true, true, true, true, true, true, true, true, true, true, true, true, true, true, true, true, true, true, true, true, false] rfl rfl (by kernel_rfl) (fun _ _ _ h => h) (Or.inl ⟨by rfl, ?_⟩) ?_ ?_
  rotate_left
  · intro w'
    go_simp
    with_reducible rfl
  rotate_left
  · simp only [Act.put, List.setIfInBounds_toArray, List.set_cons_zero, List.set_cons_succ, i64_w, i32_w]
    rfl
  refine pure_ (i := 57) (N := some 0) (v := ?_) (a' := ?_) #[true, true, true, true, true, true, true, true, true, true, true, true, true, true, true, true, true, true, true, true, true, true, true, true, true, true, true, true, true, true, true, true, true, true, true, true, true, true, true, true, true, true, true, true, true, true, true, true, true, true, true, true, true, true, true, true, true, true] rfl rfl (by kernel_rfl) (fun _ _ _ h => h) (Or.inl ⟨by rfl, ?_⟩) ?_ ?_
  rotate_left
  · intro w'
    go_simp
    with_reducible rfl
  rotate_left
  · simp only [Act.put, List.setIfInBounds_toArray, List.set_cons_zero, List.set_cons_succ, i64_w, i32_w]
    rfl
  refine done_ (by kernel_rfl) ?_
  go_wp2
  go_ret
  exact ⟨rfl, below_step B18.out hHeld.2.2.2.2.2.2.2.2.2.2.2.2.2.2.2.2.2.2.2.2.2.2.2.2.2.2.2.2.2.2.2.2.2⟩
end Go.Proofs.Ytnckogdplcijiaa.Fl
