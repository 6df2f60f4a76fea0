/- Commands and settings: contracts by hand, and the laws over them. -/
import Derived.Test.YtkgbhlcbjflnlaaZOwn
import Derived.Test.YtkgbhlcbjflnlaaZOwc
import Derived.Test.YtkgbhlcbjflnlaaZBs
namespace Go.Proofs.Ytkgbhlcbjflnlaa.Fl
open Go Go.RowKit Go.Proofs.YtkgbhlcbjflnlaaW.PrintWords Go.Proofs.YtkgbhlcbjflnlaaW.PrintLast Go.Proofs.YtkgbhlcbjflnlaaW.PrintMore Go.Proofs.Ytkgbhlcbjflnlaa.Mth Go.Proofs.Ytkgbhlcbjflnlaa.P Go.Proofs.Ytkgbhlcbjflnlaa.Own Go.Proofs
set_option linter.unusedVariables false
set_option linter.unusedSimpArgs false
/-! ### 'own' and 'fixed' -/
theorem res37 (tmps : Array Value) (w : World) (g : Nat) (c0 c1 c2 c3 c4 c5 c6 c7 c8 c9 c10 : Value) (hp : tmps.getD 0 undef = .pointer (some ⟨g, 0, none⟩)) (hg : w.heap[g]? = some (.cells #[c0, c1, c2, c3, c4, c5, c6, c7, c8, c9, c10] 25 (0, 0))) :
    (results Try.f37 tmps).run Try.prog w = .ok (.agg #[c0, c1, c2, c3, c4, c5, c6, c7, c8, c9, c10]) w := by
  have q_ : tmps[0]?.getD undef = .pointer (some ⟨g, 0, none⟩) := by simpa using hp
  have l_ := run_loadVar_row (P := Try.prog) w g 25 25 _ (0, 0) _ hg Try.underlying25 rfl (by kernel_rfl)
  simp [results, Try.results37, q_, asAddr, l_]
set_option maxHeartbeats 16000000 in
set_option maxRecDepth 100000 in
theorem own_c (w : World) : Calls Try.prog 37 #[] w fun e w' => e = .returned (.agg (cellsF ownF nilSl)) ∧ Below w.heap.size w w' := by
  have hu25 := Try.underlying25
  go_enter Try.func37, Try.ntmps37
  go_upto_region 1 with (fail)
  go_wp2_with (refine wpList_store_row rfl 25 (.tmp 0) (.tmp 1) rfl w.heap.size (cellsF ownF nilSl) rfl rfl 25 #[.string ⟨#[]⟩, .bool false, .bool false, .bool false, .bool false, .bool false, .bool false, .slice none 0 0, .slice none 0 0, .bool false, .slice none 0 0] (blk_new w _) (by kernel_rfl) rfl (by kernel_rfl) ?_)
  refine bodyPost_ret (res37 _ _ w.heap.size _ _ _ _ _ _ _ _ _ _ _ rfl (setRow_heap _ w.heap.size _ (cellsF ownF nilSl) 25 (0, 0) (blk_new w _))) rfl ⟨rfl, ?_⟩
  exact (below_alloc (Below.refl _ _) _).trans ((Upd.setRow (Upd.refl (w.alloc (.cells #[.string ⟨#[]⟩, .bool false, .bool false, .bool false, .bool false, .bool false, .bool false, .slice none 0 0, .slice none 0 0, .bool false, .slice none 0 0] 25)) (fun k => k = w.heap.size)) (.inl rfl) (cellsF ownF nilSl)).toBelow (B := w.heap.size) (fun k hk => by rw [hk]; exact Nat.le_refl _) (by simp))

set_option maxHeartbeats 16000000 in
set_option maxRecDepth 100000 in
theorem fixed_c (w : World) : Calls Try.prog 13 #[] w fun e w' => e = .returned (.bool true) ∧ Below w.heap.size w w' := by
  obtain ⟨DA, hDA⟩ : ∃ D, D = ({ ownC with F := { ownF with b1 := true } } : Cfg) := ⟨_, rfl⟩
  have ha := own_a
  rw [← hDA] at ha
  have fa : DA.F.b1 = true := by rw [hDA]
  obtain ⟨DD, hDD⟩ : ∃ D, D = ({ ownC with F := { ownF with vs := [7] } } : Cfg) := ⟨_, rfl⟩
  have hd := own_d
  rw [← hDD] at hd
  have fd : DD.F.vs = [7] := by rw [hDD]
  obtain ⟨DH, hDH⟩ : ∃ D, D = ({ ownC with p := 4, on := false } : Cfg) := ⟨_, rfl⟩
  have hh := own_h
  rw [← hDH] at hh
  have fh : DH.p = 4 := by rw [hDH]
  have hb0 := own_b
  have hj := own_j
  have hk := own_k
  have NCV : ∀ w : World, CV w ownC nilC := own_cv
  have NSM : SmallC ownC := own_small
  have NQ : ∀ (A : Option Addr) (c : Nat) (A2 : Option Addr) (w : World), ReadsOf (Value.int .i64) 0 w A DD.F.vs.length DD.F.vs → DD.F.vs.length ≤ c → ReadsOf (Value.int .i64) 0 w A2 1 [7] → Calls Try.prog 25 #[.slice A DD.F.vs.length c, .slice A2 1 1] w fun e w' => e = .returned (.bool true) ∧ Below w.heap.size w w' := by
    intro A c A2 w h1 h2 h3
    rw [fd] at h1 h2 ⊢
    exact rsame11 [7] A c A2 1 w h1 h2 h3 (Nat.le_refl _) (by decide)
  have NP4 : ∀ w, Calls Try.prog 17 #[.int .i64 4] w fun e w' => e = .returned (.string (pairsB 4)) ∧ Below w.heap.size w w' := fun w => pairs_cmd 4 w (by decide)
  have NP5 : ∀ w, Calls Try.prog 17 #[.int .i64 5] w fun e w' => e = .returned (.string (pairsB 5)) ∧ Below w.heap.size w w' := fun w => pairs_cmd 5 w (by decide)
  have NRX : ∀ w, Calls Try.prog 14 #[.int .i64 2, .bool true] w fun e w' => e = .returned (.string ⟨#[0, 2, 1]⟩) ∧ Below w.heap.size w w' := fun w => by
    have q := rx_cmd 2 true w (by decide)
    rw [show rxB 2 true = (⟨#[0, 2, 1]⟩ : ByteArray) from B_inj (by decide)] at q
    exact q
  have NVL : ∀ w, Calls Try.prog 15 #[.int .i64 258, .bool false] w fun e w' => e = .returned (.string ⟨#[2, 1, 2, 1]⟩) ∧ Below w.heap.size w w' := fun w => by
    have q := vlan_cmd 258 false w (by decide)
    rw [show vlanB 258 false = (⟨#[2, 1, 2, 1]⟩ : ByteArray) from B_inj (by decide)] at q
    exact q
  have PA := Aside0.mk ha
  have PB := Aside0.mk hb0
  have PD := Aside0.mk hd
  have PH := Aside0.mk hh
  have PJ := Aside0.mk hj
  have PK := Aside0.mk hk
  have FA := Aside0.mk fa
  have FH := Aside0.mk fh
  have HCV := Aside0.mk NCV
  have HSM := Aside0.mk NSM
  clear ha hb0 hd hh hj hk fa fd fh hDA hDD hDH NCV NSM
  have hu25 := Try.underlying25
  have hu27 := Try.underlying27
  have hu29 := Try.underlying29
  go_enter Try.func13, Try.ntmps13
  go_wp2_with fail
  refine (own_c _).mono ?_
  rintro e wo ⟨rfl, hb_⟩
  have B1 := Aside0.mk (below_step (Below.refl w.heap.size w) hb_)
  clear hb_ 
  go_upto_region 2 with (refine wpList_store_row rfl 29 (.tmp 1) (.tmp 15) rfl wo.heap.size (cellsC ownC nilC) rfl rfl 29 zeroC (blk_new wo _) (by kernel_rfl) rfl (by kernel_rfl) ?_)
  obtain ⟨w_2, hw_⟩ : ∃ x, (wo.alloc (.cells zeroC 29)).setRow wo.heap.size (cellsC ownC nilC) = x := ⟨_, rfl⟩
  have hb_ : Below wo.heap.size wo w_2 := by
    rw [← hw_]
    exact (below_alloc (Below.refl _ _) _).trans ((Upd.setRow (Upd.refl (wo.alloc (.cells zeroC 29)) (fun k => k = wo.heap.size)) (.inl rfl) (cellsC ownC nilC)).toBelow (B := wo.heap.size) (fun k hk => by rw [hk]; exact Nat.le_refl _) (by simp))
  have hblk_ : w_2.heap[wo.heap.size]? = some (.cells (cellsC ownC nilC) 29 (0, 0)) := by
    rw [← hw_]
    exact setRow_heap _ wo.heap.size _ (cellsC ownC nilC) 29 (0, 0) (blk_new wo _)
  rw [hw_]
  clear hw_
  obtain ⟨gc, hg_⟩ : ∃ x, wo.heap.size = x := ⟨_, rfl⟩
  rw [hg_] at hblk_
  have hge_ : wo.heap.size ≤ gc := Nat.le_of_eq hg_
  (try rw [hg_])
  clear hg_
  have G_gc := Aside0.mk (Nat.le_trans (B1.out).size hge_)
  have BX_gc := Aside0.mk hblk_
  have B3 := Aside0.mk (below_step B1.out hb_)
  clear hb_ B1
  clear hblk_ hge_
  go_wp2_with (refine wpList_load_row rfl 29 (.tmp 1) rfl gc rfl 29 (cellsC ownC nilC) (0, 0) _ BX_gc.out Try.underlying29 rfl (by kernel_rfl) ?_)
  refine (apply2_c ownC DA nilC ⟨#[0, 0, 1]⟩ 0 PA.out _ (HCV.out _) HSM.out).mono ?_
  rintro e w_4 ⟨SA, rfl, ho_, hb_⟩
  have OV_SA := Aside0.mk (ho_.weaken (B3.out).size)
  clear ho_
  have B5 := Aside0.mk (below_step B3.out hb_)
  have K5_gc := Aside0.mk (blk_below BX_gc.out hb_)
  clear hb_ B3 BX_gc
  go_upto_region 3 with (refine wpList_store_row rfl 29 (.tmp 2) (.tmp 19) rfl w_4.heap.size (cellsC DA SA) rfl rfl 29 zeroC (blk_new w_4 _) (by kernel_rfl) rfl (by kernel_rfl) ?_)
  obtain ⟨w_6, hw_⟩ : ∃ x, (w_4.alloc (.cells zeroC 29)).setRow w_4.heap.size (cellsC DA SA) = x := ⟨_, rfl⟩
  have hb_ : Below w_4.heap.size w_4 w_6 := by
    rw [← hw_]
    exact (below_alloc (Below.refl _ _) _).trans ((Upd.setRow (Upd.refl (w_4.alloc (.cells zeroC 29)) (fun k => k = w_4.heap.size)) (.inl rfl) (cellsC DA SA)).toBelow (B := w_4.heap.size) (fun k hk => by rw [hk]; exact Nat.le_refl _) (by simp))
  have hblk_ : w_6.heap[w_4.heap.size]? = some (.cells (cellsC DA SA) 29 (0, 0)) := by
    rw [← hw_]
    exact setRow_heap _ w_4.heap.size _ (cellsC DA SA) 29 (0, 0) (blk_new w_4 _)
  rw [hw_]
  clear hw_
  obtain ⟨ga, hg_⟩ : ∃ x, w_4.heap.size = x := ⟨_, rfl⟩
  rw [hg_] at hblk_
  have hge_ : w_4.heap.size ≤ ga := Nat.le_of_eq hg_
  (try rw [hg_])
  clear hg_
  have E_gc_ga := Aside0.mk (Nat.lt_of_lt_of_le (blk_lt K5_gc.out) hge_)
  have G_ga := Aside0.mk (Nat.le_trans (B5.out).size hge_)
  have BX_ga := Aside0.mk hblk_
  have B7 := Aside0.mk (below_step B5.out hb_)
  have K7_gc := Aside0.mk (blk_below K5_gc.out hb_)
  have O7_SA := Aside0.mk (OV_SA.out.below hb_)
  clear hb_ B5 K5_gc OV_SA
  clear hblk_ hge_
  go_wp2_with (refine wpList_load_row rfl 29 (.tmp 1) rfl gc rfl 29 (cellsC ownC nilC) (0, 0) _ K7_gc.out Try.underlying29 rfl (by kernel_rfl) ?_)
  refine (apply2_c ownC ownC nilC ⟨#[0, 0, 2]⟩ 1 PB.out _ (HCV.out _) HSM.out).mono ?_
  rintro e w_8 ⟨SB, rfl, ho_, hb_⟩
  have OV_SB := Aside0.mk (ho_.weaken (B7.out).size)
  clear ho_
  have B9 := Aside0.mk (below_step B7.out hb_)
  have K9_gc := Aside0.mk (blk_below K7_gc.out hb_)
  have K9_ga := Aside0.mk (blk_below BX_ga.out hb_)
  have O9_SA := Aside0.mk (O7_SA.out.below hb_)
  clear hb_ B7 K7_gc BX_ga O7_SA
  go_upto_region 4 with (refine wpList_store_row rfl 29 (.tmp 4) (.tmp 24) rfl w_8.heap.size (cellsC ownC SB) rfl rfl 29 zeroC (blk_new w_8 _) (by kernel_rfl) rfl (by kernel_rfl) ?_)
  obtain ⟨w_10, hw_⟩ : ∃ x, (w_8.alloc (.cells zeroC 29)).setRow w_8.heap.size (cellsC ownC SB) = x := ⟨_, rfl⟩
  have hb_ : Below w_8.heap.size w_8 w_10 := by
    rw [← hw_]
    exact (below_alloc (Below.refl _ _) _).trans ((Upd.setRow (Upd.refl (w_8.alloc (.cells zeroC 29)) (fun k => k = w_8.heap.size)) (.inl rfl) (cellsC ownC SB)).toBelow (B := w_8.heap.size) (fun k hk => by rw [hk]; exact Nat.le_refl _) (by simp))
  have hblk_ : w_10.heap[w_8.heap.size]? = some (.cells (cellsC ownC SB) 29 (0, 0)) := by
    rw [← hw_]
    exact setRow_heap _ w_8.heap.size _ (cellsC ownC SB) 29 (0, 0) (blk_new w_8 _)
  rw [hw_]
  clear hw_
  obtain ⟨gb, hg_⟩ : ∃ x, w_8.heap.size = x := ⟨_, rfl⟩
  rw [hg_] at hblk_
  have hge_ : w_8.heap.size ≤ gb := Nat.le_of_eq hg_
  (try rw [hg_])
  clear hg_
  have E_gc_gb := Aside0.mk (Nat.lt_of_lt_of_le (blk_lt K9_gc.out) hge_)
  have E_ga_gb := Aside0.mk (Nat.lt_of_lt_of_le (blk_lt K9_ga.out) hge_)
  have G_gb := Aside0.mk (Nat.le_trans (B9.out).size hge_)
  have BX_gb := Aside0.mk hblk_
  have B11 := Aside0.mk (below_step B9.out hb_)
  have K11_gc := Aside0.mk (blk_below K9_gc.out hb_)
  have K11_ga := Aside0.mk (blk_below K9_ga.out hb_)
  have O11_SA := Aside0.mk (O9_SA.out.below hb_)
  have O11_SB := Aside0.mk (OV_SB.out.below hb_)
  clear hb_ B9 K9_gc K9_ga O9_SA OV_SB
  clear hblk_ hge_
  go_wp2_with (refine wpList_load_row rfl 29 (.tmp 1) rfl gc rfl 29 (cellsC ownC nilC) (0, 0) _ K11_gc.out Try.underlying29 rfl (by kernel_rfl) ?_)
  refine (apply2_c ownC DD nilC ⟨#[2, 0, 7, 0]⟩ 0 PD.out _ (HCV.out _) HSM.out).mono ?_
  rintro e w_12 ⟨SD, rfl, ho_, hb_⟩
  have OV_SD := Aside0.mk (ho_.weaken (B11.out).size)
  clear ho_
  have B13 := Aside0.mk (below_step B11.out hb_)
  have K13_gc := Aside0.mk (blk_below K11_gc.out hb_)
  have K13_ga := Aside0.mk (blk_below K11_ga.out hb_)
  have K13_gb := Aside0.mk (blk_below BX_gb.out hb_)
  have O13_SA := Aside0.mk (O11_SA.out.below hb_)
  have O13_SB := Aside0.mk (O11_SB.out.below hb_)
  clear hb_ B11 K11_gc K11_ga BX_gb O11_SA O11_SB
  go_upto_region 5 with (refine wpList_store_row rfl 29 (.tmp 6) (.tmp 29) rfl w_12.heap.size (cellsC DD SD) rfl rfl 29 zeroC (blk_new w_12 _) (by kernel_rfl) rfl (by kernel_rfl) ?_)
  obtain ⟨w_14, hw_⟩ : ∃ x, (w_12.alloc (.cells zeroC 29)).setRow w_12.heap.size (cellsC DD SD) = x := ⟨_, rfl⟩
  have hb_ : Below w_12.heap.size w_12 w_14 := by
    rw [← hw_]
    exact (below_alloc (Below.refl _ _) _).trans ((Upd.setRow (Upd.refl (w_12.alloc (.cells zeroC 29)) (fun k => k = w_12.heap.size)) (.inl rfl) (cellsC DD SD)).toBelow (B := w_12.heap.size) (fun k hk => by rw [hk]; exact Nat.le_refl _) (by simp))
  have hblk_ : w_14.heap[w_12.heap.size]? = some (.cells (cellsC DD SD) 29 (0, 0)) := by
    rw [← hw_]
    exact setRow_heap _ w_12.heap.size _ (cellsC DD SD) 29 (0, 0) (blk_new w_12 _)
  rw [hw_]
  clear hw_
  obtain ⟨gd, hg_⟩ : ∃ x, w_12.heap.size = x := ⟨_, rfl⟩
  rw [hg_] at hblk_
  have hge_ : w_12.heap.size ≤ gd := Nat.le_of_eq hg_
  (try rw [hg_])
  clear hg_
  have E_gc_gd := Aside0.mk (Nat.lt_of_lt_of_le (blk_lt K13_gc.out) hge_)
  have E_ga_gd := Aside0.mk (Nat.lt_of_lt_of_le (blk_lt K13_ga.out) hge_)
  have E_gb_gd := Aside0.mk (Nat.lt_of_lt_of_le (blk_lt K13_gb.out) hge_)
  have G_gd := Aside0.mk (Nat.le_trans (B13.out).size hge_)
  have BX_gd := Aside0.mk hblk_
  have B15 := Aside0.mk (below_step B13.out hb_)
  have K15_gc := Aside0.mk (blk_below K13_gc.out hb_)
  have K15_ga := Aside0.mk (blk_below K13_ga.out hb_)
  have K15_gb := Aside0.mk (blk_below K13_gb.out hb_)
  have O15_SA := Aside0.mk (O13_SA.out.below hb_)
  have O15_SB := Aside0.mk (O13_SB.out.below hb_)
  have O15_SD := Aside0.mk (OV_SD.out.below hb_)
  clear hb_ B13 K13_gc K13_ga K13_gb O13_SA O13_SB OV_SD
  clear hblk_ hge_
  refine start_ (n := 9) (S := fun w' => w'.heap[gc]? = some (.cells (cellsC ownC nilC) 29 (0, 0)) ∧ Below w_14.heap.size w_14 w') (ds := [7]) (bsq 9 0) (by kernel_rfl) rfl rfl ⟨(blk_below K15_gc.out (below_drew1 (Below.refl _ _))), below_drew1 (Below.refl _ _)⟩ (fun hHeld => ?_)
  refine take_ (i := 0) (N := some 32) (v := ?_) (a' := ?_) (bsq 9 1) rfl rfl (by kernel_rfl) (fun _ _ _ h => h) (Or.inl ⟨by rfl, ?_⟩) hHeld ?_ ?_
  rotate_left
  · rintro w' ⟨s0, s1⟩
    refine exec_load_part 29 (.tmp 1) ?_ gc 0 ?_ 29 (cellsC ownC nilC) (cellsC ownC nilC) (0, 0) _ s0 Try.underlying29 rfl (by kernel_rfl) rfl
    · rfl
    · rfl
  rotate_left
  · simp only [Act.put, bq1, bq2, bq3, i64_w, i32_w]
    rfl
  refine join_ (σ := SlC × Nat) 2 (bsq 9 127) (fun s => [(33, .string (pairsB 4)), (34, .tuple #[.agg (cellsC DH s.1), .int .i64 0]), (31, .tuple #[.agg (cellsC DH s.1), .int .i64 0]), (35, .agg (cellsC DH s.1)), (36, .int .i64 0), (8, .pointer (some ⟨s.2, 0, none⟩))]) (fun s w' => w'.heap[gc]? = some (.cells (cellsC ownC nilC) 29 (0, 0)) ∧ Below w_14.heap.size w_14 w' ∧ OC w_14.heap.size w' DH s.1 ∧ w'.heap[s.2]? = some (.cells zeroC 29 (0, 0)) ∧ w_14.heap.size ≤ s.2 ∧ True) ?_ ?_
  rotate_left
  · intro hCont
    refine two_ (i := 1) (j := 6) (Ni := some 33) (Nj := some 8) (bsq 9 3) (bsq 9 65) rfl rfl rfl rfl (by kernel_rfl) (by decide) (by decide) (fun K hK => ?_) (fun K hK => ?_)
    · skip
      refine goes_ Try.func17 (by kernel_rfl) rfl #[.int .i64 4] (by rfl) rfl rfl (by simp only [List.map_toArray, List.map_cons, List.map_nil]; rfl) ?_
      with_reducible refine (NP4 _).mono ?_
      rintro e wc ⟨rfl, hc⟩
      refine ⟨_, rfl, ?_⟩
      have HC := Aside0.mk hc
      clear hc
      refine hK.out _ _ ⟨(blk_below hHeld.1 HC.out), below_step hHeld.2 HC.out⟩ (fun hHeld => ?_)
      clear hK K
      refine norm_ (a' := ?_) ?_ ?_
      rotate_left
      · show Act.put _ (some 33) _ = _
        simp only [Act.put, bq1, bq2, bq3, i64_w, i32_w]
        rfl
      refine two_ (i := 2) (j := 6) (Ni := some 34) (Nj := some 8) (bsq 9 7) (bsq 9 67) rfl rfl rfl rfl (by kernel_rfl) (by decide) (by decide) (fun K hK => ?_) (fun K hK => ?_)
      · skip
        refine goes_ Try.func11 (by kernel_rfl) rfl #[.agg (cellsC ownC nilC), .string (pairsB 4)] (by rfl) rfl rfl (by simp only [List.map_toArray, List.map_cons, List.map_nil]; rfl) ?_
        with_reducible refine (apply2_c ownC DH nilC (pairsB 4) 0 PH.out _ ((HCV.out _).below (below_step B15.out (hHeld.2))) HSM.out).mono ?_
        rintro e wr ⟨S1, rfl, ho, hr⟩
        refine ⟨_, rfl, ?_⟩
        have HR := Aside0.mk hr
        have HO := Aside0.mk (ho.weaken (hHeld.2).size)
        clear hr ho
        refine hK.out _ _ ⟨(blk_below hHeld.1 HR.out), below_step hHeld.2 HR.out⟩ (fun hHeld => ?_)
        clear hK K
        refine norm_ (a' := ?_) ?_ ?_
        rotate_left
        · show Act.put _ (some 34) _ = _
          simp only [Act.put, bq1, bq2, bq3, i64_w, i32_w]
          rfl
        refine pure_ (i := 3) (N := some 31) (v := ?_) (a' := ?_) (bsq 9 15) rfl rfl (by kernel_rfl) (fun _ _ _ h => h) (Or.inl ⟨by rfl, ?_⟩) ?_ ?_
        rotate_left
        · intro w'
          go_simp
          with_reducible rfl
        rotate_left
        · simp only [Act.put, bq1, bq2, bq3, i64_w, i32_w]
          rfl
        refine pure_ (i := 4) (N := some 35) (v := ?_) (a' := ?_) (bsq 9 31) rfl rfl (by kernel_rfl) (fun _ _ _ h => h) (Or.inl ⟨by rfl, ?_⟩) ?_ ?_
        rotate_left
        · intro w'
          go_simp
          with_reducible rfl
        rotate_left
        · simp only [Act.put, bq1, bq2, bq3, i64_w, i32_w]
          rfl
        refine pure_ (i := 5) (N := some 36) (v := ?_) (a' := ?_) (bsq 9 63) rfl rfl (by kernel_rfl) (fun _ _ _ h => h) (Or.inl ⟨by rfl, ?_⟩) ?_ ?_
        rotate_left
        · intro w'
          go_simp
          with_reducible rfl
        rotate_left
        · simp only [Act.put, bq1, bq2, bq3, i64_w, i32_w]
          rfl
        refine one_ (i := 6) (N := some 8) (bsq 9 127) rfl rfl (by kernel_rfl) (by decide) (fun K hK => ?_)
        refine value_ (w1 := ?_) (v := ?_) (by rfl) rfl ?_ ?_
        rotate_left 2
        · go_simp
          constructor
          · rfl
          · rfl
        have KA := Aside0.mk (blk_new (wr) (.cells zeroC 29))
        have hga : w_14.heap.size ≤ (wr).heap.size := (hHeld.2).size
        have GA := Aside0.mk hga
        clear hga
        refine hK.out _ _ ⟨(blk_below hHeld.1 (below_alloc (Below.refl _ _) (.cells zeroC 29))), below_step hHeld.2 (below_alloc (Below.refl _ _) (.cells zeroC 29))⟩ (fun hHeld => ?_)
        clear hK K
        refine norm_ (a' := ?_) ?_ ?_
        rotate_left
        · show Act.put _ (some 8) _ = _
          simp only [Act.put, bq1, bq2, bq3, i64_w, i32_w]
          rfl
        exact norm_ (by simp only [putAll, Act.put, List.setIfInBounds_toArray, List.set_cons_zero, List.set_cons_succ]) (hCont (S1, (wr).heap.size) _ ⟨hHeld.1, hHeld.2, (HO.out.below (below_alloc (Below.refl _ _) (.cells zeroC 29))), KA.out, GA.out, trivial⟩)
      · skip
        refine value_ (w1 := ?_) (v := ?_) (by rfl) rfl ?_ ?_
        rotate_left 2
        · go_simp
          constructor
          · rfl
          · rfl
        have KA := Aside0.mk (blk_new (wc) (.cells zeroC 29))
        have hga : w_14.heap.size ≤ (wc).heap.size := (hHeld.2).size
        have GA := Aside0.mk hga
        clear hga
        refine hK.out _ _ ⟨(blk_below hHeld.1 (below_alloc (Below.refl _ _) (.cells zeroC 29))), below_step hHeld.2 (below_alloc (Below.refl _ _) (.cells zeroC 29))⟩ (fun hHeld => ?_)
        clear hK K
        refine norm_ (a' := ?_) ?_ ?_
        rotate_left
        · show Act.put _ (some 8) _ = _
          simp only [Act.put, bq1, bq2, bq3, i64_w, i32_w]
          rfl
        refine one_ (i := 2) (N := some 34) (bsq 9 71) rfl rfl (by kernel_rfl) (by decide) (fun K hK => ?_)
        refine goes_ Try.func11 (by kernel_rfl) rfl #[.agg (cellsC ownC nilC), .string (pairsB 4)] (by rfl) rfl rfl (by simp only [List.map_toArray, List.map_cons, List.map_nil]; rfl) ?_
        with_reducible refine (apply2_c ownC DH nilC (pairsB 4) 0 PH.out _ ((HCV.out _).below (below_step B15.out (hHeld.2))) HSM.out).mono ?_
        rintro e wr ⟨S1, rfl, ho, hr⟩
        refine ⟨_, rfl, ?_⟩
        have HR := Aside0.mk hr
        have HO := Aside0.mk (ho.weaken (hHeld.2).size)
        clear hr ho
        have KB := Aside0.mk (blk_below KA.out HR.out)
        clear KA
        have KA := KB
        clear KB
        refine hK.out _ _ ⟨(blk_below hHeld.1 HR.out), below_step hHeld.2 HR.out⟩ (fun hHeld => ?_)
        clear hK K
        refine norm_ (a' := ?_) ?_ ?_
        rotate_left
        · show Act.put _ (some 34) _ = _
          simp only [Act.put, bq1, bq2, bq3, i64_w, i32_w]
          rfl
        refine pure_ (i := 3) (N := some 31) (v := ?_) (a' := ?_) (bsq 9 79) rfl rfl (by kernel_rfl) (fun _ _ _ h => h) (Or.inl ⟨by rfl, ?_⟩) ?_ ?_
        rotate_left
        · intro w'
          go_simp
          with_reducible rfl
        rotate_left
        · simp only [Act.put, bq1, bq2, bq3, i64_w, i32_w]
          rfl
        refine pure_ (i := 4) (N := some 35) (v := ?_) (a' := ?_) (bsq 9 95) rfl rfl (by kernel_rfl) (fun _ _ _ h => h) (Or.inl ⟨by rfl, ?_⟩) ?_ ?_
        rotate_left
        · intro w'
          go_simp
          with_reducible rfl
        rotate_left
        · simp only [Act.put, bq1, bq2, bq3, i64_w, i32_w]
          rfl
        refine pure_ (i := 5) (N := some 36) (v := ?_) (a' := ?_) (bsq 9 127) rfl rfl (by kernel_rfl) (fun _ _ _ h => h) (Or.inl ⟨by rfl, ?_⟩) ?_ ?_
        rotate_left
        · intro w'
          go_simp
          with_reducible rfl
        rotate_left
        · simp only [Act.put, bq1, bq2, bq3, i64_w, i32_w]
          rfl
        exact norm_ (by simp only [putAll, Act.put, List.setIfInBounds_toArray, List.set_cons_zero, List.set_cons_succ]) (hCont (S1, (wc).heap.size) _ ⟨hHeld.1, hHeld.2, HO.out, KA.out, GA.out, trivial⟩)
    · skip
      refine value_ (w1 := ?_) (v := ?_) (by rfl) rfl ?_ ?_
      rotate_left 2
      · go_simp
        constructor
        · rfl
        · rfl
      have KA := Aside0.mk (blk_new (w_14.drew) (.cells zeroC 29))
      have hga : w_14.heap.size ≤ (w_14.drew).heap.size := (hHeld.2).size
      have GA := Aside0.mk hga
      clear hga
      refine hK.out _ _ ⟨(blk_below hHeld.1 (below_alloc (Below.refl _ _) (.cells zeroC 29))), below_step hHeld.2 (below_alloc (Below.refl _ _) (.cells zeroC 29))⟩ (fun hHeld => ?_)
      clear hK K
      refine norm_ (a' := ?_) ?_ ?_
      rotate_left
      · show Act.put _ (some 8) _ = _
        simp only [Act.put, bq1, bq2, bq3, i64_w, i32_w]
        rfl
      refine one_ (i := 1) (N := some 33) (bsq 9 67) rfl rfl (by kernel_rfl) (by decide) (fun K hK => ?_)
      refine goes_ Try.func17 (by kernel_rfl) rfl #[.int .i64 4] (by rfl) rfl rfl (by simp only [List.map_toArray, List.map_cons, List.map_nil]; rfl) ?_
      with_reducible refine (NP4 _).mono ?_
      rintro e wc ⟨rfl, hc⟩
      refine ⟨_, rfl, ?_⟩
      have HC := Aside0.mk hc
      clear hc
      have KB := Aside0.mk (blk_below KA.out HC.out)
      clear KA
      have KA := KB
      clear KB
      refine hK.out _ _ ⟨(blk_below hHeld.1 HC.out), below_step hHeld.2 HC.out⟩ (fun hHeld => ?_)
      clear hK K
      refine norm_ (a' := ?_) ?_ ?_
      rotate_left
      · show Act.put _ (some 33) _ = _
        simp only [Act.put, bq1, bq2, bq3, i64_w, i32_w]
        rfl
      refine one_ (i := 2) (N := some 34) (bsq 9 71) rfl rfl (by kernel_rfl) (by decide) (fun K hK => ?_)
      refine goes_ Try.func11 (by kernel_rfl) rfl #[.agg (cellsC ownC nilC), .string (pairsB 4)] (by rfl) rfl rfl (by simp only [List.map_toArray, List.map_cons, List.map_nil]; rfl) ?_
      with_reducible refine (apply2_c ownC DH nilC (pairsB 4) 0 PH.out _ ((HCV.out _).below (below_step B15.out (hHeld.2))) HSM.out).mono ?_
      rintro e wr ⟨S1, rfl, ho, hr⟩
      refine ⟨_, rfl, ?_⟩
      have HR := Aside0.mk hr
      have HO := Aside0.mk (ho.weaken (hHeld.2).size)
      clear hr ho
      have KB := Aside0.mk (blk_below KA.out HR.out)
      clear KA
      have KA := KB
      clear KB
      refine hK.out _ _ ⟨(blk_below hHeld.1 HR.out), below_step hHeld.2 HR.out⟩ (fun hHeld => ?_)
      clear hK K
      refine norm_ (a' := ?_) ?_ ?_
      rotate_left
      · show Act.put _ (some 34) _ = _
        simp only [Act.put, bq1, bq2, bq3, i64_w, i32_w]
        rfl
      refine pure_ (i := 3) (N := some 31) (v := ?_) (a' := ?_) (bsq 9 79) rfl rfl (by kernel_rfl) (fun _ _ _ h => h) (Or.inl ⟨by rfl, ?_⟩) ?_ ?_
      rotate_left
      · intro w'
        go_simp
        with_reducible rfl
      rotate_left
      · simp only [Act.put, bq1, bq2, bq3, i64_w, i32_w]
        rfl
      refine pure_ (i := 4) (N := some 35) (v := ?_) (a' := ?_) (bsq 9 95) rfl rfl (by kernel_rfl) (fun _ _ _ h => h) (Or.inl ⟨by rfl, ?_⟩) ?_ ?_
      rotate_left
      · intro w'
        go_simp
        with_reducible rfl
      rotate_left
      · simp only [Act.put, bq1, bq2, bq3, i64_w, i32_w]
        rfl
      refine pure_ (i := 5) (N := some 36) (v := ?_) (a' := ?_) (bsq 9 127) rfl rfl (by kernel_rfl) (fun _ _ _ h => h) (Or.inl ⟨by rfl, ?_⟩) ?_ ?_
      rotate_left
      · intro w'
        go_simp
        with_reducible rfl
      rotate_left
      · simp only [Act.put, bq1, bq2, bq3, i64_w, i32_w]
        rfl
      exact norm_ (by simp only [putAll, Act.put, List.setIfInBounds_toArray, List.set_cons_zero, List.set_cons_succ]) (hCont (S1, (w_14).heap.size) _ ⟨hHeld.1, hHeld.2, HO.out, KA.out, GA.out, trivial⟩)
  rintro ⟨SH, gh⟩ wj ⟨h0, h1, hOC, hBlk, hGe, _⟩
  have hHeld : wj.heap[gc]? = some (.cells (cellsC ownC nilC) 29 (0, 0)) ∧ Below w_14.heap.size w_14 wj := ⟨h0, h1⟩
  have HBL := Aside0.mk h1
  have HOC := Aside0.mk hOC
  have HBK := Aside0.mk hBlk
  have HGE := Aside0.mk hGe
  clear hOC hBlk hGe h0 h1
  refine norm_ (a' := ?_) ?_ ?_
  rotate_left
  · simp only [putAll, Act.put, List.setIfInBounds_toArray, List.set_cons_zero, List.set_cons_succ]
    rfl
  refine last_ (i := 7) (N := none) (bsq 9 255) rfl rfl (by kernel_rfl) (by decide) (fun K hK => ?_)
  refine skip_ (w1 := ?_) (by rfl) rfl ?_ ?_
  rotate_left
  · refine exec_store_part 29 (.tmp 8) (.tmp 35) ?_ gh 0 (cellsC DH SH) ?_ ?_ 29 _ (cellsC DH SH) HBK.out (by kernel_rfl) (Nat.le_of_ble_eq_true rfl) (by kernel_rfl) rfl
    · rfl
    · rfl
    · rfl
  refine hK.out _ _ ?_
  clear hK K
  refine pure_ (i := 8) (N := some 9) (v := ?_) (a' := ?_) (bsq 9 511) rfl rfl (by kernel_rfl) (fun _ _ _ h => h) (Or.inl ⟨by rfl, ?_⟩) ?_ ?_
  rotate_left
  · intro w'
    go_simp
    with_reducible rfl
  rotate_left
  · simp only [Act.put, bq1, bq2, bq3, i64_w, i32_w]
    rfl
  refine done_ (by kernel_rfl) ?_
  have hb_ := HBL.out
  have hblk_ := HBK.out
  have hge_ := HGE.out
  have OV_SH : Aside0 (OC w.heap.size wj DH SH) := ⟨HOC.out.weaken (B15.out).size⟩
  clear HBL HBK HGE HOC
  have E_gc_gh := Aside0.mk (Nat.lt_of_lt_of_le (blk_lt K15_gc.out) hge_)
  have E_ga_gh := Aside0.mk (Nat.lt_of_lt_of_le (blk_lt K15_ga.out) hge_)
  have E_gb_gh := Aside0.mk (Nat.lt_of_lt_of_le (blk_lt K15_gb.out) hge_)
  have E_gd_gh := Aside0.mk (Nat.lt_of_lt_of_le (blk_lt BX_gd.out) hge_)
  have G_gh := Aside0.mk (Nat.le_trans (B15.out).size hge_)
  have BX_gh := Aside0.mk hblk_
  have B17 := Aside0.mk (below_step B15.out hb_)
  have K17_gc := Aside0.mk (blk_below K15_gc.out hb_)
  have K17_ga := Aside0.mk (blk_below K15_ga.out hb_)
  have K17_gb := Aside0.mk (blk_below K15_gb.out hb_)
  have K17_gd := Aside0.mk (blk_below BX_gd.out hb_)
  have O17_SA := Aside0.mk (O15_SA.out.below hb_)
  have O17_SB := Aside0.mk (O15_SB.out.below hb_)
  have O17_SD := Aside0.mk (O15_SD.out.below hb_)
  clear hb_ B15 K15_gc K15_ga K15_gb BX_gd O15_SA O15_SB O15_SD
  clear hblk_ hge_
  obtain ⟨w_18, hw_⟩ : ∃ w_, wj.setRow gh (cellsC DH SH) = w_ := ⟨_, rfl⟩
  have hu_ : Upd wj w_18 (fun k => k = gh) := by rw [← hw_]; exact Upd.setRow (Upd.refl wj (fun k => k = gh)) (.inl rfl) _
  have kf_ : w_18.heap[gh]? = some (.cells (cellsC DH SH) 29 (0, 0)) := by rw [← hw_]; exact setRow_heap wj gh _ (cellsC DH SH) 29 (0, 0) BX_gh.out
  rw [hw_]
  clear hw_
  have K19_gh := Aside0.mk (kf_)
  have B19 := Aside0.mk (B17.out.trans (hu_.toBelow (B := w.heap.size) (fun k hk => by rw [hk]; exact G_gh.out) (B17.out).size))
  have K19_gc := Aside0.mk (hu_.blk K17_gc.out (by have := E_gc_gh.out; omega))
  have K19_ga := Aside0.mk (hu_.blk K17_ga.out (by have := E_ga_gh.out; omega))
  have K19_gb := Aside0.mk (hu_.blk K17_gb.out (by have := E_gb_gh.out; omega))
  have K19_gd := Aside0.mk (hu_.blk K17_gd.out (by have := E_gd_gh.out; omega))
  have O19_SA := Aside0.mk (O17_SA.out.boxT BX_gh.out (by decide) (by decide) hu_)
  have O19_SB := Aside0.mk (O17_SB.out.boxT BX_gh.out (by decide) (by decide) hu_)
  have O19_SD := Aside0.mk (O17_SD.out.boxT BX_gh.out (by decide) (by decide) hu_)
  have O19_SH := Aside0.mk (OV_SH.out.boxT BX_gh.out (by decide) (by decide) hu_)
  clear hu_ B17 K17_gc K17_ga K17_gb K17_gd O17_SA O17_SB O17_SD OV_SH BX_gh
  clear kf_
  go_upto_region 6 with fail
  refine start_ (n := 9) (S := fun w' => w'.heap[gc]? = some (.cells (cellsC ownC nilC) 29 (0, 0)) ∧ Below w_18.heap.size w_18 w') (ds := [7]) (bsq 9 0) (by kernel_rfl) rfl rfl ⟨(blk_below K19_gc.out (below_drew1 (Below.refl _ _))), below_drew1 (Below.refl _ _)⟩ (fun hHeld => ?_)
  refine take_ (i := 0) (N := some 38) (v := ?_) (a' := ?_) (bsq 9 1) rfl rfl (by kernel_rfl) (fun _ _ _ h => h) (Or.inl ⟨by rfl, ?_⟩) hHeld ?_ ?_
  rotate_left
  · rintro w' ⟨s0, s1⟩
    refine exec_load_part 29 (.tmp 1) ?_ gc 0 ?_ 29 (cellsC ownC nilC) (cellsC ownC nilC) (0, 0) _ s0 Try.underlying29 rfl (by kernel_rfl) rfl
    · rfl
    · rfl
  rotate_left
  · simp only [Act.put, bq1, bq2, bq3, i64_w, i32_w]
    rfl
  refine join_ (σ := SlC × Nat) 2 (bsq 9 127) (fun s => [(39, .string (pairsB 5)), (40, .tuple #[.agg (cellsC ownC s.1), .int .i64 1]), (37, .tuple #[.agg (cellsC ownC s.1), .int .i64 1]), (41, .agg (cellsC ownC s.1)), (42, .int .i64 1), (10, .pointer (some ⟨s.2, 0, none⟩))]) (fun s w' => w'.heap[gc]? = some (.cells (cellsC ownC nilC) 29 (0, 0)) ∧ Below w_18.heap.size w_18 w' ∧ OC w_18.heap.size w' ownC s.1 ∧ w'.heap[s.2]? = some (.cells zeroC 29 (0, 0)) ∧ w_18.heap.size ≤ s.2 ∧ True) ?_ ?_
  rotate_left
  · intro hCont
    refine two_ (i := 1) (j := 6) (Ni := some 39) (Nj := some 10) (bsq 9 3) (bsq 9 65) rfl rfl rfl rfl (by kernel_rfl) (by decide) (by decide) (fun K hK => ?_) (fun K hK => ?_)
    · skip
      refine goes_ Try.func17 (by kernel_rfl) rfl #[.int .i64 5] (by rfl) rfl rfl (by simp only [List.map_toArray, List.map_cons, List.map_nil]; rfl) ?_
      with_reducible refine (NP5 _).mono ?_
      rintro e wc ⟨rfl, hc⟩
      refine ⟨_, rfl, ?_⟩
      have HC := Aside0.mk hc
      clear hc
      refine hK.out _ _ ⟨(blk_below hHeld.1 HC.out), below_step hHeld.2 HC.out⟩ (fun hHeld => ?_)
      clear hK K
      refine norm_ (a' := ?_) ?_ ?_
      rotate_left
      · show Act.put _ (some 39) _ = _
        simp only [Act.put, bq1, bq2, bq3, i64_w, i32_w]
        rfl
      refine two_ (i := 2) (j := 6) (Ni := some 40) (Nj := some 10) (bsq 9 7) (bsq 9 67) rfl rfl rfl rfl (by kernel_rfl) (by decide) (by decide) (fun K hK => ?_) (fun K hK => ?_)
      · skip
        refine goes_ Try.func11 (by kernel_rfl) rfl #[.agg (cellsC ownC nilC), .string (pairsB 5)] (by rfl) rfl rfl (by simp only [List.map_toArray, List.map_cons, List.map_nil]; rfl) ?_
        with_reducible refine (apply2_c ownC ownC nilC (pairsB 5) 1 PJ.out _ ((HCV.out _).below (below_step B19.out (hHeld.2))) HSM.out).mono ?_
        rintro e wr ⟨S1, rfl, ho, hr⟩
        refine ⟨_, rfl, ?_⟩
        have HR := Aside0.mk hr
        have HO := Aside0.mk (ho.weaken (hHeld.2).size)
        clear hr ho
        refine hK.out _ _ ⟨(blk_below hHeld.1 HR.out), below_step hHeld.2 HR.out⟩ (fun hHeld => ?_)
        clear hK K
        refine norm_ (a' := ?_) ?_ ?_
        rotate_left
        · show Act.put _ (some 40) _ = _
          simp only [Act.put, bq1, bq2, bq3, i64_w, i32_w]
          rfl
        refine pure_ (i := 3) (N := some 37) (v := ?_) (a' := ?_) (bsq 9 15) rfl rfl (by kernel_rfl) (fun _ _ _ h => h) (Or.inl ⟨by rfl, ?_⟩) ?_ ?_
        rotate_left
        · intro w'
          go_simp
          with_reducible rfl
        rotate_left
        · simp only [Act.put, bq1, bq2, bq3, i64_w, i32_w]
          rfl
        refine pure_ (i := 4) (N := some 41) (v := ?_) (a' := ?_) (bsq 9 31) rfl rfl (by kernel_rfl) (fun _ _ _ h => h) (Or.inl ⟨by rfl, ?_⟩) ?_ ?_
        rotate_left
        · intro w'
          go_simp
          with_reducible rfl
        rotate_left
        · simp only [Act.put, bq1, bq2, bq3, i64_w, i32_w]
          rfl
        refine pure_ (i := 5) (N := some 42) (v := ?_) (a' := ?_) (bsq 9 63) rfl rfl (by kernel_rfl) (fun _ _ _ h => h) (Or.inl ⟨by rfl, ?_⟩) ?_ ?_
        rotate_left
        · intro w'
          go_simp
          with_reducible rfl
        rotate_left
        · simp only [Act.put, bq1, bq2, bq3, i64_w, i32_w]
          rfl
        refine one_ (i := 6) (N := some 10) (bsq 9 127) rfl rfl (by kernel_rfl) (by decide) (fun K hK => ?_)
        refine value_ (w1 := ?_) (v := ?_) (by rfl) rfl ?_ ?_
        rotate_left 2
        · go_simp
          constructor
          · rfl
          · rfl
        have KA := Aside0.mk (blk_new (wr) (.cells zeroC 29))
        have hga : w_18.heap.size ≤ (wr).heap.size := (hHeld.2).size
        have GA := Aside0.mk hga
        clear hga
        refine hK.out _ _ ⟨(blk_below hHeld.1 (below_alloc (Below.refl _ _) (.cells zeroC 29))), below_step hHeld.2 (below_alloc (Below.refl _ _) (.cells zeroC 29))⟩ (fun hHeld => ?_)
        clear hK K
        refine norm_ (a' := ?_) ?_ ?_
        rotate_left
        · show Act.put _ (some 10) _ = _
          simp only [Act.put, bq1, bq2, bq3, i64_w, i32_w]
          rfl
        exact norm_ (by simp only [putAll, Act.put, List.setIfInBounds_toArray, List.set_cons_zero, List.set_cons_succ]) (hCont (S1, (wr).heap.size) _ ⟨hHeld.1, hHeld.2, (HO.out.below (below_alloc (Below.refl _ _) (.cells zeroC 29))), KA.out, GA.out, trivial⟩)
      · skip
        refine value_ (w1 := ?_) (v := ?_) (by rfl) rfl ?_ ?_
        rotate_left 2
        · go_simp
          constructor
          · rfl
          · rfl
        have KA := Aside0.mk (blk_new (wc) (.cells zeroC 29))
        have hga : w_18.heap.size ≤ (wc).heap.size := (hHeld.2).size
        have GA := Aside0.mk hga
        clear hga
        refine hK.out _ _ ⟨(blk_below hHeld.1 (below_alloc (Below.refl _ _) (.cells zeroC 29))), below_step hHeld.2 (below_alloc (Below.refl _ _) (.cells zeroC 29))⟩ (fun hHeld => ?_)
        clear hK K
        refine norm_ (a' := ?_) ?_ ?_
        rotate_left
        · show Act.put _ (some 10) _ = _
          simp only [Act.put, bq1, bq2, bq3, i64_w, i32_w]
          rfl
        refine one_ (i := 2) (N := some 40) (bsq 9 71) rfl rfl (by kernel_rfl) (by decide) (fun K hK => ?_)
        refine goes_ Try.func11 (by kernel_rfl) rfl #[.agg (cellsC ownC nilC), .string (pairsB 5)] (by rfl) rfl rfl (by simp only [List.map_toArray, List.map_cons, List.map_nil]; rfl) ?_
        with_reducible refine (apply2_c ownC ownC nilC (pairsB 5) 1 PJ.out _ ((HCV.out _).below (below_step B19.out (hHeld.2))) HSM.out).mono ?_
        rintro e wr ⟨S1, rfl, ho, hr⟩
        refine ⟨_, rfl, ?_⟩
        have HR := Aside0.mk hr
        have HO := Aside0.mk (ho.weaken (hHeld.2).size)
        clear hr ho
        have KB := Aside0.mk (blk_below KA.out HR.out)
        clear KA
        have KA := KB
        clear KB
        refine hK.out _ _ ⟨(blk_below hHeld.1 HR.out), below_step hHeld.2 HR.out⟩ (fun hHeld => ?_)
        clear hK K
        refine norm_ (a' := ?_) ?_ ?_
        rotate_left
        · show Act.put _ (some 40) _ = _
          simp only [Act.put, bq1, bq2, bq3, i64_w, i32_w]
          rfl
        refine pure_ (i := 3) (N := some 37) (v := ?_) (a' := ?_) (bsq 9 79) rfl rfl (by kernel_rfl) (fun _ _ _ h => h) (Or.inl ⟨by rfl, ?_⟩) ?_ ?_
        rotate_left
        · intro w'
          go_simp
          with_reducible rfl
        rotate_left
        · simp only [Act.put, bq1, bq2, bq3, i64_w, i32_w]
          rfl
        refine pure_ (i := 4) (N := some 41) (v := ?_) (a' := ?_) (bsq 9 95) rfl rfl (by kernel_rfl) (fun _ _ _ h => h) (Or.inl ⟨by rfl, ?_⟩) ?_ ?_
        rotate_left
        · intro w'
          go_simp
          with_reducible rfl
        rotate_left
        · simp only [Act.put, bq1, bq2, bq3, i64_w, i32_w]
          rfl
        refine pure_ (i := 5) (N := some 42) (v := ?_) (a' := ?_) (bsq 9 127) rfl rfl (by kernel_rfl) (fun _ _ _ h => h) (Or.inl ⟨by rfl, ?_⟩) ?_ ?_
        rotate_left
        · intro w'
          go_simp
          with_reducible rfl
        rotate_left
        · simp only [Act.put, bq1, bq2, bq3, i64_w, i32_w]
          rfl
        exact norm_ (by simp only [putAll, Act.put, List.setIfInBounds_toArray, List.set_cons_zero, List.set_cons_succ]) (hCont (S1, (wc).heap.size) _ ⟨hHeld.1, hHeld.2, HO.out, KA.out, GA.out, trivial⟩)
    · skip
      refine value_ (w1 := ?_) (v := ?_) (by rfl) rfl ?_ ?_
      rotate_left 2
      · go_simp
        constructor
        · rfl
        · rfl
      have KA := Aside0.mk (blk_new (w_18.drew) (.cells zeroC 29))
      have hga : w_18.heap.size ≤ (w_18.drew).heap.size := (hHeld.2).size
      have GA := Aside0.mk hga
      clear hga
      refine hK.out _ _ ⟨(blk_below hHeld.1 (below_alloc (Below.refl _ _) (.cells zeroC 29))), below_step hHeld.2 (below_alloc (Below.refl _ _) (.cells zeroC 29))⟩ (fun hHeld => ?_)
      clear hK K
      refine norm_ (a' := ?_) ?_ ?_
      rotate_left
      · show Act.put _ (some 10) _ = _
        simp only [Act.put, bq1, bq2, bq3, i64_w, i32_w]
        rfl
      refine one_ (i := 1) (N := some 39) (bsq 9 67) rfl rfl (by kernel_rfl) (by decide) (fun K hK => ?_)
      refine goes_ Try.func17 (by kernel_rfl) rfl #[.int .i64 5] (by rfl) rfl rfl (by simp only [List.map_toArray, List.map_cons, List.map_nil]; rfl) ?_
      with_reducible refine (NP5 _).mono ?_
      rintro e wc ⟨rfl, hc⟩
      refine ⟨_, rfl, ?_⟩
      have HC := Aside0.mk hc
      clear hc
      have KB := Aside0.mk (blk_below KA.out HC.out)
      clear KA
      have KA := KB
      clear KB
      refine hK.out _ _ ⟨(blk_below hHeld.1 HC.out), below_step hHeld.2 HC.out⟩ (fun hHeld => ?_)
      clear hK K
      refine norm_ (a' := ?_) ?_ ?_
      rotate_left
      · show Act.put _ (some 39) _ = _
        simp only [Act.put, bq1, bq2, bq3, i64_w, i32_w]
        rfl
      refine one_ (i := 2) (N := some 40) (bsq 9 71) rfl rfl (by kernel_rfl) (by decide) (fun K hK => ?_)
      refine goes_ Try.func11 (by kernel_rfl) rfl #[.agg (cellsC ownC nilC), .string (pairsB 5)] (by rfl) rfl rfl (by simp only [List.map_toArray, List.map_cons, List.map_nil]; rfl) ?_
      with_reducible refine (apply2_c ownC ownC nilC (pairsB 5) 1 PJ.out _ ((HCV.out _).below (below_step B19.out (hHeld.2))) HSM.out).mono ?_
      rintro e wr ⟨S1, rfl, ho, hr⟩
      refine ⟨_, rfl, ?_⟩
      have HR := Aside0.mk hr
      have HO := Aside0.mk (ho.weaken (hHeld.2).size)
      clear hr ho
      have KB := Aside0.mk (blk_below KA.out HR.out)
      clear KA
      have KA := KB
      clear KB
      refine hK.out _ _ ⟨(blk_below hHeld.1 HR.out), below_step hHeld.2 HR.out⟩ (fun hHeld => ?_)
      clear hK K
      refine norm_ (a' := ?_) ?_ ?_
      rotate_left
      · show Act.put _ (some 40) _ = _
        simp only [Act.put, bq1, bq2, bq3, i64_w, i32_w]
        rfl
      refine pure_ (i := 3) (N := some 37) (v := ?_) (a' := ?_) (bsq 9 79) rfl rfl (by kernel_rfl) (fun _ _ _ h => h) (Or.inl ⟨by rfl, ?_⟩) ?_ ?_
      rotate_left
      · intro w'
        go_simp
        with_reducible rfl
      rotate_left
      · simp only [Act.put, bq1, bq2, bq3, i64_w, i32_w]
        rfl
      refine pure_ (i := 4) (N := some 41) (v := ?_) (a' := ?_) (bsq 9 95) rfl rfl (by kernel_rfl) (fun _ _ _ h => h) (Or.inl ⟨by rfl, ?_⟩) ?_ ?_
      rotate_left
      · intro w'
        go_simp
        with_reducible rfl
      rotate_left
      · simp only [Act.put, bq1, bq2, bq3, i64_w, i32_w]
        rfl
      refine pure_ (i := 5) (N := some 42) (v := ?_) (a' := ?_) (bsq 9 127) rfl rfl (by kernel_rfl) (fun _ _ _ h => h) (Or.inl ⟨by rfl, ?_⟩) ?_ ?_
      rotate_left
      · intro w'
        go_simp
        with_reducible rfl
      rotate_left
      · simp only [Act.put, bq1, bq2, bq3, i64_w, i32_w]
        rfl
      exact norm_ (by simp only [putAll, Act.put, List.setIfInBounds_toArray, List.set_cons_zero, List.set_cons_succ]) (hCont (S1, (w_18).heap.size) _ ⟨hHeld.1, hHeld.2, HO.out, KA.out, GA.out, trivial⟩)
  rintro ⟨SJ, gj⟩ wj ⟨h0, h1, hOC, hBlk, hGe, _⟩
  have hHeld : wj.heap[gc]? = some (.cells (cellsC ownC nilC) 29 (0, 0)) ∧ Below w_18.heap.size w_18 wj := ⟨h0, h1⟩
  have HBL := Aside0.mk h1
  have HOC := Aside0.mk hOC
  have HBK := Aside0.mk hBlk
  have HGE := Aside0.mk hGe
  clear hOC hBlk hGe h0 h1
  refine norm_ (a' := ?_) ?_ ?_
  rotate_left
  · simp only [putAll, Act.put, List.setIfInBounds_toArray, List.set_cons_zero, List.set_cons_succ]
    rfl
  refine last_ (i := 7) (N := none) (bsq 9 255) rfl rfl (by kernel_rfl) (by decide) (fun K hK => ?_)
  refine skip_ (w1 := ?_) (by rfl) rfl ?_ ?_
  rotate_left
  · refine exec_store_part 29 (.tmp 10) (.tmp 41) ?_ gj 0 (cellsC ownC SJ) ?_ ?_ 29 _ (cellsC ownC SJ) HBK.out (by kernel_rfl) (Nat.le_of_ble_eq_true rfl) (by kernel_rfl) rfl
    · rfl
    · rfl
    · rfl
  refine hK.out _ _ ?_
  clear hK K
  refine pure_ (i := 8) (N := some 11) (v := ?_) (a' := ?_) (bsq 9 511) rfl rfl (by kernel_rfl) (fun _ _ _ h => h) (Or.inl ⟨by rfl, ?_⟩) ?_ ?_
  rotate_left
  · intro w'
    go_simp
    with_reducible rfl
  rotate_left
  · simp only [Act.put, bq1, bq2, bq3, i64_w, i32_w]
    rfl
  refine done_ (by kernel_rfl) ?_
  have hb_ := HBL.out
  have hblk_ := HBK.out
  have hge_ := HGE.out
  have OV_SJ : Aside0 (OC w.heap.size wj ownC SJ) := ⟨HOC.out.weaken (B19.out).size⟩
  clear HBL HBK HGE HOC
  have E_gc_gj := Aside0.mk (Nat.lt_of_lt_of_le (blk_lt K19_gc.out) hge_)
  have E_ga_gj := Aside0.mk (Nat.lt_of_lt_of_le (blk_lt K19_ga.out) hge_)
  have E_gb_gj := Aside0.mk (Nat.lt_of_lt_of_le (blk_lt K19_gb.out) hge_)
  have E_gd_gj := Aside0.mk (Nat.lt_of_lt_of_le (blk_lt K19_gd.out) hge_)
  have E_gh_gj := Aside0.mk (Nat.lt_of_lt_of_le (blk_lt K19_gh.out) hge_)
  have G_gj := Aside0.mk (Nat.le_trans (B19.out).size hge_)
  have BX_gj := Aside0.mk hblk_
  have B21 := Aside0.mk (below_step B19.out hb_)
  have K21_gc := Aside0.mk (blk_below K19_gc.out hb_)
  have K21_ga := Aside0.mk (blk_below K19_ga.out hb_)
  have K21_gb := Aside0.mk (blk_below K19_gb.out hb_)
  have K21_gd := Aside0.mk (blk_below K19_gd.out hb_)
  have K21_gh := Aside0.mk (blk_below K19_gh.out hb_)
  have O21_SA := Aside0.mk (O19_SA.out.below hb_)
  have O21_SB := Aside0.mk (O19_SB.out.below hb_)
  have O21_SD := Aside0.mk (O19_SD.out.below hb_)
  have O21_SH := Aside0.mk (O19_SH.out.below hb_)
  clear hb_ B19 K19_gc K19_ga K19_gb K19_gd K19_gh O19_SA O19_SB O19_SD O19_SH
  clear hblk_ hge_
  obtain ⟨w_22, hw_⟩ : ∃ w_, wj.setRow gj (cellsC ownC SJ) = w_ := ⟨_, rfl⟩
  have hu_ : Upd wj w_22 (fun k => k = gj) := by rw [← hw_]; exact Upd.setRow (Upd.refl wj (fun k => k = gj)) (.inl rfl) _
  have kf_ : w_22.heap[gj]? = some (.cells (cellsC ownC SJ) 29 (0, 0)) := by rw [← hw_]; exact setRow_heap wj gj _ (cellsC ownC SJ) 29 (0, 0) BX_gj.out
  rw [hw_]
  clear hw_
  have K23_gj := Aside0.mk (kf_)
  have B23 := Aside0.mk (B21.out.trans (hu_.toBelow (B := w.heap.size) (fun k hk => by rw [hk]; exact G_gj.out) (B21.out).size))
  have K23_gc := Aside0.mk (hu_.blk K21_gc.out (by have := E_gc_gj.out; omega))
  have K23_ga := Aside0.mk (hu_.blk K21_ga.out (by have := E_ga_gj.out; omega))
  have K23_gb := Aside0.mk (hu_.blk K21_gb.out (by have := E_gb_gj.out; omega))
  have K23_gd := Aside0.mk (hu_.blk K21_gd.out (by have := E_gd_gj.out; omega))
  have K23_gh := Aside0.mk (hu_.blk K21_gh.out (by have := E_gh_gj.out; omega))
  have O23_SA := Aside0.mk (O21_SA.out.boxT BX_gj.out (by decide) (by decide) hu_)
  have O23_SB := Aside0.mk (O21_SB.out.boxT BX_gj.out (by decide) (by decide) hu_)
  have O23_SD := Aside0.mk (O21_SD.out.boxT BX_gj.out (by decide) (by decide) hu_)
  have O23_SH := Aside0.mk (O21_SH.out.boxT BX_gj.out (by decide) (by decide) hu_)
  have O23_SJ := Aside0.mk (OV_SJ.out.boxT BX_gj.out (by decide) (by decide) hu_)
  clear hu_ B21 K21_gc K21_ga K21_gb K21_gd K21_gh O21_SA O21_SB O21_SD O21_SH OV_SJ BX_gj
  clear kf_
  go_upto_region 7 with fail
  go_wp2_with (refine wpList_load_row rfl 29 (.tmp 1) rfl gc rfl 29 (cellsC ownC nilC) (0, 0) _ K23_gc.out Try.underlying29 rfl (by kernel_rfl) ?_)
  refine (apply2_c ownC ownC nilC ⟨#[]⟩ 1 PK.out _ (HCV.out _) HSM.out).mono ?_
  rintro e w_24 ⟨SK, rfl, ho_, hb_⟩
  have OV_SK := Aside0.mk (ho_.weaken (B23.out).size)
  clear ho_
  have B25 := Aside0.mk (below_step B23.out hb_)
  have K25_gc := Aside0.mk (blk_below K23_gc.out hb_)
  have K25_ga := Aside0.mk (blk_below K23_ga.out hb_)
  have K25_gb := Aside0.mk (blk_below K23_gb.out hb_)
  have K25_gd := Aside0.mk (blk_below K23_gd.out hb_)
  have K25_gh := Aside0.mk (blk_below K23_gh.out hb_)
  have K25_gj := Aside0.mk (blk_below K23_gj.out hb_)
  have O25_SA := Aside0.mk (O23_SA.out.below hb_)
  have O25_SB := Aside0.mk (O23_SB.out.below hb_)
  have O25_SD := Aside0.mk (O23_SD.out.below hb_)
  have O25_SH := Aside0.mk (O23_SH.out.below hb_)
  have O25_SJ := Aside0.mk (O23_SJ.out.below hb_)
  clear hb_ B23 K23_gc K23_ga K23_gb K23_gd K23_gh K23_gj O23_SA O23_SB O23_SD O23_SH O23_SJ

  go_upto_region 8 with (refine wpList_store_row rfl 29 (.tmp 12) (.tmp 46) rfl w_24.heap.size (cellsC ownC SK) rfl rfl 29 zeroC (blk_new w_24 _) (by kernel_rfl) rfl (by kernel_rfl) ?_)
  obtain ⟨w_26, hw_⟩ : ∃ x, (w_24.alloc (.cells zeroC 29)).setRow w_24.heap.size (cellsC ownC SK) = x := ⟨_, rfl⟩
  have hb_ : Below w_24.heap.size w_24 w_26 := by
    rw [← hw_]
    exact (below_alloc (Below.refl _ _) _).trans ((Upd.setRow (Upd.refl (w_24.alloc (.cells zeroC 29)) (fun k => k = w_24.heap.size)) (.inl rfl) (cellsC ownC SK)).toBelow (B := w_24.heap.size) (fun k hk => by rw [hk]; exact Nat.le_refl _) (by simp))
  have hblk_ : w_26.heap[w_24.heap.size]? = some (.cells (cellsC ownC SK) 29 (0, 0)) := by
    rw [← hw_]
    exact setRow_heap _ w_24.heap.size _ (cellsC ownC SK) 29 (0, 0) (blk_new w_24 _)
  rw [hw_]
  clear hw_
  obtain ⟨gk, hg_⟩ : ∃ x, w_24.heap.size = x := ⟨_, rfl⟩
  rw [hg_] at hblk_
  have hge_ : w_24.heap.size ≤ gk := Nat.le_of_eq hg_
  (try rw [hg_])
  clear hg_
  have E_gc_gk := Aside0.mk (Nat.lt_of_lt_of_le (blk_lt K25_gc.out) hge_)
  have E_ga_gk := Aside0.mk (Nat.lt_of_lt_of_le (blk_lt K25_ga.out) hge_)
  have E_gb_gk := Aside0.mk (Nat.lt_of_lt_of_le (blk_lt K25_gb.out) hge_)
  have E_gd_gk := Aside0.mk (Nat.lt_of_lt_of_le (blk_lt K25_gd.out) hge_)
  have E_gh_gk := Aside0.mk (Nat.lt_of_lt_of_le (blk_lt K25_gh.out) hge_)
  have E_gj_gk := Aside0.mk (Nat.lt_of_lt_of_le (blk_lt K25_gj.out) hge_)
  have G_gk := Aside0.mk (Nat.le_trans (B25.out).size hge_)
  have BX_gk := Aside0.mk hblk_
  have B27 := Aside0.mk (below_step B25.out hb_)
  have K27_gc := Aside0.mk (blk_below K25_gc.out hb_)
  have K27_ga := Aside0.mk (blk_below K25_ga.out hb_)
  have K27_gb := Aside0.mk (blk_below K25_gb.out hb_)
  have K27_gd := Aside0.mk (blk_below K25_gd.out hb_)
  have K27_gh := Aside0.mk (blk_below K25_gh.out hb_)
  have K27_gj := Aside0.mk (blk_below K25_gj.out hb_)
  have O27_SA := Aside0.mk (O25_SA.out.below hb_)
  have O27_SB := Aside0.mk (O25_SB.out.below hb_)
  have O27_SD := Aside0.mk (O25_SD.out.below hb_)
  have O27_SH := Aside0.mk (O25_SH.out.below hb_)
  have O27_SJ := Aside0.mk (O25_SJ.out.below hb_)
  have O27_SK := Aside0.mk (OV_SK.out.below hb_)
  clear hb_ B25 K25_gc K25_ga K25_gb K25_gd K25_gh K25_gj O25_SA O25_SB O25_SD O25_SH O25_SJ OV_SK
  clear hblk_ hge_
  have pc1 : w_26.cell? ⟨ga, 1, none⟩ = some (.bool DA.F.b1) := (blk_cell K27_ga.out 1).trans rfl
  have pf1 := blk_frozen K27_ga.out 1
  have fa := FA.out
  rw [fa] at pc1
  go_wp2_with (first | (refine wpList_load_part_g (by rfl) 29 (.tmp 4) rfl gb 0 rfl 29 (cellsC ownC SB) (cellsC ownC SB) (0, 0) _ K27_gb.out Try.underlying29 rfl (by kernel_rfl) rfl ?_) | (refine wpList_load_part_g (by rfl) 29 (.tmp 1) rfl gc 0 rfl 29 (cellsC ownC nilC) (cellsC ownC nilC) (0, 0) _ K27_gc.out Try.underlying29 rfl (by kernel_rfl) rfl ?_))
  refine (rsame_c ownC SB nilC _ (O27_SB.out.cv) (HCV.out _) HSM.out).mono ?_
  rintro e w_28 ⟨rfl, hb_⟩
  clear pc1 pf1 fa
  have B29 := Aside0.mk (below_step B27.out hb_)
  have K29_gc := Aside0.mk (blk_below K27_gc.out hb_)
  have K29_ga := Aside0.mk (blk_below K27_ga.out hb_)
  have K29_gb := Aside0.mk (blk_below K27_gb.out hb_)
  have K29_gd := Aside0.mk (blk_below K27_gd.out hb_)
  have K29_gh := Aside0.mk (blk_below K27_gh.out hb_)
  have K29_gj := Aside0.mk (blk_below K27_gj.out hb_)
  have K29_gk := Aside0.mk (blk_below BX_gk.out hb_)
  have O29_SA := Aside0.mk (O27_SA.out.below hb_)
  have O29_SB := Aside0.mk (O27_SB.out.below hb_)
  have O29_SD := Aside0.mk (O27_SD.out.below hb_)
  have O29_SH := Aside0.mk (O27_SH.out.below hb_)
  have O29_SJ := Aside0.mk (O27_SJ.out.below hb_)
  have O29_SK := Aside0.mk (O27_SK.out.below hb_)
  clear hb_ B27 K27_gc K27_ga K27_gb K27_gd K27_gh K27_gj BX_gk O27_SA O27_SB O27_SD O27_SH O27_SJ O27_SK
  have pc10 : w_28.cell? ⟨gd, 10, none⟩ = some (.slice SD.S.A10 DD.F.vs.length SD.S.c10) := (blk_cell K29_gd.out 10).trans rfl
  have pf10 := blk_frozen K29_gd.out 10
  go_wp2_with fail
  obtain ⟨w_30, hw_⟩ : ∃ x, w_28.alloc (.cells #[.int .i64 7] 3) = x := ⟨_, rfl⟩
  have hb_ : Below w_28.heap.size w_28 w_30 := by rw [← hw_]; exact below_alloc (Below.refl _ _) _
  have hblk_ : w_30.heap[w_28.heap.size]? = some (.cells #[.int .i64 7] 3 (0, 0)) := by rw [← hw_]; exact blk_new w_28 _
  rw [hw_]
  clear hw_ pc10 pf10
  have HI := Aside0.mk hblk_
  clear hblk_
  have B32 := Aside0.mk (below_step B29.out hb_)
  have K32_gc := Aside0.mk (blk_below K29_gc.out hb_)
  have K32_ga := Aside0.mk (blk_below K29_ga.out hb_)
  have K32_gb := Aside0.mk (blk_below K29_gb.out hb_)
  have K32_gd := Aside0.mk (blk_below K29_gd.out hb_)
  have K32_gh := Aside0.mk (blk_below K29_gh.out hb_)
  have K32_gj := Aside0.mk (blk_below K29_gj.out hb_)
  have K32_gk := Aside0.mk (blk_below K29_gk.out hb_)
  have O32_SA := Aside0.mk (O29_SA.out.below hb_)
  have O32_SB := Aside0.mk (O29_SB.out.below hb_)
  have O32_SD := Aside0.mk (O29_SD.out.below hb_)
  have O32_SH := Aside0.mk (O29_SH.out.below hb_)
  have O32_SJ := Aside0.mk (O29_SJ.out.below hb_)
  have O32_SK := Aside0.mk (O29_SK.out.below hb_)
  clear hb_ B29 K29_gc K29_ga K29_gb K29_gd K29_gh K29_gj K29_gk O29_SA O29_SB O29_SD O29_SH O29_SJ O29_SK
  refine (NQ SD.S.A10 SD.S.c10 (some ⟨w_28.heap.size, 0, none⟩) _ O32_SD.out.cv.f.r10 O32_SD.out.cv.f.l10 ⟨rfl, by decide, fun _ => ⟨_, rfl, fun j hj => ?_⟩⟩).mono ?_
  · obtain rfl : j = 0 := by omega
    exact (blk_cell HI.out 0).trans rfl
  rintro e w_31 ⟨rfl, hb_⟩
  clear HI
  have B33 := Aside0.mk (below_step B32.out hb_)
  have K33_gc := Aside0.mk (blk_below K32_gc.out hb_)
  have K33_ga := Aside0.mk (blk_below K32_ga.out hb_)
  have K33_gb := Aside0.mk (blk_below K32_gb.out hb_)
  have K33_gd := Aside0.mk (blk_below K32_gd.out hb_)
  have K33_gh := Aside0.mk (blk_below K32_gh.out hb_)
  have K33_gj := Aside0.mk (blk_below K32_gj.out hb_)
  have K33_gk := Aside0.mk (blk_below K32_gk.out hb_)
  have O33_SA := Aside0.mk (O32_SA.out.below hb_)
  have O33_SB := Aside0.mk (O32_SB.out.below hb_)
  have O33_SD := Aside0.mk (O32_SD.out.below hb_)
  have O33_SH := Aside0.mk (O32_SH.out.below hb_)
  have O33_SJ := Aside0.mk (O32_SJ.out.below hb_)
  have O33_SK := Aside0.mk (O32_SK.out.below hb_)
  clear hb_ B32 K32_gc K32_ga K32_gb K32_gd K32_gh K32_gj K32_gk O32_SA O32_SB O32_SD O32_SH O32_SJ O32_SK
  have pc11 : w_31.cell? ⟨gh, 11, none⟩ = some (.int .i64 DH.p) := (blk_cell K33_gh.out 11).trans rfl
  have pf11 := blk_frozen K33_gh.out 11
  have fh := FH.out
  rw [fh] at pc11
  go_wp2_with fail
  refine (NRX _).mono ?_
  rintro e w_34 ⟨rfl, hb_⟩
  clear pc11 pf11 fh
  have B35 := Aside0.mk (below_step B33.out hb_)
  have K35_gc := Aside0.mk (blk_below K33_gc.out hb_)
  have K35_ga := Aside0.mk (blk_below K33_ga.out hb_)
  have K35_gb := Aside0.mk (blk_below K33_gb.out hb_)
  have K35_gd := Aside0.mk (blk_below K33_gd.out hb_)
  have K35_gh := Aside0.mk (blk_below K33_gh.out hb_)
  have K35_gj := Aside0.mk (blk_below K33_gj.out hb_)
  have K35_gk := Aside0.mk (blk_below K33_gk.out hb_)
  have O35_SA := Aside0.mk (O33_SA.out.below hb_)
  have O35_SB := Aside0.mk (O33_SB.out.below hb_)
  have O35_SD := Aside0.mk (O33_SD.out.below hb_)
  have O35_SH := Aside0.mk (O33_SH.out.below hb_)
  have O35_SJ := Aside0.mk (O33_SJ.out.below hb_)
  have O35_SK := Aside0.mk (O33_SK.out.below hb_)
  clear hb_ B33 K33_gc K33_ga K33_gb K33_gd K33_gh K33_gj K33_gk O33_SA O33_SB O33_SD O33_SH O33_SJ O33_SK
  go_wp2_with fail
  refine (NVL _).mono ?_
  rintro e w_36 ⟨rfl, hb_⟩
  go_wp2_with fail
  go_ret
  exact ⟨rfl, below_step B35.out hb_⟩
end Go.Proofs.Ytkgbhlcbjflnlaa.Fl
