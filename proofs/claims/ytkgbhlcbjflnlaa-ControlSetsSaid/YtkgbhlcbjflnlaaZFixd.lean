/- Commands and settings: contracts by hand, and the laws over them. -/
import Derived.Test.YtkgbhlcbjflnlaaZOwn
import Derived.Test.YtkgbhlcbjflnlaaZOwc
import Derived.Test.YtkgbhlcbjflnlaaZBs
namespace Go.Proofs.Ytkgbhlcbjflnlaa.Fl
open Go Go.RowKit Go.Proofs.YtkgbhlcbjflnlaaW.PrintWords Go.Proofs.YtkgbhlcbjflnlaaW.PrintLast Go.Proofs.YtkgbhlcbjflnlaaW.PrintMore Go.Proofs.Ytkgbhlcbjflnlaa.Mth Go.Proofs.Ytkgbhlcbjflnlaa.P Go.Proofs.Ytkgbhlcbjflnlaa.Own Go.Proofs
set_option linter.unusedVariables false
set_option linter.unusedSimpArgs false
/-! ### 'own' and 'fixed' -/
theorem res37 (tmps:Array Value) (w:World) (g:Nat) (c0 c1 c2 c3 c4 c5 c6 c7 c8 c9 c10:Value) (hp:tmps.getD 0 undef=.pointer (some ⟨g,0,none⟩)) (hg:w.heap[g]?=some (.cells #[c0,c1,c2,c3,c4,c5,c6,c7,c8,c9,c10] 25 (0,0))) :
  (results Try.f37 tmps).run Try.prog w=.ok (.agg #[c0,c1,c2,c3,c4,c5,c6,c7,c8,c9,c10]) w:=by
 have q_:tmps[0]?.getD undef=.pointer (some ⟨g,0,none⟩):=by simpa using hp
 have l_:=run_loadVar_row (P:=Try.prog) w g 25 25 _ (0,0) _ hg Try.underlying25 rfl (by kernel_rfl)
 simp [results,Try.results37,q_,asAddr,l_]
set_option maxHeartbeats 16000000 in
set_option maxRecDepth 100000 in
theorem own_c (w:World):Calls Try.prog 37 #[] w fun e w'=>e=.returned (.agg (cellsF ownF nilSl))∧Below w.heap.size w w':=by
 have hu25:=Try.underlying25
 go_enter Try.func37,Try.ntmps37
 go_upto_region 1 with (fail)
 go_wp2_with (refine wpList_store_row rfl 25 (.tmp 0) (.tmp 1) rfl w.heap.size (cellsF ownF nilSl) rfl rfl 25 #[.string ⟨#[]⟩,.bool false,.bool false,.bool false,.bool false,.bool false,.bool false,.slice none 0 0,.slice none 0 0,.bool false,.slice none 0 0] (blk_new w _) (by kernel_rfl) rfl (by kernel_rfl) ?_)
 refine bodyPost_ret (res37 _ _ w.heap.size _ _ _ _ _ _ _ _ _ _ _ rfl (setRow_heap _ w.heap.size _ (cellsF ownF nilSl) 25 (0,0) (blk_new w _))) rfl ⟨rfl,?_⟩
 exact (bwa (Below.refl _ _) _).trans ((Upd.setRow (Upd.refl (w.alloc (.cells #[.string ⟨#[]⟩,.bool false,.bool false,.bool false,.bool false,.bool false,.bool false,.slice none 0 0,.slice none 0 0,.bool false,.slice none 0 0] 25)) (fun k=>k=w.heap.size)) (.inl rfl) (cellsF ownF nilSl)).toBelow (B:=w.heap.size) (fun k hk=>by rw [hk];exact Nat.le_refl _) (by simp))

set_option maxHeartbeats 16000000 in
set_option maxRecDepth 100000 in
theorem fixed_c (w:World):Calls Try.prog 13 #[] w fun e w'=>e=.returned (.bool true)∧Below w.heap.size w w':=by
 obtain ⟨DA,hDA⟩:∃ D,D=({ ownC with F:={ ownF with b1:=true } }:Cfg):=⟨_,rfl⟩
 have ha:=own_a
 rw [← hDA] at ha
 have fa:DA.F.b1=true:=by rw [hDA]
 obtain ⟨DD,hDD⟩:∃ D,D=({ ownC with F:={ ownF with vs:=[7] } }:Cfg):=⟨_,rfl⟩
 have hd:=own_d
 rw [← hDD] at hd
 have fd:DD.F.vs=[7]:=by rw [hDD]
 obtain ⟨DH,hDH⟩:∃ D,D=({ ownC with p:=4,on:=false }:Cfg):=⟨_,rfl⟩
 have hh:=own_h
 rw [← hDH] at hh
 have fh:DH.p=4:=by rw [hDH]
 have hb0:=own_b
 have hj:=own_j
 have hk:=own_k
 have NCV:∀ w:World,CV w ownC nilC:=own_cv
 have NSM:SmallC ownC:=own_small
 have NQ:∀ (A:Option Addr) (c:Nat) (A2:Option Addr) (w:World),ReadsOf (Value.int .i64) 0 w A DD.F.vs.length DD.F.vs→DD.F.vs.length≤c→ReadsOf (Value.int .i64) 0 w A2 1 [7]→Calls Try.prog 25 #[.slice A DD.F.vs.length c,.slice A2 1 1] w fun e w'=>e=.returned (.bool true)∧Below w.heap.size w w':=by
  intro A c A2 w h1 h2 h3
  rw [fd] at h1 h2 ⊢
  exact rsame11 [7] A c A2 1 w h1 h2 h3 (Nat.le_refl _) (by decide)
 have NP4:∀ w,Calls Try.prog 17 #[.int .i64 4] w fun e w'=>e=.returned (.string (pairsB 4))∧Below w.heap.size w w':=fun w=>pairs_cmd 4 w (by decide)
 have NP5:∀ w,Calls Try.prog 17 #[.int .i64 5] w fun e w'=>e=.returned (.string (pairsB 5))∧Below w.heap.size w w':=fun w=>pairs_cmd 5 w (by decide)
 have NRX:∀ w,Calls Try.prog 14 #[.int .i64 2,.bool true] w fun e w'=>e=.returned (.string ⟨#[0,2,1]⟩)∧Below w.heap.size w w':=fun w=>by
  have q:=rx_cmd 2 true w (by decide)
  rw [show rxB 2 true=(⟨#[0,2,1]⟩:ByteArray) from B_inj (by decide)] at q
  exact q
 have NVL:∀ w,Calls Try.prog 15 #[.int .i64 258,.bool false] w fun e w'=>e=.returned (.string ⟨#[2,1,2,1]⟩)∧Below w.heap.size w w':=fun w=>by
  have q:=vlan_cmd 258 false w (by decide)
  rw [show vlanB 258 false=(⟨#[2,1,2,1]⟩:ByteArray) from B_inj (by decide)] at q
  exact q
 have PA:=amk ha
 have PB:=amk hb0
 have PD:=amk hd
 have PH:=amk hh
 have PJ:=amk hj
 have PK:=amk hk
 have FA:=amk fa
 have FH:=amk fh
 have HCV:=amk NCV
 have HSM:=amk NSM
 clear ha hb0 hd hh hj hk fa fd fh hDA hDD hDH NCV NSM
 have hu25:=Try.underlying25
 have hu27:=Try.underlying27
 have hu29:=Try.underlying29
 go_enter Try.func13,Try.ntmps13
 go_wp2_with fail
 refine (own_c _).mono ?_
 rintro e wo ⟨rfl,hb_⟩
 have B1:=amk (bws (Below.refl w.heap.size w) hb_)
 clear hb_ 
 go_upto_region 2 with (refine wpList_store_row rfl 29 (.tmp 1) (.tmp 15) rfl wo.heap.size (cellsC ownC nilC) rfl rfl 29 zeroC (blk_new wo _) (by kernel_rfl) rfl (by kernel_rfl) ?_)
 obtain ⟨w_2,hw_⟩:∃ x,(wo.alloc (.cells zeroC 29)).setRow wo.heap.size (cellsC ownC nilC)=x:=⟨_,rfl⟩
 have hb_:Below wo.heap.size wo w_2:=by
  rw [← hw_]
  exact (bwa (Below.refl _ _) _).trans ((Upd.setRow (Upd.refl (wo.alloc (.cells zeroC 29)) (fun k=>k=wo.heap.size)) (.inl rfl) (cellsC ownC nilC)).toBelow (B:=wo.heap.size) (fun k hk=>by rw [hk];exact Nat.le_refl _) (by simp))
 have hblk_:w_2.heap[wo.heap.size]?=some (.cells (cellsC ownC nilC) 29 (0,0)):=by
  rw [← hw_]
  exact setRow_heap _ wo.heap.size _ (cellsC ownC nilC) 29 (0,0) (blk_new wo _)
 rw [hw_]
 clear hw_
 obtain ⟨gc,hg_⟩:∃ x,wo.heap.size=x:=⟨_,rfl⟩
 rw [hg_] at hblk_
 have hge_:wo.heap.size≤gc:=Nat.le_of_eq hg_
 (try rw [hg_])
 clear hg_
 have G_gc:=amk (Nat.le_trans (B1.out).size hge_)
 have BX_gc:=amk hblk_
 have B3:=amk (bws B1.out hb_)
 clear hb_ B1
 clear hblk_ hge_
 go_wp2_with (refine wpList_load_row rfl 29 (.tmp 1) rfl gc rfl 29 (cellsC ownC nilC) (0,0) _ BX_gc.out Try.underlying29 rfl (by kernel_rfl) ?_)
 refine (apply2_c ownC DA nilC ⟨#[0,0,1]⟩ 0 PA.out _ (HCV.out _) HSM.out).mono ?_
 rintro e w_4 ⟨SA,rfl,ho_,hb_⟩
 have OV_SA:=amk (ho_.weaken (B3.out).size)
 clear ho_
 have B5:=amk (bws B3.out hb_)
 have K5_gc:=amk (bkb BX_gc.out hb_)
 clear hb_ B3 BX_gc
 go_upto_region 3 with (refine wpList_store_row rfl 29 (.tmp 2) (.tmp 19) rfl w_4.heap.size (cellsC DA SA) rfl rfl 29 zeroC (blk_new w_4 _) (by kernel_rfl) rfl (by kernel_rfl) ?_)
 obtain ⟨w_6,hw_⟩:∃ x,(w_4.alloc (.cells zeroC 29)).setRow w_4.heap.size (cellsC DA SA)=x:=⟨_,rfl⟩
 have hb_:Below w_4.heap.size w_4 w_6:=by
  rw [← hw_]
  exact (bwa (Below.refl _ _) _).trans ((Upd.setRow (Upd.refl (w_4.alloc (.cells zeroC 29)) (fun k=>k=w_4.heap.size)) (.inl rfl) (cellsC DA SA)).toBelow (B:=w_4.heap.size) (fun k hk=>by rw [hk];exact Nat.le_refl _) (by simp))
 have hblk_:w_6.heap[w_4.heap.size]?=some (.cells (cellsC DA SA) 29 (0,0)):=by
  rw [← hw_]
  exact setRow_heap _ w_4.heap.size _ (cellsC DA SA) 29 (0,0) (blk_new w_4 _)
 rw [hw_]
 clear hw_
 obtain ⟨ga,hg_⟩:∃ x,w_4.heap.size=x:=⟨_,rfl⟩
 rw [hg_] at hblk_
 have hge_:w_4.heap.size≤ga:=Nat.le_of_eq hg_
 (try rw [hg_])
 clear hg_
 have E_gc_ga:=amk (Nat.lt_of_lt_of_le (blk_lt K5_gc.out) hge_)
 have G_ga:=amk (Nat.le_trans (B5.out).size hge_)
 have BX_ga:=amk hblk_
 have B7:=amk (bws B5.out hb_)
 have K7_gc:=amk (bkb K5_gc.out hb_)
 have O7_SA:=amk (OV_SA.out.below hb_)
 clear hb_ B5 K5_gc OV_SA
 clear hblk_ hge_
 go_wp2_with (refine wpList_load_row rfl 29 (.tmp 1) rfl gc rfl 29 (cellsC ownC nilC) (0,0) _ K7_gc.out Try.underlying29 rfl (by kernel_rfl) ?_)
 refine (apply2_c ownC ownC nilC ⟨#[0,0,2]⟩ 1 PB.out _ (HCV.out _) HSM.out).mono ?_
 rintro e w_8 ⟨SB,rfl,ho_,hb_⟩
 have OV_SB:=amk (ho_.weaken (B7.out).size)
 clear ho_
 have B9:=amk (bws B7.out hb_)
 have K9_gc:=amk (bkb K7_gc.out hb_)
 have K9_ga:=amk (bkb BX_ga.out hb_)
 have O9_SA:=amk (O7_SA.out.below hb_)
 clear hb_ B7 K7_gc BX_ga O7_SA
 go_upto_region 4 with (refine wpList_store_row rfl 29 (.tmp 4) (.tmp 24) rfl w_8.heap.size (cellsC ownC SB) rfl rfl 29 zeroC (blk_new w_8 _) (by kernel_rfl) rfl (by kernel_rfl) ?_)
 obtain ⟨w_10,hw_⟩:∃ x,(w_8.alloc (.cells zeroC 29)).setRow w_8.heap.size (cellsC ownC SB)=x:=⟨_,rfl⟩
 have hb_:Below w_8.heap.size w_8 w_10:=by
  rw [← hw_]
  exact (bwa (Below.refl _ _) _).trans ((Upd.setRow (Upd.refl (w_8.alloc (.cells zeroC 29)) (fun k=>k=w_8.heap.size)) (.inl rfl) (cellsC ownC SB)).toBelow (B:=w_8.heap.size) (fun k hk=>by rw [hk];exact Nat.le_refl _) (by simp))
 have hblk_:w_10.heap[w_8.heap.size]?=some (.cells (cellsC ownC SB) 29 (0,0)):=by
  rw [← hw_]
  exact setRow_heap _ w_8.heap.size _ (cellsC ownC SB) 29 (0,0) (blk_new w_8 _)
 rw [hw_]
 clear hw_
 obtain ⟨gb,hg_⟩:∃ x,w_8.heap.size=x:=⟨_,rfl⟩
 rw [hg_] at hblk_
 have hge_:w_8.heap.size≤gb:=Nat.le_of_eq hg_
 (try rw [hg_])
 clear hg_
 have E_gc_gb:=amk (Nat.lt_of_lt_of_le (blk_lt K9_gc.out) hge_)
 have E_ga_gb:=amk (Nat.lt_of_lt_of_le (blk_lt K9_ga.out) hge_)
 have G_gb:=amk (Nat.le_trans (B9.out).size hge_)
 have BX_gb:=amk hblk_
 have B11:=amk (bws B9.out hb_)
 have K11_gc:=amk (bkb K9_gc.out hb_)
 have K11_ga:=amk (bkb K9_ga.out hb_)
 have O11_SA:=amk (O9_SA.out.below hb_)
 have O11_SB:=amk (OV_SB.out.below hb_)
 clear hb_ B9 K9_gc K9_ga O9_SA OV_SB
 clear hblk_ hge_
 go_wp2_with (refine wpList_load_row rfl 29 (.tmp 1) rfl gc rfl 29 (cellsC ownC nilC) (0,0) _ K11_gc.out Try.underlying29 rfl (by kernel_rfl) ?_)
 refine (apply2_c ownC DD nilC ⟨#[2,0,7,0]⟩ 0 PD.out _ (HCV.out _) HSM.out).mono ?_
 rintro e w_12 ⟨SD,rfl,ho_,hb_⟩
 have OV_SD:=amk (ho_.weaken (B11.out).size)
 clear ho_
 have B13:=amk (bws B11.out hb_)
 have K13_gc:=amk (bkb K11_gc.out hb_)
 have K13_ga:=amk (bkb K11_ga.out hb_)
 have K13_gb:=amk (bkb BX_gb.out hb_)
 have O13_SA:=amk (O11_SA.out.below hb_)
 have O13_SB:=amk (O11_SB.out.below hb_)
 clear hb_ B11 K11_gc K11_ga BX_gb O11_SA O11_SB
 go_upto_region 5 with (refine wpList_store_row rfl 29 (.tmp 6) (.tmp 29) rfl w_12.heap.size (cellsC DD SD) rfl rfl 29 zeroC (blk_new w_12 _) (by kernel_rfl) rfl (by kernel_rfl) ?_)
 obtain ⟨w_14,hw_⟩:∃ x,(w_12.alloc (.cells zeroC 29)).setRow w_12.heap.size (cellsC DD SD)=x:=⟨_,rfl⟩
 have hb_:Below w_12.heap.size w_12 w_14:=by
  rw [← hw_]
  exact (bwa (Below.refl _ _) _).trans ((Upd.setRow (Upd.refl (w_12.alloc (.cells zeroC 29)) (fun k=>k=w_12.heap.size)) (.inl rfl) (cellsC DD SD)).toBelow (B:=w_12.heap.size) (fun k hk=>by rw [hk];exact Nat.le_refl _) (by simp))
 have hblk_:w_14.heap[w_12.heap.size]?=some (.cells (cellsC DD SD) 29 (0,0)):=by
  rw [← hw_]
  exact setRow_heap _ w_12.heap.size _ (cellsC DD SD) 29 (0,0) (blk_new w_12 _)
 rw [hw_]
 clear hw_
 obtain ⟨gd,hg_⟩:∃ x,w_12.heap.size=x:=⟨_,rfl⟩
 rw [hg_] at hblk_
 have hge_:w_12.heap.size≤gd:=Nat.le_of_eq hg_
 (try rw [hg_])
 clear hg_
 have E_gc_gd:=amk (Nat.lt_of_lt_of_le (blk_lt K13_gc.out) hge_)
 have E_ga_gd:=amk (Nat.lt_of_lt_of_le (blk_lt K13_ga.out) hge_)
 have E_gb_gd:=amk (Nat.lt_of_lt_of_le (blk_lt K13_gb.out) hge_)
 have G_gd:=amk (Nat.le_trans (B13.out).size hge_)
 have BX_gd:=amk hblk_
 have B15:=amk (bws B13.out hb_)
 have K15_gc:=amk (bkb K13_gc.out hb_)
 have K15_ga:=amk (bkb K13_ga.out hb_)
 have K15_gb:=amk (bkb K13_gb.out hb_)
 have O15_SA:=amk (O13_SA.out.below hb_)
 have O15_SB:=amk (O13_SB.out.below hb_)
 have O15_SD:=amk (OV_SD.out.below hb_)
 clear hb_ B13 K13_gc K13_ga K13_gb O13_SA O13_SB OV_SD
 clear hblk_ hge_
 refine start_ (n:=9) (S:=fun w'=>w'.heap[gc]?=some (.cells (cellsC ownC nilC) 29 (0,0))∧Below w_14.heap.size w_14 w') (ds:=[7]) (bsq 9 0) (by kernel_rfl) rfl rfl ⟨(bkb K15_gc.out (bwd (Below.refl _ _))),bwd (Below.refl _ _)⟩ (fun hHeld=>?_)
 refine take_ (i:=0) (N:=some 32) (v:=?_) (a':=?_) (bsq 9 1) rfl rfl (by kernel_rfl) (fun _ _ _ h=>h) (Or.inl ⟨by rfl,?_⟩) hHeld ?_ ?_
 rotate_left
 ·rintro w' ⟨s0,s1⟩
  refine exec_load_part 29 (.tmp 1) ?_ gc 0 ?_ 29 (cellsC ownC nilC) (cellsC ownC nilC) (0,0) _ s0 Try.underlying29 rfl (by kernel_rfl) rfl
  ·rfl
  ·rfl
 rotate_left
 ·simp only [Act.put,bq1,bq2,bq3,i64_w,i32_w]
  rfl
 refine join_ (σ:=SlC × Nat) 2 (bsq 9 127) (fun sg=>[(33,.string (pairsB 4)),(34,.tuple #[.agg (cellsC DH sg.1),.int .i64 0]),(31,.tuple #[.agg (cellsC DH sg.1),.int .i64 0]),(35,.agg (cellsC DH sg.1)),(36,.int .i64 0),(8,.pointer (some ⟨sg.2,0,none⟩))]) (fun sg w'=>w'.heap[gc]?=some (.cells (cellsC ownC nilC) 29 (0,0))∧Below w_14.heap.size w_14 w'∧OC w_14.heap.size w' DH sg.1∧w'.heap[sg.2]?=some (.cells zeroC 29 (0,0))∧w_14.heap.size≤sg.2∧True) ?_ ?_
 rotate_left
 ·intro hCont
  refine two_ (i:=1) (j:=6) (Ni:=some 33) (Nj:=some 8) (bsq 9 3) (bsq 9 65) rfl rfl rfl rfl (by kernel_rfl) (by decide) (by decide) (fun K hK=>?_) (fun K hK=>?_)
  ·skip
   refine goes_ Try.func17 (by kernel_rfl) rfl #[.int .i64 4] (by rfl) rfl rfl (by simp only [List.map_toArray,List.map_cons,List.map_nil];rfl) ?_
   with_reducible refine (NP4 _).mono ?_
   rintro e wcc ⟨rfl,hc⟩
   refine ⟨_,rfl,?_⟩
   have HC:=amk hc
   clear hc
   refine hK.out _ _ ⟨(bkb hHeld.1 HC.out),bws hHeld.2 HC.out⟩ (fun hHeld=>?_)
   clear hK K
   refine norm_ (a':=?_) ?_ ?_
   rotate_left
   ·show Act.put _ (some 33) _=_
    simp only [Act.put,bq1,bq2,bq3,i64_w,i32_w]
    rfl
   refine two_ (i:=2) (j:=6) (Ni:=some 34) (Nj:=some 8) (bsq 9 7) (bsq 9 67) rfl rfl rfl rfl (by kernel_rfl) (by decide) (by decide) (fun K hK=>?_) (fun K hK=>?_)
   ·skip
    refine goes_ Try.func11 (by kernel_rfl) rfl #[.agg (cellsC ownC nilC),.string (pairsB 4)] (by rfl) rfl rfl (by simp only [List.map_toArray,List.map_cons,List.map_nil];rfl) ?_
    with_reducible refine (apply2_c ownC DH nilC (pairsB 4) 0 PH.out _ ((HCV.out _).below (bws B15.out (hHeld.2))) HSM.out).mono ?_
    rintro e wrr ⟨S1,rfl,ho,hr⟩
    refine ⟨_,rfl,?_⟩
    have HR:=amk hr
    have HO:=amk (ho.weaken (hHeld.2).size)
    clear hr ho
    refine hK.out _ _ ⟨(bkb hHeld.1 HR.out),bws hHeld.2 HR.out⟩ (fun hHeld=>?_)
    clear hK K
    refine norm_ (a':=?_) ?_ ?_
    rotate_left
    ·show Act.put _ (some 34) _=_
     simp only [Act.put,bq1,bq2,bq3,i64_w,i32_w]
     rfl
    refine pure_ (i:=3) (N:=some 31) (v:=?_) (a':=?_) (bsq 9 15) rfl rfl (by kernel_rfl) (fun _ _ _ h=>h) (Or.inl ⟨by rfl,?_⟩) ?_ ?_
    rotate_left
    ·intro w'
     go_simp
     with_reducible rfl
    rotate_left
    ·simp only [Act.put,bq1,bq2,bq3,i64_w,i32_w]
     rfl
    refine pure_ (i:=4) (N:=some 35) (v:=?_) (a':=?_) (bsq 9 31) rfl rfl (by kernel_rfl) (fun _ _ _ h=>h) (Or.inl ⟨by rfl,?_⟩) ?_ ?_
    rotate_left
    ·intro w'
     go_simp
     with_reducible rfl
    rotate_left
    ·simp only [Act.put,bq1,bq2,bq3,i64_w,i32_w]
     rfl
    refine pure_ (i:=5) (N:=some 36) (v:=?_) (a':=?_) (bsq 9 63) rfl rfl (by kernel_rfl) (fun _ _ _ h=>h) (Or.inl ⟨by rfl,?_⟩) ?_ ?_
    rotate_left
    ·intro w'
     go_simp
     with_reducible rfl
    rotate_left
    ·simp only [Act.put,bq1,bq2,bq3,i64_w,i32_w]
     rfl
    refine one_ (i:=6) (N:=some 8) (bsq 9 127) rfl rfl (by kernel_rfl) (by decide) (fun K hK=>?_)
    refine value_ (w1:=?_) (v:=?_) (by rfl) rfl ?_ ?_
    rotate_left 2
    ·go_simp
     constructor
     ·rfl
     ·rfl
    have KA:=amk (blk_new (wrr) (.cells zeroC 29))
    have hga:w_14.heap.size≤(wrr).heap.size:=(hHeld.2).size
    have GA:=amk hga
    clear hga
    refine hK.out _ _ ⟨(bkb hHeld.1 (bwa (Below.refl _ _) (.cells zeroC 29))),bws hHeld.2 (bwa (Below.refl _ _) (.cells zeroC 29))⟩ (fun hHeld=>?_)
    clear hK K
    refine norm_ (a':=?_) ?_ ?_
    rotate_left
    ·show Act.put _ (some 8) _=_
     simp only [Act.put,bq1,bq2,bq3,i64_w,i32_w]
     rfl
    exact norm_ (by simp only [putAll,Act.put,List.setIfInBounds_toArray,List.set_cons_zero,List.set_cons_succ]) (hCont (S1,(wrr).heap.size) _ ⟨hHeld.1,hHeld.2,(HO.out.below (bwa (Below.refl _ _) (.cells zeroC 29))),KA.out,GA.out,trivial⟩)
   ·skip
    refine value_ (w1:=?_) (v:=?_) (by rfl) rfl ?_ ?_
    rotate_left 2
    ·go_simp
     constructor
     ·rfl
     ·rfl
    have KA:=amk (blk_new (wcc) (.cells zeroC 29))
    have hga:w_14.heap.size≤(wcc).heap.size:=(hHeld.2).size
    have GA:=amk hga
    clear hga
    refine hK.out _ _ ⟨(bkb hHeld.1 (bwa (Below.refl _ _) (.cells zeroC 29))),bws hHeld.2 (bwa (Below.refl _ _) (.cells zeroC 29))⟩ (fun hHeld=>?_)
    clear hK K
    refine norm_ (a':=?_) ?_ ?_
    rotate_left
    ·show Act.put _ (some 8) _=_
     simp only [Act.put,bq1,bq2,bq3,i64_w,i32_w]
     rfl
    refine one_ (i:=2) (N:=some 34) (bsq 9 71) rfl rfl (by kernel_rfl) (by decide) (fun K hK=>?_)
    refine goes_ Try.func11 (by kernel_rfl) rfl #[.agg (cellsC ownC nilC),.string (pairsB 4)] (by rfl) rfl rfl (by simp only [List.map_toArray,List.map_cons,List.map_nil];rfl) ?_
    with_reducible refine (apply2_c ownC DH nilC (pairsB 4) 0 PH.out _ ((HCV.out _).below (bws B15.out (hHeld.2))) HSM.out).mono ?_
    rintro e wrr ⟨S1,rfl,ho,hr⟩
    refine ⟨_,rfl,?_⟩
    have HR:=amk hr
    have HO:=amk (ho.weaken (hHeld.2).size)
    clear hr ho
    have KB:=amk (bkb KA.out HR.out)
    clear KA
    have KA:=KB
    clear KB
    refine hK.out _ _ ⟨(bkb hHeld.1 HR.out),bws hHeld.2 HR.out⟩ (fun hHeld=>?_)
    clear hK K
    refine norm_ (a':=?_) ?_ ?_
    rotate_left
    ·show Act.put _ (some 34) _=_
     simp only [Act.put,bq1,bq2,bq3,i64_w,i32_w]
     rfl
    refine pure_ (i:=3) (N:=some 31) (v:=?_) (a':=?_) (bsq 9 79) rfl rfl (by kernel_rfl) (fun _ _ _ h=>h) (Or.inl ⟨by rfl,?_⟩) ?_ ?_
    rotate_left
    ·intro w'
     go_simp
     with_reducible rfl
    rotate_left
    ·simp only [Act.put,bq1,bq2,bq3,i64_w,i32_w]
     rfl
    refine pure_ (i:=4) (N:=some 35) (v:=?_) (a':=?_) (bsq 9 95) rfl rfl (by kernel_rfl) (fun _ _ _ h=>h) (Or.inl ⟨by rfl,?_⟩) ?_ ?_
    rotate_left
    ·intro w'
     go_simp
     with_reducible rfl
    rotate_left
    ·simp only [Act.put,bq1,bq2,bq3,i64_w,i32_w]
     rfl
    refine pure_ (i:=5) (N:=some 36) (v:=?_) (a':=?_) (bsq 9 127) rfl rfl (by kernel_rfl) (fun _ _ _ h=>h) (Or.inl ⟨by rfl,?_⟩) ?_ ?_
    rotate_left
    ·intro w'
     go_simp
     with_reducible rfl
    rotate_left
    ·simp only [Act.put,bq1,bq2,bq3,i64_w,i32_w]
     rfl
    exact norm_ (by simp only [putAll,Act.put,List.setIfInBounds_toArray,List.set_cons_zero,List.set_cons_succ]) (hCont (S1,(wcc).heap.size) _ ⟨hHeld.1,hHeld.2,HO.out,KA.out,GA.out,trivial⟩)
  ·skip
   refine value_ (w1:=?_) (v:=?_) (by rfl) rfl ?_ ?_
   rotate_left 2
   ·go_simp
    constructor
    ·rfl
    ·rfl
   have KA:=amk (blk_new (w_14.drew) (.cells zeroC 29))
   have hga:w_14.heap.size≤(w_14.drew).heap.size:=(hHeld.2).size
   have GA:=amk hga
   clear hga
   refine hK.out _ _ ⟨(bkb hHeld.1 (bwa (Below.refl _ _) (.cells zeroC 29))),bws hHeld.2 (bwa (Below.refl _ _) (.cells zeroC 29))⟩ (fun hHeld=>?_)
   clear hK K
   refine norm_ (a':=?_) ?_ ?_
   rotate_left
   ·show Act.put _ (some 8) _=_
    simp only [Act.put,bq1,bq2,bq3,i64_w,i32_w]
    rfl
   refine one_ (i:=1) (N:=some 33) (bsq 9 67) rfl rfl (by kernel_rfl) (by decide) (fun K hK=>?_)
   refine goes_ Try.func17 (by kernel_rfl) rfl #[.int .i64 4] (by rfl) rfl rfl (by simp only [List.map_toArray,List.map_cons,List.map_nil];rfl) ?_
   with_reducible refine (NP4 _).mono ?_
   rintro e wcc ⟨rfl,hc⟩
   refine ⟨_,rfl,?_⟩
   have HC:=amk hc
   clear hc
   have KB:=amk (bkb KA.out HC.out)
   clear KA
   have KA:=KB
   clear KB
   refine hK.out _ _ ⟨(bkb hHeld.1 HC.out),bws hHeld.2 HC.out⟩ (fun hHeld=>?_)
   clear hK K
   refine norm_ (a':=?_) ?_ ?_
   rotate_left
   ·show Act.put _ (some 33) _=_
    simp only [Act.put,bq1,bq2,bq3,i64_w,i32_w]
    rfl
   refine one_ (i:=2) (N:=some 34) (bsq 9 71) rfl rfl (by kernel_rfl) (by decide) (fun K hK=>?_)
   refine goes_ Try.func11 (by kernel_rfl) rfl #[.agg (cellsC ownC nilC),.string (pairsB 4)] (by rfl) rfl rfl (by simp only [List.map_toArray,List.map_cons,List.map_nil];rfl) ?_
   with_reducible refine (apply2_c ownC DH nilC (pairsB 4) 0 PH.out _ ((HCV.out _).below (bws B15.out (hHeld.2))) HSM.out).mono ?_
   rintro e wrr ⟨S1,rfl,ho,hr⟩
   refine ⟨_,rfl,?_⟩
   have HR:=amk hr
   have HO:=amk (ho.weaken (hHeld.2).size)
   clear hr ho
   have KB:=amk (bkb KA.out HR.out)
   clear KA
   have KA:=KB
   clear KB
   refine hK.out _ _ ⟨(bkb hHeld.1 HR.out),bws hHeld.2 HR.out⟩ (fun hHeld=>?_)
   clear hK K
   refine norm_ (a':=?_) ?_ ?_
   rotate_left
   ·show Act.put _ (some 34) _=_
    simp only [Act.put,bq1,bq2,bq3,i64_w,i32_w]
    rfl
   refine pure_ (i:=3) (N:=some 31) (v:=?_) (a':=?_) (bsq 9 79) rfl rfl (by kernel_rfl) (fun _ _ _ h=>h) (Or.inl ⟨by rfl,?_⟩) ?_ ?_
   rotate_left
   ·intro w'
    go_simp
    with_reducible rfl
   rotate_left
   ·simp only [Act.put,bq1,bq2,bq3,i64_w,i32_w]
    rfl
   refine pure_ (i:=4) (N:=some 35) (v:=?_) (a':=?_) (bsq 9 95) rfl rfl (by kernel_rfl) (fun _ _ _ h=>h) (Or.inl ⟨by rfl,?_⟩) ?_ ?_
   rotate_left
   ·intro w'
    go_simp
    with_reducible rfl
   rotate_left
   ·simp only [Act.put,bq1,bq2,bq3,i64_w,i32_w]
    rfl
   refine pure_ (i:=5) (N:=some 36) (v:=?_) (a':=?_) (bsq 9 127) rfl rfl (by kernel_rfl) (fun _ _ _ h=>h) (Or.inl ⟨by rfl,?_⟩) ?_ ?_
   rotate_left
   ·intro w'
    go_simp
    with_reducible rfl
   rotate_left
   ·simp only [Act.put,bq1,bq2,bq3,i64_w,i32_w]
    rfl
   exact norm_ (by simp only [putAll,Act.put,List.setIfInBounds_toArray,List.set_cons_zero,List.set_cons_succ]) (hCont (S1,(w_14).heap.size) _ ⟨hHeld.1,hHeld.2,HO.out,KA.out,GA.out,trivial⟩)
 rintro ⟨SH,gh⟩ wj ⟨h0,h1,hOC,hBlk,hGe,_⟩
 have hHeld:wj.heap[gc]?=some (.cells (cellsC ownC nilC) 29 (0,0))∧Below w_14.heap.size w_14 wj:=⟨h0,h1⟩
 have HBL:=amk h1
 have HOC:=amk hOC
 have HBK:=amk hBlk
 have HGE:=amk hGe
 clear hOC hBlk hGe h0 h1
 refine norm_ (a':=?_) ?_ ?_
 rotate_left
 ·simp only [putAll,Act.put,List.setIfInBounds_toArray,List.set_cons_zero,List.set_cons_succ]
  rfl
 refine last_ (i:=7) (N:=none) (bsq 9 255) rfl rfl (by kernel_rfl) (by decide) (fun K hK=>?_)
 refine skip_ (w1:=?_) (by rfl) rfl ?_ ?_
 rotate_left
 ·refine exec_store_part 29 (.tmp 8) (.tmp 35) ?_ gh 0 (cellsC DH SH) ?_ ?_ 29 _ (cellsC DH SH) HBK.out (by kernel_rfl) (Nat.le_of_ble_eq_true rfl) (by kernel_rfl) rfl
  ·rfl
  ·rfl
  ·rfl
 refine hK.out _ _ ?_
 clear hK K
 refine pure_ (i:=8) (N:=some 9) (v:=?_) (a':=?_) (bsq 9 511) rfl rfl (by kernel_rfl) (fun _ _ _ h=>h) (Or.inl ⟨by rfl,?_⟩) ?_ ?_
 rotate_left
 ·intro w'
  go_simp
  with_reducible rfl
 rotate_left
 ·simp only [Act.put,bq1,bq2,bq3,i64_w,i32_w]
  rfl
 refine done_ (by kernel_rfl) ?_
 have hb_:=HBL.out
 have hblk_:=HBK.out
 have hge_:=HGE.out
 have OV_SH:Aside0 (OC w.heap.size wj DH SH):=⟨HOC.out.weaken (B15.out).size⟩
 clear HBL HBK HGE HOC
 have E_gc_gh:=amk (Nat.lt_of_lt_of_le (blk_lt K15_gc.out) hge_)
 have E_ga_gh:=amk (Nat.lt_of_lt_of_le (blk_lt K15_ga.out) hge_)
 have E_gb_gh:=amk (Nat.lt_of_lt_of_le (blk_lt K15_gb.out) hge_)
 have E_gd_gh:=amk (Nat.lt_of_lt_of_le (blk_lt BX_gd.out) hge_)
 have G_gh:=amk (Nat.le_trans (B15.out).size hge_)
 have BX_gh:=amk hblk_
 have B17:=amk (bws B15.out hb_)
 have K17_gc:=amk (bkb K15_gc.out hb_)
 have K17_ga:=amk (bkb K15_ga.out hb_)
 have K17_gb:=amk (bkb K15_gb.out hb_)
 have K17_gd:=amk (bkb BX_gd.out hb_)
 have O17_SA:=amk (O15_SA.out.below hb_)
 have O17_SB:=amk (O15_SB.out.below hb_)
 have O17_SD:=amk (O15_SD.out.below hb_)
 clear hb_ B15 K15_gc K15_ga K15_gb BX_gd O15_SA O15_SB O15_SD
 clear hblk_ hge_
 obtain ⟨w_18,hw_⟩:∃ w_,wj.setRow gh (cellsC DH SH)=w_:=⟨_,rfl⟩
 have hu_:Upd wj w_18 (fun k=>k=gh):=by rw [← hw_];exact Upd.setRow (Upd.refl wj (fun k=>k=gh)) (.inl rfl) _
 have kf_:w_18.heap[gh]?=some (.cells (cellsC DH SH) 29 (0,0)):=by rw [← hw_];exact setRow_heap wj gh _ (cellsC DH SH) 29 (0,0) BX_gh.out
 rw [hw_]
 clear hw_
 have K19_gh:=amk (kf_)
 have B19:=amk (B17.out.trans (hu_.toBelow (B:=w.heap.size) (fun k hk=>by rw [hk];exact G_gh.out) (B17.out).size))
 have K19_gc:=amk (hu_.blk K17_gc.out (by have:=E_gc_gh.out;omega))
 have K19_ga:=amk (hu_.blk K17_ga.out (by have:=E_ga_gh.out;omega))
 have K19_gb:=amk (hu_.blk K17_gb.out (by have:=E_gb_gh.out;omega))
 have K19_gd:=amk (hu_.blk K17_gd.out (by have:=E_gd_gh.out;omega))
 have O19_SA:=amk (O17_SA.out.boxT BX_gh.out (by decide) (by decide) hu_)
 have O19_SB:=amk (O17_SB.out.boxT BX_gh.out (by decide) (by decide) hu_)
 have O19_SD:=amk (O17_SD.out.boxT BX_gh.out (by decide) (by decide) hu_)
 have O19_SH:=amk (OV_SH.out.boxT BX_gh.out (by decide) (by decide) hu_)
 clear hu_ B17 K17_gc K17_ga K17_gb K17_gd O17_SA O17_SB O17_SD OV_SH BX_gh
 clear kf_
 go_upto_region 6 with fail
 refine start_ (n:=9) (S:=fun w'=>w'.heap[gc]?=some (.cells (cellsC ownC nilC) 29 (0,0))∧Below w_18.heap.size w_18 w') (ds:=[7]) (bsq 9 0) (by kernel_rfl) rfl rfl ⟨(bkb K19_gc.out (bwd (Below.refl _ _))),bwd (Below.refl _ _)⟩ (fun hHeld=>?_)
 refine take_ (i:=0) (N:=some 38) (v:=?_) (a':=?_) (bsq 9 1) rfl rfl (by kernel_rfl) (fun _ _ _ h=>h) (Or.inl ⟨by rfl,?_⟩) hHeld ?_ ?_
 rotate_left
 ·rintro w' ⟨s0,s1⟩
  refine exec_load_part 29 (.tmp 1) ?_ gc 0 ?_ 29 (cellsC ownC nilC) (cellsC ownC nilC) (0,0) _ s0 Try.underlying29 rfl (by kernel_rfl) rfl
  ·rfl
  ·rfl
 rotate_left
 ·simp only [Act.put,bq1,bq2,bq3,i64_w,i32_w]
  rfl
 refine join_ (σ:=SlC × Nat) 2 (bsq 9 127) (fun sg=>[(39,.string (pairsB 5)),(40,.tuple #[.agg (cellsC ownC sg.1),.int .i64 1]),(37,.tuple #[.agg (cellsC ownC sg.1),.int .i64 1]),(41,.agg (cellsC ownC sg.1)),(42,.int .i64 1),(10,.pointer (some ⟨sg.2,0,none⟩))]) (fun sg w'=>w'.heap[gc]?=some (.cells (cellsC ownC nilC) 29 (0,0))∧Below w_18.heap.size w_18 w'∧OC w_18.heap.size w' ownC sg.1∧w'.heap[sg.2]?=some (.cells zeroC 29 (0,0))∧w_18.heap.size≤sg.2∧True) ?_ ?_
 rotate_left
 ·intro hCont
  refine two_ (i:=1) (j:=6) (Ni:=some 39) (Nj:=some 10) (bsq 9 3) (bsq 9 65) rfl rfl rfl rfl (by kernel_rfl) (by decide) (by decide) (fun K hK=>?_) (fun K hK=>?_)
  ·skip
   refine goes_ Try.func17 (by kernel_rfl) rfl #[.int .i64 5] (by rfl) rfl rfl (by simp only [List.map_toArray,List.map_cons,List.map_nil];rfl) ?_
   with_reducible refine (NP5 _).mono ?_
   rintro e wcc ⟨rfl,hc⟩
   refine ⟨_,rfl,?_⟩
   have HC:=amk hc
   clear hc
   refine hK.out _ _ ⟨(bkb hHeld.1 HC.out),bws hHeld.2 HC.out⟩ (fun hHeld=>?_)
   clear hK K
   refine norm_ (a':=?_) ?_ ?_
   rotate_left
   ·show Act.put _ (some 39) _=_
    simp only [Act.put,bq1,bq2,bq3,i64_w,i32_w]
    rfl
   refine two_ (i:=2) (j:=6) (Ni:=some 40) (Nj:=some 10) (bsq 9 7) (bsq 9 67) rfl rfl rfl rfl (by kernel_rfl) (by decide) (by decide) (fun K hK=>?_) (fun K hK=>?_)
   ·skip
    refine goes_ Try.func11 (by kernel_rfl) rfl #[.agg (cellsC ownC nilC),.string (pairsB 5)] (by rfl) rfl rfl (by simp only [List.map_toArray,List.map_cons,List.map_nil];rfl) ?_
    with_reducible refine (apply2_c ownC ownC nilC (pairsB 5) 1 PJ.out _ ((HCV.out _).below (bws B19.out (hHeld.2))) HSM.out).mono ?_
    rintro e wrr ⟨S1,rfl,ho,hr⟩
    refine ⟨_,rfl,?_⟩
    have HR:=amk hr
    have HO:=amk (ho.weaken (hHeld.2).size)
    clear hr ho
    refine hK.out _ _ ⟨(bkb hHeld.1 HR.out),bws hHeld.2 HR.out⟩ (fun hHeld=>?_)
    clear hK K
    refine norm_ (a':=?_) ?_ ?_
    rotate_left
    ·show Act.put _ (some 40) _=_
     simp only [Act.put,bq1,bq2,bq3,i64_w,i32_w]
     rfl
    refine pure_ (i:=3) (N:=some 37) (v:=?_) (a':=?_) (bsq 9 15) rfl rfl (by kernel_rfl) (fun _ _ _ h=>h) (Or.inl ⟨by rfl,?_⟩) ?_ ?_
    rotate_left
    ·intro w'
     go_simp
     with_reducible rfl
    rotate_left
    ·simp only [Act.put,bq1,bq2,bq3,i64_w,i32_w]
     rfl
    refine pure_ (i:=4) (N:=some 41) (v:=?_) (a':=?_) (bsq 9 31) rfl rfl (by kernel_rfl) (fun _ _ _ h=>h) (Or.inl ⟨by rfl,?_⟩) ?_ ?_
    rotate_left
    ·intro w'
     go_simp
     with_reducible rfl
    rotate_left
    ·simp only [Act.put,bq1,bq2,bq3,i64_w,i32_w]
     rfl
    refine pure_ (i:=5) (N:=some 42) (v:=?_) (a':=?_) (bsq 9 63) rfl rfl (by kernel_rfl) (fun _ _ _ h=>h) (Or.inl ⟨by rfl,?_⟩) ?_ ?_
    rotate_left
    ·intro w'
     go_simp
     with_reducible rfl
    rotate_left
    ·simp only [Act.put,bq1,bq2,bq3,i64_w,i32_w]
     rfl
    refine one_ (i:=6) (N:=some 10) (bsq 9 127) rfl rfl (by kernel_rfl) (by decide) (fun K hK=>?_)
    refine value_ (w1:=?_) (v:=?_) (by rfl) rfl ?_ ?_
    rotate_left 2
    ·go_simp
     constructor
     ·rfl
     ·rfl
    have KA:=amk (blk_new (wrr) (.cells zeroC 29))
    have hga:w_18.heap.size≤(wrr).heap.size:=(hHeld.2).size
    have GA:=amk hga
    clear hga
    refine hK.out _ _ ⟨(bkb hHeld.1 (bwa (Below.refl _ _) (.cells zeroC 29))),bws hHeld.2 (bwa (Below.refl _ _) (.cells zeroC 29))⟩ (fun hHeld=>?_)
    clear hK K
    refine norm_ (a':=?_) ?_ ?_
    rotate_left
    ·show Act.put _ (some 10) _=_
     simp only [Act.put,bq1,bq2,bq3,i64_w,i32_w]
     rfl
    exact norm_ (by simp only [putAll,Act.put,List.setIfInBounds_toArray,List.set_cons_zero,List.set_cons_succ]) (hCont (S1,(wrr).heap.size) _ ⟨hHeld.1,hHeld.2,(HO.out.below (bwa (Below.refl _ _) (.cells zeroC 29))),KA.out,GA.out,trivial⟩)
   ·skip
    refine value_ (w1:=?_) (v:=?_) (by rfl) rfl ?_ ?_
    rotate_left 2
    ·go_simp
     constructor
     ·rfl
     ·rfl
    have KA:=amk (blk_new (wcc) (.cells zeroC 29))
    have hga:w_18.heap.size≤(wcc).heap.size:=(hHeld.2).size
    have GA:=amk hga
    clear hga
    refine hK.out _ _ ⟨(bkb hHeld.1 (bwa (Below.refl _ _) (.cells zeroC 29))),bws hHeld.2 (bwa (Below.refl _ _) (.cells zeroC 29))⟩ (fun hHeld=>?_)
    clear hK K
    refine norm_ (a':=?_) ?_ ?_
    rotate_left
    ·show Act.put _ (some 10) _=_
     simp only [Act.put,bq1,bq2,bq3,i64_w,i32_w]
     rfl
    refine one_ (i:=2) (N:=some 40) (bsq 9 71) rfl rfl (by kernel_rfl) (by decide) (fun K hK=>?_)
    refine goes_ Try.func11 (by kernel_rfl) rfl #[.agg (cellsC ownC nilC),.string (pairsB 5)] (by rfl) rfl rfl (by simp only [List.map_toArray,List.map_cons,List.map_nil];rfl) ?_
    with_reducible refine (apply2_c ownC ownC nilC (pairsB 5) 1 PJ.out _ ((HCV.out _).below (bws B19.out (hHeld.2))) HSM.out).mono ?_
    rintro e wrr ⟨S1,rfl,ho,hr⟩
    refine ⟨_,rfl,?_⟩
    have HR:=amk hr
    have HO:=amk (ho.weaken (hHeld.2).size)
    clear hr ho
    have KB:=amk (bkb KA.out HR.out)
    clear KA
    have KA:=KB
    clear KB
    refine hK.out _ _ ⟨(bkb hHeld.1 HR.out),bws hHeld.2 HR.out⟩ (fun hHeld=>?_)
    clear hK K
    refine norm_ (a':=?_) ?_ ?_
    rotate_left
    ·show Act.put _ (some 40) _=_
     simp only [Act.put,bq1,bq2,bq3,i64_w,i32_w]
     rfl
    refine pure_ (i:=3) (N:=some 37) (v:=?_) (a':=?_) (bsq 9 79) rfl rfl (by kernel_rfl) (fun _ _ _ h=>h) (Or.inl ⟨by rfl,?_⟩) ?_ ?_
    rotate_left
    ·intro w'
     go_simp
     with_reducible rfl
    rotate_left
    ·simp only [Act.put,bq1,bq2,bq3,i64_w,i32_w]
     rfl
    refine pure_ (i:=4) (N:=some 41) (v:=?_) (a':=?_) (bsq 9 95) rfl rfl (by kernel_rfl) (fun _ _ _ h=>h) (Or.inl ⟨by rfl,?_⟩) ?_ ?_
    rotate_left
    ·intro w'
     go_simp
     with_reducible rfl
    rotate_left
    ·simp only [Act.put,bq1,bq2,bq3,i64_w,i32_w]
     rfl
    refine pure_ (i:=5) (N:=some 42) (v:=?_) (a':=?_) (bsq 9 127) rfl rfl (by kernel_rfl) (fun _ _ _ h=>h) (Or.inl ⟨by rfl,?_⟩) ?_ ?_
    rotate_left
    ·intro w'
     go_simp
     with_reducible rfl
    rotate_left
    ·simp only [Act.put,bq1,bq2,bq3,i64_w,i32_w]
     rfl
    exact norm_ (by simp only [putAll,Act.put,List.setIfInBounds_toArray,List.set_cons_zero,List.set_cons_succ]) (hCont (S1,(wcc).heap.size) _ ⟨hHeld.1,hHeld.2,HO.out,KA.out,GA.out,trivial⟩)
  ·skip
   refine value_ (w1:=?_) (v:=?_) (by rfl) rfl ?_ ?_
   rotate_left 2
   ·go_simp
    constructor
    ·rfl
    ·rfl
   have KA:=amk (blk_new (w_18.drew) (.cells zeroC 29))
   have hga:w_18.heap.size≤(w_18.drew).heap.size:=(hHeld.2).size
   have GA:=amk hga
   clear hga
   refine hK.out _ _ ⟨(bkb hHeld.1 (bwa (Below.refl _ _) (.cells zeroC 29))),bws hHeld.2 (bwa (Below.refl _ _) (.cells zeroC 29))⟩ (fun hHeld=>?_)
   clear hK K
   refine norm_ (a':=?_) ?_ ?_
   rotate_left
   ·show Act.put _ (some 10) _=_
    simp only [Act.put,bq1,bq2,bq3,i64_w,i32_w]
    rfl
   refine one_ (i:=1) (N:=some 39) (bsq 9 67) rfl rfl (by kernel_rfl) (by decide) (fun K hK=>?_)
   refine goes_ Try.func17 (by kernel_rfl) rfl #[.int .i64 5] (by rfl) rfl rfl (by simp only [List.map_toArray,List.map_cons,List.map_nil];rfl) ?_
   with_reducible refine (NP5 _).mono ?_
   rintro e wcc ⟨rfl,hc⟩
   refine ⟨_,rfl,?_⟩
   have HC:=amk hc
   clear hc
   have KB:=amk (bkb KA.out HC.out)
   clear KA
   have KA:=KB
   clear KB
   refine hK.out _ _ ⟨(bkb hHeld.1 HC.out),bws hHeld.2 HC.out⟩ (fun hHeld=>?_)
   clear hK K
   refine norm_ (a':=?_) ?_ ?_
   rotate_left
   ·show Act.put _ (some 39) _=_
    simp only [Act.put,bq1,bq2,bq3,i64_w,i32_w]
    rfl
   refine one_ (i:=2) (N:=some 40) (bsq 9 71) rfl rfl (by kernel_rfl) (by decide) (fun K hK=>?_)
   refine goes_ Try.func11 (by kernel_rfl) rfl #[.agg (cellsC ownC nilC),.string (pairsB 5)] (by rfl) rfl rfl (by simp only [List.map_toArray,List.map_cons,List.map_nil];rfl) ?_
   with_reducible refine (apply2_c ownC ownC nilC (pairsB 5) 1 PJ.out _ ((HCV.out _).below (bws B19.out (hHeld.2))) HSM.out).mono ?_
   rintro e wrr ⟨S1,rfl,ho,hr⟩
   refine ⟨_,rfl,?_⟩
   have HR:=amk hr
   have HO:=amk (ho.weaken (hHeld.2).size)
   clear hr ho
   have KB:=amk (bkb KA.out HR.out)
   clear KA
   have KA:=KB
   clear KB
   refine hK.out _ _ ⟨(bkb hHeld.1 HR.out),bws hHeld.2 HR.out⟩ (fun hHeld=>?_)
   clear hK K
   refine norm_ (a':=?_) ?_ ?_
   rotate_left
   ·show Act.put _ (some 40) _=_
    simp only [Act.put,bq1,bq2,bq3,i64_w,i32_w]
    rfl
   refine pure_ (i:=3) (N:=some 37) (v:=?_) (a':=?_) (bsq 9 79) rfl rfl (by kernel_rfl) (fun _ _ _ h=>h) (Or.inl ⟨by rfl,?_⟩) ?_ ?_
   rotate_left
   ·intro w'
    go_simp
    with_reducible rfl
   rotate_left
   ·simp only [Act.put,bq1,bq2,bq3,i64_w,i32_w]
    rfl
   refine pure_ (i:=4) (N:=some 41) (v:=?_) (a':=?_) (bsq 9 95) rfl rfl (by kernel_rfl) (fun _ _ _ h=>h) (Or.inl ⟨by rfl,?_⟩) ?_ ?_
   rotate_left
   ·intro w'
    go_simp
    with_reducible rfl
   rotate_left
   ·simp only [Act.put,bq1,bq2,bq3,i64_w,i32_w]
    rfl
   refine pure_ (i:=5) (N:=some 42) (v:=?_) (a':=?_) (bsq 9 127) rfl rfl (by kernel_rfl) (fun _ _ _ h=>h) (Or.inl ⟨by rfl,?_⟩) ?_ ?_
   rotate_left
   ·intro w'
    go_simp
    with_reducible rfl
   rotate_left
   ·simp only [Act.put,bq1,bq2,bq3,i64_w,i32_w]
    rfl
   exact norm_ (by simp only [putAll,Act.put,List.setIfInBounds_toArray,List.set_cons_zero,List.set_cons_succ]) (hCont (S1,(w_18).heap.size) _ ⟨hHeld.1,hHeld.2,HO.out,KA.out,GA.out,trivial⟩)
 rintro ⟨SJ,gj⟩ wj ⟨h0,h1,hOC,hBlk,hGe,_⟩
 have hHeld:wj.heap[gc]?=some (.cells (cellsC ownC nilC) 29 (0,0))∧Below w_18.heap.size w_18 wj:=⟨h0,h1⟩
 have HBL:=amk h1
 have HOC:=amk hOC
 have HBK:=amk hBlk
 have HGE:=amk hGe
 clear hOC hBlk hGe h0 h1
 refine norm_ (a':=?_) ?_ ?_
 rotate_left
 ·simp only [putAll,Act.put,List.setIfInBounds_toArray,List.set_cons_zero,List.set_cons_succ]
  rfl
 refine last_ (i:=7) (N:=none) (bsq 9 255) rfl rfl (by kernel_rfl) (by decide) (fun K hK=>?_)
 refine skip_ (w1:=?_) (by rfl) rfl ?_ ?_
 rotate_left
 ·refine exec_store_part 29 (.tmp 10) (.tmp 41) ?_ gj 0 (cellsC ownC SJ) ?_ ?_ 29 _ (cellsC ownC SJ) HBK.out (by kernel_rfl) (Nat.le_of_ble_eq_true rfl) (by kernel_rfl) rfl
  ·rfl
  ·rfl
  ·rfl
 refine hK.out _ _ ?_
 clear hK K
 refine pure_ (i:=8) (N:=some 11) (v:=?_) (a':=?_) (bsq 9 511) rfl rfl (by kernel_rfl) (fun _ _ _ h=>h) (Or.inl ⟨by rfl,?_⟩) ?_ ?_
 rotate_left
 ·intro w'
  go_simp
  with_reducible rfl
 rotate_left
 ·simp only [Act.put,bq1,bq2,bq3,i64_w,i32_w]
  rfl
 refine done_ (by kernel_rfl) ?_
 have hb_:=HBL.out
 have hblk_:=HBK.out
 have hge_:=HGE.out
 have OV_SJ:Aside0 (OC w.heap.size wj ownC SJ):=⟨HOC.out.weaken (B19.out).size⟩
 clear HBL HBK HGE HOC
 have E_gc_gj:=amk (Nat.lt_of_lt_of_le (blk_lt K19_gc.out) hge_)
 have E_ga_gj:=amk (Nat.lt_of_lt_of_le (blk_lt K19_ga.out) hge_)
 have E_gb_gj:=amk (Nat.lt_of_lt_of_le (blk_lt K19_gb.out) hge_)
 have E_gd_gj:=amk (Nat.lt_of_lt_of_le (blk_lt K19_gd.out) hge_)
 have E_gh_gj:=amk (Nat.lt_of_lt_of_le (blk_lt K19_gh.out) hge_)
 have G_gj:=amk (Nat.le_trans (B19.out).size hge_)
 have BX_gj:=amk hblk_
 have B21:=amk (bws B19.out hb_)
 have K21_gc:=amk (bkb K19_gc.out hb_)
 have K21_ga:=amk (bkb K19_ga.out hb_)
 have K21_gb:=amk (bkb K19_gb.out hb_)
 have K21_gd:=amk (bkb K19_gd.out hb_)
 have K21_gh:=amk (bkb K19_gh.out hb_)
 have O21_SA:=amk (O19_SA.out.below hb_)
 have O21_SB:=amk (O19_SB.out.below hb_)
 have O21_SD:=amk (O19_SD.out.below hb_)
 have O21_SH:=amk (O19_SH.out.below hb_)
 clear hb_ B19 K19_gc K19_ga K19_gb K19_gd K19_gh O19_SA O19_SB O19_SD O19_SH
 clear hblk_ hge_
 obtain ⟨w_22,hw_⟩:∃ w_,wj.setRow gj (cellsC ownC SJ)=w_:=⟨_,rfl⟩
 have hu_:Upd wj w_22 (fun k=>k=gj):=by rw [← hw_];exact Upd.setRow (Upd.refl wj (fun k=>k=gj)) (.inl rfl) _
 have kf_:w_22.heap[gj]?=some (.cells (cellsC ownC SJ) 29 (0,0)):=by rw [← hw_];exact setRow_heap wj gj _ (cellsC ownC SJ) 29 (0,0) BX_gj.out
 rw [hw_]
 clear hw_
 have K23_gj:=amk (kf_)
 have B23:=amk (B21.out.trans (hu_.toBelow (B:=w.heap.size) (fun k hk=>by rw [hk];exact G_gj.out) (B21.out).size))
 have K23_gc:=amk (hu_.blk K21_gc.out (by have:=E_gc_gj.out;omega))
 have K23_ga:=amk (hu_.blk K21_ga.out (by have:=E_ga_gj.out;omega))
 have K23_gb:=amk (hu_.blk K21_gb.out (by have:=E_gb_gj.out;omega))
 have K23_gd:=amk (hu_.blk K21_gd.out (by have:=E_gd_gj.out;omega))
 have K23_gh:=amk (hu_.blk K21_gh.out (by have:=E_gh_gj.out;omega))
 have O23_SA:=amk (O21_SA.out.boxT BX_gj.out (by decide) (by decide) hu_)
 have O23_SB:=amk (O21_SB.out.boxT BX_gj.out (by decide) (by decide) hu_)
 have O23_SD:=amk (O21_SD.out.boxT BX_gj.out (by decide) (by decide) hu_)
 have O23_SH:=amk (O21_SH.out.boxT BX_gj.out (by decide) (by decide) hu_)
 have O23_SJ:=amk (OV_SJ.out.boxT BX_gj.out (by decide) (by decide) hu_)
 clear hu_ B21 K21_gc K21_ga K21_gb K21_gd K21_gh O21_SA O21_SB O21_SD O21_SH OV_SJ BX_gj
 clear kf_
 go_upto_region 7 with fail
 go_wp2_with (refine wpList_load_row rfl 29 (.tmp 1) rfl gc rfl 29 (cellsC ownC nilC) (0,0) _ K23_gc.out Try.underlying29 rfl (by kernel_rfl) ?_)
 refine (apply2_c ownC ownC nilC ⟨#[]⟩ 1 PK.out _ (HCV.out _) HSM.out).mono ?_
 rintro e w_24 ⟨SK,rfl,ho_,hb_⟩
 have OV_SK:=amk (ho_.weaken (B23.out).size)
 clear ho_
 have B25:=amk (bws B23.out hb_)
 have K25_gc:=amk (bkb K23_gc.out hb_)
 have K25_ga:=amk (bkb K23_ga.out hb_)
 have K25_gb:=amk (bkb K23_gb.out hb_)
 have K25_gd:=amk (bkb K23_gd.out hb_)
 have K25_gh:=amk (bkb K23_gh.out hb_)
 have K25_gj:=amk (bkb K23_gj.out hb_)
 have O25_SA:=amk (O23_SA.out.below hb_)
 have O25_SB:=amk (O23_SB.out.below hb_)
 have O25_SD:=amk (O23_SD.out.below hb_)
 have O25_SH:=amk (O23_SH.out.below hb_)
 have O25_SJ:=amk (O23_SJ.out.below hb_)
 clear hb_ B23 K23_gc K23_ga K23_gb K23_gd K23_gh K23_gj O23_SA O23_SB O23_SD O23_SH O23_SJ

 go_upto_region 8 with (refine wpList_store_row rfl 29 (.tmp 12) (.tmp 46) rfl w_24.heap.size (cellsC ownC SK) rfl rfl 29 zeroC (blk_new w_24 _) (by kernel_rfl) rfl (by kernel_rfl) ?_)
 obtain ⟨w_26,hw_⟩:∃ x,(w_24.alloc (.cells zeroC 29)).setRow w_24.heap.size (cellsC ownC SK)=x:=⟨_,rfl⟩
 have hb_:Below w_24.heap.size w_24 w_26:=by
  rw [← hw_]
  exact (bwa (Below.refl _ _) _).trans ((Upd.setRow (Upd.refl (w_24.alloc (.cells zeroC 29)) (fun k=>k=w_24.heap.size)) (.inl rfl) (cellsC ownC SK)).toBelow (B:=w_24.heap.size) (fun k hk=>by rw [hk];exact Nat.le_refl _) (by simp))
 have hblk_:w_26.heap[w_24.heap.size]?=some (.cells (cellsC ownC SK) 29 (0,0)):=by
  rw [← hw_]
  exact setRow_heap _ w_24.heap.size _ (cellsC ownC SK) 29 (0,0) (blk_new w_24 _)
 rw [hw_]
 clear hw_
 obtain ⟨gk,hg_⟩:∃ x,w_24.heap.size=x:=⟨_,rfl⟩
 rw [hg_] at hblk_
 have hge_:w_24.heap.size≤gk:=Nat.le_of_eq hg_
 (try rw [hg_])
 clear hg_
 have E_gc_gk:=amk (Nat.lt_of_lt_of_le (blk_lt K25_gc.out) hge_)
 have E_ga_gk:=amk (Nat.lt_of_lt_of_le (blk_lt K25_ga.out) hge_)
 have E_gb_gk:=amk (Nat.lt_of_lt_of_le (blk_lt K25_gb.out) hge_)
 have E_gd_gk:=amk (Nat.lt_of_lt_of_le (blk_lt K25_gd.out) hge_)
 have E_gh_gk:=amk (Nat.lt_of_lt_of_le (blk_lt K25_gh.out) hge_)
 have E_gj_gk:=amk (Nat.lt_of_lt_of_le (blk_lt K25_gj.out) hge_)
 have G_gk:=amk (Nat.le_trans (B25.out).size hge_)
 have BX_gk:=amk hblk_
 have B27:=amk (bws B25.out hb_)
 have K27_gc:=amk (bkb K25_gc.out hb_)
 have K27_ga:=amk (bkb K25_ga.out hb_)
 have K27_gb:=amk (bkb K25_gb.out hb_)
 have K27_gd:=amk (bkb K25_gd.out hb_)
 have K27_gh:=amk (bkb K25_gh.out hb_)
 have K27_gj:=amk (bkb K25_gj.out hb_)
 have O27_SA:=amk (O25_SA.out.below hb_)
 have O27_SB:=amk (O25_SB.out.below hb_)
 have O27_SD:=amk (O25_SD.out.below hb_)
 have O27_SH:=amk (O25_SH.out.below hb_)
 have O27_SJ:=amk (O25_SJ.out.below hb_)
 have O27_SK:=amk (OV_SK.out.below hb_)
 clear hb_ B25 K25_gc K25_ga K25_gb K25_gd K25_gh K25_gj O25_SA O25_SB O25_SD O25_SH O25_SJ OV_SK
 clear hblk_ hge_
 have pc1:w_26.cell? ⟨ga,1,none⟩=some (.bool DA.F.b1):=(bkc K27_ga.out 1).trans rfl
 have pf1:=bkf K27_ga.out 1
 have fa:=FA.out
 rw [fa] at pc1
 go_wp2_with (first | (refine wpList_load_part_g (by rfl) 29 (.tmp 4) rfl gb 0 rfl 29 (cellsC ownC SB) (cellsC ownC SB) (0,0) _ K27_gb.out Try.underlying29 rfl (by kernel_rfl) rfl ?_) | (refine wpList_load_part_g (by rfl) 29 (.tmp 1) rfl gc 0 rfl 29 (cellsC ownC nilC) (cellsC ownC nilC) (0,0) _ K27_gc.out Try.underlying29 rfl (by kernel_rfl) rfl ?_))
 refine (rsame_c ownC SB nilC _ (O27_SB.out.cv) (HCV.out _) HSM.out).mono ?_
 rintro e w_28 ⟨rfl,hb_⟩
 clear pc1 pf1 fa
 have B29:=amk (bws B27.out hb_)
 have K29_gc:=amk (bkb K27_gc.out hb_)
 have K29_ga:=amk (bkb K27_ga.out hb_)
 have K29_gb:=amk (bkb K27_gb.out hb_)
 have K29_gd:=amk (bkb K27_gd.out hb_)
 have K29_gh:=amk (bkb K27_gh.out hb_)
 have K29_gj:=amk (bkb K27_gj.out hb_)
 have K29_gk:=amk (bkb BX_gk.out hb_)
 have O29_SA:=amk (O27_SA.out.below hb_)
 have O29_SB:=amk (O27_SB.out.below hb_)
 have O29_SD:=amk (O27_SD.out.below hb_)
 have O29_SH:=amk (O27_SH.out.below hb_)
 have O29_SJ:=amk (O27_SJ.out.below hb_)
 have O29_SK:=amk (O27_SK.out.below hb_)
 clear hb_ B27 K27_gc K27_ga K27_gb K27_gd K27_gh K27_gj BX_gk O27_SA O27_SB O27_SD O27_SH O27_SJ O27_SK
 have pc10:w_28.cell? ⟨gd,10,none⟩=some (.slice SD.S.A10 DD.F.vs.length SD.S.c10):=(bkc K29_gd.out 10).trans rfl
 have pf10:=bkf K29_gd.out 10
 go_wp2_with fail
 obtain ⟨w_30,hw_⟩:∃ x,w_28.alloc (.cells #[.int .i64 7] 3)=x:=⟨_,rfl⟩
 have hb_:Below w_28.heap.size w_28 w_30:=by rw [← hw_];exact bwa (Below.refl _ _) _
 have hblk_:w_30.heap[w_28.heap.size]?=some (.cells #[.int .i64 7] 3 (0,0)):=by rw [← hw_];exact blk_new w_28 _
 rw [hw_]
 clear hw_ pc10 pf10
 have HI:=amk hblk_
 clear hblk_
 have B32:=amk (bws B29.out hb_)
 have K32_gc:=amk (bkb K29_gc.out hb_)
 have K32_ga:=amk (bkb K29_ga.out hb_)
 have K32_gb:=amk (bkb K29_gb.out hb_)
 have K32_gd:=amk (bkb K29_gd.out hb_)
 have K32_gh:=amk (bkb K29_gh.out hb_)
 have K32_gj:=amk (bkb K29_gj.out hb_)
 have K32_gk:=amk (bkb K29_gk.out hb_)
 have O32_SA:=amk (O29_SA.out.below hb_)
 have O32_SB:=amk (O29_SB.out.below hb_)
 have O32_SD:=amk (O29_SD.out.below hb_)
 have O32_SH:=amk (O29_SH.out.below hb_)
 have O32_SJ:=amk (O29_SJ.out.below hb_)
 have O32_SK:=amk (O29_SK.out.below hb_)
 clear hb_ B29 K29_gc K29_ga K29_gb K29_gd K29_gh K29_gj K29_gk O29_SA O29_SB O29_SD O29_SH O29_SJ O29_SK
 refine (NQ SD.S.A10 SD.S.c10 (some ⟨w_28.heap.size,0,none⟩) _ O32_SD.out.cv.f.r10 O32_SD.out.cv.f.l10 ⟨rfl,by decide,fun _=>⟨_,rfl,fun j hj=>?_⟩⟩).mono ?_
 ·obtain rfl:j=0:=by omega
  exact (bkc HI.out 0).trans rfl
 rintro e w_31 ⟨rfl,hb_⟩
 clear HI
 have B33:=amk (bws B32.out hb_)
 have K33_gc:=amk (bkb K32_gc.out hb_)
 have K33_ga:=amk (bkb K32_ga.out hb_)
 have K33_gb:=amk (bkb K32_gb.out hb_)
 have K33_gd:=amk (bkb K32_gd.out hb_)
 have K33_gh:=amk (bkb K32_gh.out hb_)
 have K33_gj:=amk (bkb K32_gj.out hb_)
 have K33_gk:=amk (bkb K32_gk.out hb_)
 have O33_SA:=amk (O32_SA.out.below hb_)
 have O33_SB:=amk (O32_SB.out.below hb_)
 have O33_SD:=amk (O32_SD.out.below hb_)
 have O33_SH:=amk (O32_SH.out.below hb_)
 have O33_SJ:=amk (O32_SJ.out.below hb_)
 have O33_SK:=amk (O32_SK.out.below hb_)
 clear hb_ B32 K32_gc K32_ga K32_gb K32_gd K32_gh K32_gj K32_gk O32_SA O32_SB O32_SD O32_SH O32_SJ O32_SK
 have pc11:w_31.cell? ⟨gh,11,none⟩=some (.int .i64 DH.p):=(bkc K33_gh.out 11).trans rfl
 have pf11:=bkf K33_gh.out 11
 have fh:=FH.out
 rw [fh] at pc11
 go_wp2_with fail
 refine (NRX _).mono ?_
 rintro e w_34 ⟨rfl,hb_⟩
 clear pc11 pf11 fh
 have B35:=amk (bws B33.out hb_)
 have K35_gc:=amk (bkb K33_gc.out hb_)
 have K35_ga:=amk (bkb K33_ga.out hb_)
 have K35_gb:=amk (bkb K33_gb.out hb_)
 have K35_gd:=amk (bkb K33_gd.out hb_)
 have K35_gh:=amk (bkb K33_gh.out hb_)
 have K35_gj:=amk (bkb K33_gj.out hb_)
 have K35_gk:=amk (bkb K33_gk.out hb_)
 have O35_SA:=amk (O33_SA.out.below hb_)
 have O35_SB:=amk (O33_SB.out.below hb_)
 have O35_SD:=amk (O33_SD.out.below hb_)
 have O35_SH:=amk (O33_SH.out.below hb_)
 have O35_SJ:=amk (O33_SJ.out.below hb_)
 have O35_SK:=amk (O33_SK.out.below hb_)
 clear hb_ B33 K33_gc K33_ga K33_gb K33_gd K33_gh K33_gj K33_gk O33_SA O33_SB O33_SD O33_SH O33_SJ O33_SK
 go_wp2_with fail
 refine (NVL _).mono ?_
 rintro e w_36 ⟨rfl,hb_⟩
 go_wp2_with fail
 go_ret
 exact ⟨rfl,bws B35.out hb_⟩
end Go.Proofs.Ytkgbhlcbjflnlaa.Fl
