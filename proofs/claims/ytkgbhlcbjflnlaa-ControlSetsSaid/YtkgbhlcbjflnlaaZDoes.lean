/- Commands and settings: contracts by hand, and the laws over them. -/
import Derived.Test.YtkgbhlcbjflnlaaZOwn
import Derived.Test.YtkgbhlcbjflnlaaZDoi
import Derived.Deep.DeepCutAuto
import Derived.Deep.CutBlock
import Derived.Test.YtkgbhlcbjflnlaaZBs
namespace Go.Proofs.Ytkgbhlcbjflnlaa.Fl
open Go Go.RowKit Go.Proofs.YtkgbhlcbjflnlaaW.PrintWords Go.Proofs.YtkgbhlcbjflnlaaW.PrintLast Go.Proofs.YtkgbhlcbjflnlaaW.PrintMore Go.Proofs.Ytkgbhlcbjflnlaa.Mth Go.Proofs.Ytkgbhlcbjflnlaa.P Go.Proofs.Ytkgbhlcbjflnlaa.Own Go.Proofs
set_option linter.unusedVariables false
set_option linter.unusedSimpArgs false
theorem res35 (tmps:Array Value) (w:World) (g:Nat) (c0 c1 c2 c3 c4 c5 c6 c7 c8 c9 c10 c11 c12 c13 c14 c15 c16 c17 m5:Value) (hp:tmps.getD 4 undef=.pointer (some ⟨g,0,none⟩)) (h5:tmps.getD 5 undef=m5) (hg:w.heap[g]?=some (.cells #[c0,c1,c2,c3,c4,c5,c6,c7,c8,c9,c10,c11,c12,c13,c14,c15,c16,c17] 29 (0,0))) :
  (results Try.f35 tmps).run Try.prog w=.ok (.tuple #[.agg #[c0,c1,c2,c3,c4,c5,c6,c7,c8,c9,c10,c11,c12,c13,c14,c15,c16,c17],m5]) w:=by
 have q_:tmps[4]?.getD undef=.pointer (some ⟨g,0,none⟩):=by simpa using hp
 have r5:tmps[5]?.getD undef=m5:=by simpa using h5
 have l_:=run_loadVar_row (P:=Try.prog) w g 29 29 _ (0,0) _ hg Try.underlying29 rfl (by kernel_rfl)
 simp [results,Try.results35,q_,r5,asAddr,l_]
set_option maxHeartbeats 16000000 in
set_option maxRecDepth 100000 in
theorem does_c (W0:World) (g:Nat) (C:Cfg) (S:SlC) (r:RS) (w:World) (hb:Below W0.heap.size W0 w) (hg:W0.heap.size≤g) (hI:w.heap[g]?=RdB r) (ho:OC W0.heap.size w C S) (hs:SmallC C) :
  Calls Try.prog 35 #[.pointer (some ⟨g,0,none⟩),.agg (cellsC C S)] w fun e w'=>∃ S',e=.returned (.tuple #[.agg (cellsC (doesS C r).1 S'),.bool (doesS C r).2])∧OC W0.heap.size w' (doesS C r).1 S'∧Below W0.heap.size W0 w':=by
 unfold doesS
 obtain ⟨⟨cl,r1⟩,e1⟩:∃ x,numS r 1=x:=⟨_,rfl⟩
 rw [e1]
 dsimp only
 obtain ⟨⟨cmd,r2⟩,e2⟩:∃ x,numS r1 1=x:=⟨_,rfl⟩
 rw [e2]
 dsimp only
 have N1:=num1_c g r cl r1 e1
 have N2:=num1_c g r1 cmd r2 e2
 have GE:=amk hg
 have B0:=amk hb
 have HI:=amk hI
 have OC0:=amk ho
 have HS:Aside0 (Small (onS C cl).F):=⟨hs.1⟩
 obtain ⟨C1,hC1⟩:∃ x,onS C cl=x:=⟨_,rfl⟩
 rw [hC1] at HS ⊢
 have HC:=amk hC1
 obtain ⟨⟨D,ok,r9⟩,es⟩:∃ x,swS C1 cl cmd r2=x:=⟨_,rfl⟩
 rw [es]
 have ES:=amk es
 clear hg hb hI ho hs e1 e2 hC1 es
 have hu25:=Try.underlying25
 have hu27:=Try.underlying27
 have hu29:=Try.underlying29
 go_enter Try.func35,Try.ntmps35
 go_upto_region 1 with (fail)
 have G_g:=GE
 obtain ⟨w_1,hw_g1⟩:∃ w_,w.alloc (.cells (cellsC C S) 29)=w_:=⟨_,rfl⟩
 rw [hw_g1]
 obtain ⟨w_2,hw_g2⟩:∃ w_,w_1.alloc (.cells zeroC 29)=w_:=⟨_,rfl⟩
 rw [hw_g2]
 have z_g1:w_1.heap.size=w.heap.size+1:=by rw [← hw_g1];simp
 have ha_:Below w.heap.size w w_1:=by rw [← hw_g1];exact bwa (Below.refl _ _) _
 have BX1:Aside0 (w_1.heap[w.heap.size]?=some (.cells (cellsC C S) 29 (0,0))):=⟨by rw [← hw_g1];exact blk_new w _⟩
 have hgB:W0.heap.size≤w.heap.size:=(B0.out).size
 have hl_g:g < w.heap.size:=blk_lt HI.out
 clear hw_g1
 obtain ⟨g1,hg_⟩:∃ g_,w.heap.size=g_:=⟨_,rfl⟩
 have G_g1:Aside0 (W0.heap.size≤g1):=⟨Nat.le_trans hgB (Nat.le_of_eq hg_)⟩
 rw [hg_] at BX1 z_g1 hl_g
 have E_g_g1:=amk hl_g
 clear hl_g
 (try rw [hg_])
 clear hgB
 clear hg_
 have B3:=amk (bws B0.out ha_)
 have K3_g:=amk (bkb HI.out ha_)
 have O3_oc:=amk (OC0.out.below ha_)
 clear ha_ B0 HI OC0
 have z_g2:w_2.heap.size=w_1.heap.size+1:=by rw [← hw_g2];simp
 have ha_:Below w_1.heap.size w_1 w_2:=by rw [← hw_g2];exact bwa (Below.refl _ _) _
 have BX2:Aside0 (w_2.heap[w_1.heap.size]?=some (.cells zeroC 29 (0,0))):=⟨by rw [← hw_g2];exact blk_new w_1 _⟩
 have hgB:W0.heap.size≤w_1.heap.size:=(B3.out).size
 have hl_g:g < w_1.heap.size:=blk_lt K3_g.out
 have hl_g1:g1 < w_1.heap.size:=blk_lt BX1.out
 clear hw_g2
 obtain ⟨g2,hg_⟩:∃ g_,w_1.heap.size=g_:=⟨_,rfl⟩
 have G_g2:Aside0 (W0.heap.size≤g2):=⟨Nat.le_trans hgB (Nat.le_of_eq hg_)⟩
 rw [hg_] at BX2 z_g2 hl_g hl_g1
 have E_g_g2:=amk hl_g
 clear hl_g
 have E_g1_g2:=amk hl_g1
 clear hl_g1
 (try rw [hg_])
 clear hgB
 have zz_:g1+1=g2:=by omega
 (try rw [zz_])
 clear zz_
 clear hg_
 have B4:=amk (bws B3.out ha_)
 have K4_g:=amk (bkb K3_g.out ha_)
 have K4_g1:=amk (bkb BX1.out ha_)
 have O4_oc:=amk (O3_oc.out.below ha_)
 clear ha_ B3 K3_g BX1 O3_oc
 have GG:=amk (DoesG.mk G_g.out E_g_g1.out E_g1_g2.out)
 have DI:=amk (DoesI.mk B4.out K4_g.out K4_g1.out BX2.out O4_oc.out)
 clear B4 K4_g K4_g1 BX2 O4_oc
 go_wp2_with fail
 refine (N1 _ DI.out.kg).mono ?_
 rintro e wa ⟨rfl,hi,hu⟩
 have DJ:=amk (DI.out.rd GG.out hi hu)
 clear DI hi hu
 have DI:=DJ
 clear DJ
 go_wp2_with fail
 refine (N2 _ DI.out.kg).mono ?_
 rintro e wb ⟨rfl,hi,hu⟩
 have DJ:=amk (DI.out.rd GG.out hi hu)
 clear DI hi hu
 have DI:=DJ
 clear DJ
 clear N1 N2
 go_upto_region 2 with fail
 go_cut [] (fun W=>DoesI W0 g g1 g2 C1 S r2 W)
 case first =>
  have hc13:wb.cell? ⟨g1,13,none⟩=some (.bool C.on):=(bkc DI.out.k1 13).trans rfl
  have hf13:=bkf DI.out.k1 13
  cases hon:C.on
  ·rw [hon] at hc13
   go_wp2
   go_meet
   case rel=>exact DI.out.put GG.out 13 _ (by rw [← HC.out];unfold onS;rw [hon];rfl) (by rw [← HC.out];exact ⟨⟨DI.out.o.f.o7,DI.out.o.f.o8,DI.out.o.f.o10⟩,DI.out.o.r⟩)
  ·rw [hon] at hc13
   go_wp2
   go_meet
   case rel=>exact DI.out.put GG.out 13 _ (by rw [← HC.out];unfold onS;rw [hon];rfl) (by rw [← HC.out];exact ⟨⟨DI.out.o.f.o7,DI.out.o.f.o8,DI.out.o.f.o10⟩,DI.out.o.r⟩)
 case rest =>
  clear DI HC
  have DI:=amk hcut
  clear hcut
  go_upto_block 0 with fail
  go_cut [8] (fun v W=>∃ S1,v=.bool ok∧DoesI W0 g g1 g2 D S1 r9 W)
  case first =>
   have es:=ES.out
   clear ES
   unfold swS at es
   by_cases c0:cl=0
   ·rw [if_pos c0] at es
    have d0:(cl == 0)=true:=beq_iff_eq.2 c0
    clear c0
    obtain ⟨⟨on1,r3⟩,e3⟩:∃ x,numS r2 1=x:=⟨_,rfl⟩
    rw [e3] at es
    dsimp only at es
    obtain ⟨⟨F1,ok1⟩,e4⟩:∃ x,rxS C1.F cmd on1=x:=⟨_,rfl⟩
    rw [e4] at es
    dsimp only at es
    simp only [Prod.mk.injEq] at es
    obtain ⟨rfl,rfl,rfl⟩:=es
    have N3:=num1_c g r2 on1 r3 e3
    have N4:=rx2_c C1.F F1 S.S cmd on1 ok1 e4
    have HRX:=amk e4
    clear e3 e4
    go_upto_region 6 with fail
    refine start_ (n:=12) (S:=fun w'=>w'.heap[g1]?=some (.cells (cellsC C1 S) 29 (0,0))) (ds:=[10]) (bsq 12 0) (by kernel_rfl) rfl rfl (DI.out.k1) (fun hHeld=>?_)
    refine pure_ (i:=0) (N:=some 24) (v:=?_) (a':=?_) (bsq 12 1) rfl rfl (by kernel_rfl) (fun _ _ _ h=>h) (Or.inl ⟨by rfl,?_⟩) ?_ ?_
    rotate_left
    ·intro w'
     go_simp
     with_reducible rfl
    rotate_left
    ·simp only [Act.put,bq1,bq2,bq3,i64_w,i32_w]
     rfl
    refine pure_ (i:=2) (N:=some 26) (v:=?_) (a':=?_) (bsq 12 5) rfl rfl (by kernel_rfl) (fun _ _ _ h=>h) (Or.inl ⟨by rfl,?_⟩) ?_ ?_
    rotate_left
    ·intro w'
     go_simp
     with_reducible rfl
    rotate_left
    ·simp only [Act.put,bq1,bq2,bq3,i64_w,i32_w]
     rfl
    refine pure_ (i:=3) (N:=some 27) (v:=?_) (a':=?_) (bsq 12 13) rfl rfl (by kernel_rfl) (fun _ _ _ h=>h) (Or.inl ⟨by rfl,?_⟩) ?_ ?_
    rotate_left
    ·intro w'
     go_simp
     with_reducible rfl
    rotate_left
    ·simp only [Act.put,bq1,bq2,bq3,i64_w,i32_w]
     rfl
    refine take_ (i:=1) (N:=some 25) (v:=?_) (a':=?_) (bsq 12 15) rfl rfl (by kernel_rfl) (fun _ _ _ h=>h) (Or.inl ⟨by rfl,?_⟩) hHeld ?_ ?_
    rotate_left
    ·intro w' s0
     refine exec_load_part 25 (.tmp 24) ?_ g1 0 ?_ 29 (cellsC C1 S) (cellsF C1.F S.S) (0,0) _ s0 Try.underlying25 rfl (by kernel_rfl) rfl
     ·rfl
     ·rfl
    rotate_left
    ·simp only [Act.put,bq1,bq2,bq3,i64_w,i32_w]
     rfl
    refine one_ (i:=4) (N:=some 28) (bsq 12 31) rfl rfl (by kernel_rfl) (by decide) (fun K hK=>?_)
    refine goes_ Try.func51 (by kernel_rfl) rfl #[.pointer (some ⟨g,0,none⟩),.int .i64 1] (by rfl) rfl rfl (by simp only [List.map_toArray,List.map_cons,List.map_nil];rfl) ?_
    with_reducible refine (N3 _ DI.out.drew.kg).mono ?_
    rintro e wd ⟨rfl,hi,hu⟩
    refine ⟨_,rfl,?_⟩
    have DJ:=amk (DI.out.drew.rd GG.out hi hu)
    clear DI hi hu
    have DI:=DJ
    clear DJ
    refine hK.out _ _ (DI.out.k1) (fun hHeld=>?_)
    clear hK K
    refine norm_ (a':=?_) ?_ ?_
    rotate_left
    ·show Act.put _ (some 28) _=_
     simp only [Act.put,bq1,bq2,bq3,i64_w,i32_w]
     rfl
    refine one_ (i:=5) (N:=some 29) (bsq 12 63) rfl rfl (by kernel_rfl) (by decide) (fun K hK=>?_)
    refine goes_ Try.func52 (by kernel_rfl) rfl #[.agg (cellsF C1.F S.S),.int .i64 cmd,.int .i64 on1] (by rfl) rfl rfl (by simp only [List.map_toArray,List.map_cons,List.map_nil];rfl) ?_
    with_reducible refine (N4 _).mono ?_
    rintro e we ⟨rfl,hb⟩
    refine ⟨_,rfl,?_⟩
    have DJ:=amk (DI.out.below hb)
    clear DI hb
    have DI:=DJ
    clear DJ
    refine hK.out _ _ (DI.out.k1) (fun hHeld=>?_)
    clear hK K
    refine norm_ (a':=?_) ?_ ?_
    rotate_left
    ·show Act.put _ (some 29) _=_
     simp only [Act.put,bq1,bq2,bq3,i64_w,i32_w]
     rfl
    refine pure_ (i:=6) (N:=some 23) (v:=?_) (a':=?_) (bsq 12 127) rfl rfl (by kernel_rfl) (fun _ _ _ h=>h) (Or.inl ⟨by rfl,?_⟩) ?_ ?_
    rotate_left
    ·intro w'
     go_simp
     with_reducible rfl
    rotate_left
    ·simp only [Act.put,bq1,bq2,bq3,i64_w,i32_w]
     rfl
    refine pure_ (i:=7) (N:=some 30) (v:=?_) (a':=?_) (bsq 12 255) rfl rfl (by kernel_rfl) (fun _ _ _ h=>h) (Or.inl ⟨by rfl,?_⟩) ?_ ?_
    rotate_left
    ·intro w'
     go_simp
     with_reducible rfl
    rotate_left
    ·simp only [Act.put,bq1,bq2,bq3,i64_w,i32_w]
     rfl
    refine pure_ (i:=8) (N:=some 31) (v:=?_) (a':=?_) (bsq 12 511) rfl rfl (by kernel_rfl) (fun _ _ _ h=>h) (Or.inl ⟨by rfl,?_⟩) ?_ ?_
    rotate_left
    ·intro w'
     go_simp
     with_reducible rfl
    rotate_left
    ·simp only [Act.put,bq1,bq2,bq3,i64_w,i32_w]
     rfl
    refine pure_ (i:=9) (N:=some 32) (v:=?_) (a':=?_) (bsq 12 1023) rfl rfl (by kernel_rfl) (fun _ _ _ h=>h) (Or.inl ⟨by rfl,?_⟩) ?_ ?_
    rotate_left
    ·intro w'
     go_simp
     with_reducible rfl
    rotate_left
    ·simp only [Act.put,bq1,bq2,bq3,i64_w,i32_w]
     rfl
    refine last_ (i:=10) (N:=none) (bsq 12 2047) rfl rfl (by kernel_rfl) (by decide) (fun K hK=>?_)
    refine skip_ (w1:=?_) (by rfl) rfl ?_ ?_
    rotate_left
    ·refine exec_store_part 25 (.tmp 32) (.tmp 30) ?_ g1 0 (cellsF F1 S.S) ?_ ?_ 29 _ (cellsC { C1 with F:=F1 } S) DI.out.k1 (by kernel_rfl) (Nat.le_of_ble_eq_true rfl) (by kernel_rfl) rfl
     ·rfl
     ·rfl
     ·rfl
    refine hK.out _ _ ?_
    clear hK K
    refine pure_ (i:=11) (N:=some 8) (v:=?_) (a':=?_) (bsq 12 4095) rfl rfl (by kernel_rfl) (fun _ _ _ h=>h) (Or.inl ⟨by rfl,?_⟩) ?_ ?_
    rotate_left
    ·intro w'
     go_simp
     with_reducible rfl
    rotate_left
    ·simp only [Act.put,bq1,bq2,bq3,i64_w,i32_w]
     rfl
    refine done_ (by kernel_rfl) ?_
    go_wp2
    go_meet
    case rel=>exact ⟨S,rfl,DI.out.row GG.out _ rfl ⟨rx_ov HRX.out DI.out.o.f,DI.out.o.r⟩⟩
   have d0:(cl == 0)=false:=beq_eq_false_iff_ne.2 c0
   rw [if_neg c0] at es
   clear c0
   by_cases c1:cl=1
   ·rw [if_pos c1] at es
    have d1:(cl == 1)=true:=beq_iff_eq.2 c1
    clear c1
    by_cases k0:cmd=0
    ·rw [if_pos k0] at es
     have f0:(cmd == 0)=true:=beq_iff_eq.2 k0
     clear k0
     obtain ⟨⟨us,r3⟩,e3⟩:∃ x,macsS r2=x:=⟨_,rfl⟩
     rw [e3] at es
     dsimp only at es
     obtain ⟨⟨ms,r4⟩,e4⟩:∃ x,macsS r3=x:=⟨_,rfl⟩
     rw [e4] at es
     dsimp only at es
     simp only [Prod.mk.injEq] at es
     obtain ⟨rfl,rfl,rfl⟩:=es
     have N3:=macs2_c g r2 us r3 e3
     have N4:=macs2_c g r3 ms r4 e4
     clear e3 e4
     go_wp2_with fail
     have hsz:W0.heap.size≤wc.heap.size:=DI.out.b.size
     refine (N3 _ DI.out.kg).mono ?_
     rintro e wd ⟨A7,c7,rfl,o7,hi,hu⟩
     have DJ:=amk (DI.out.rd GG.out hi hu)
     clear DI hi hu
     have DI:=DJ
     clear DJ
     have O7:=amk (own_weaken o7 hsz)
     clear o7 hsz
     have hf7:=bkf DI.out.k1 7
     have hc7:World.cell? wd ⟨g1,7,none⟩=some _:=(bkc DI.out.k1 7).trans rfl
     go_wp2_with fail
     clear hf7 hc7
     have DJ:=amk (DI.out.put (C':={ C1 with F:={ C1.F with us:=us } }) (S':=⟨⟨A7,c7,S.S.A8,S.S.c8,S.S.A10,S.S.c10⟩,S.A,S.c⟩) GG.out 7 (.slice A7 us.length c7) rfl ⟨⟨O7.out,DI.out.o.f.o8,DI.out.o.f.o10⟩,DI.out.o.r⟩)
     clear DI
     have DI:=DJ
     clear DJ
     clear O7
     have hsz:W0.heap.size≤(wd.setCell ⟨g1,7,none⟩ (.slice A7 us.length c7)).heap.size:=DI.out.b.size
     refine (N4 _ DI.out.kg).mono ?_
     rintro e we ⟨A8,c8,rfl,o8,hi,hu⟩
     have DJ:=amk (DI.out.rd GG.out hi hu)
     clear DI hi hu
     have DI:=DJ
     clear DJ
     have O8:=amk (own_weaken o8 hsz)
     clear o8 hsz
     have hf8:=bkf DI.out.k1 8
     have hc8:World.cell? we ⟨g1,8,none⟩=some _:=(bkc DI.out.k1 8).trans rfl
     go_wp2_with fail
     clear hf8 hc8
     have DJ:=amk (DI.out.put (C':={ C1 with F:={ C1.F with us:=us,ms:=ms } }) (S':=⟨⟨A7,c7,A8,c8,S.S.A10,S.S.c10⟩,S.A,S.c⟩) GG.out 8 (.slice A8 ms.length c8) rfl ⟨⟨DI.out.o.f.o7,O8.out,DI.out.o.f.o10⟩,DI.out.o.r⟩)
     clear DI
     have DI:=DJ
     clear DJ
     go_meet
     case rel=>exact ⟨⟨⟨A7,c7,A8,c8,S.S.A10,S.S.c10⟩,S.A,S.c⟩,rfl,DI.out⟩
    have f0:(cmd == 0)=false:=beq_eq_false_iff_ne.2 k0
    rw [if_neg k0] at es
    clear k0
    by_cases k1:cmd=1
    ·rw [if_pos k1] at es
     have f1:(cmd == 1)=true:=beq_iff_eq.2 k1
     clear k1
     obtain ⟨⟨mm,r3⟩,e3⟩:∃ x,takeS r2 6=x:=⟨_,rfl⟩
     rw [e3] at es
     dsimp only at es
     simp only [Prod.mk.injEq] at es
     obtain ⟨rfl,rfl,rfl⟩:=es
     have N3:=take6_c g r2 mm r3 e3
     clear e3
     go_wp2_with fail
     refine (N3 _ DI.out.kg).mono ?_
     rintro e wd ⟨rfl,hi,hu⟩
     have DJ:=amk (DI.out.rd GG.out hi hu)
     clear DI hi hu
     have DI:=DJ
     clear DJ
     have hf0:=bkf DI.out.k1 0
     have hc0:World.cell? wd ⟨g1,0,none⟩=some _:=(bkc DI.out.k1 0).trans rfl
     go_wp2_with fail
     clear hf0 hc0
     have DJ:=amk (DI.out.put (C':={ C1 with F:={ C1.F with m:=mm } }) (S':=S) GG.out 0 (.string mm) rfl ⟨⟨DI.out.o.f.o7,DI.out.o.f.o8,DI.out.o.f.o10⟩,DI.out.o.r⟩)
     clear DI
     have DI:=DJ
     clear DJ
     go_meet
     case rel=>exact ⟨S,rfl,DI.out⟩
    have f1:(cmd == 1)=false:=beq_eq_false_iff_ne.2 k1
    rw [if_neg k1] at es
    clear k1
    simp only [Prod.mk.injEq] at es
    obtain ⟨rfl,rfl,rfl⟩:=es
    go_wp2_with fail
    go_meet
    case rel=>exact ⟨S,rfl,DI.out⟩
   have d1:(cl == 1)=false:=beq_eq_false_iff_ne.2 c1
   rw [if_neg c1] at es
   clear c1
   by_cases c2:cl=2
   ·rw [if_pos c2] at es
    have d2:(cl == 2)=true:=beq_iff_eq.2 c2
    clear c2
    obtain ⟨⟨on1,r3⟩,e3⟩:∃ x,numS r2 2=x:=⟨_,rfl⟩
    rw [e3] at es
    dsimp only at es
    obtain ⟨⟨F1,ok1⟩,e4⟩:∃ x,netS C1.F cmd on1=x:=⟨_,rfl⟩
    rw [e4] at es
    dsimp only at es
    simp only [Prod.mk.injEq] at es
    obtain ⟨rfl,rfl,rfl⟩:=es
    have N3:=num2_c g r2 on1 r3 e3
    have N4:=fun w h=>nets2_c C1.F F1 S.S cmd on1 ok1 e4 w h HS.out
    clear e3 e4
    go_upto_region 16 with fail
    refine start_ (n:=12) (S:=fun w'=>w'.heap[g1]?=some (.cells (cellsC C1 S) 29 (0,0))) (ds:=[10]) (bsq 12 0) (by kernel_rfl) rfl rfl (DI.out.k1) (fun hHeld=>?_)
    refine pure_ (i:=0) (N:=some 55) (v:=?_) (a':=?_) (bsq 12 1) rfl rfl (by kernel_rfl) (fun _ _ _ h=>h) (Or.inl ⟨by rfl,?_⟩) ?_ ?_
    rotate_left
    ·intro w'
     go_simp
     with_reducible rfl
    rotate_left
    ·simp only [Act.put,bq1,bq2,bq3,i64_w,i32_w]
     rfl
    refine pure_ (i:=2) (N:=some 57) (v:=?_) (a':=?_) (bsq 12 5) rfl rfl (by kernel_rfl) (fun _ _ _ h=>h) (Or.inl ⟨by rfl,?_⟩) ?_ ?_
    rotate_left
    ·intro w'
     go_simp
     with_reducible rfl
    rotate_left
    ·simp only [Act.put,bq1,bq2,bq3,i64_w,i32_w]
     rfl
    refine pure_ (i:=3) (N:=some 58) (v:=?_) (a':=?_) (bsq 12 13) rfl rfl (by kernel_rfl) (fun _ _ _ h=>h) (Or.inl ⟨by rfl,?_⟩) ?_ ?_
    rotate_left
    ·intro w'
     go_simp
     with_reducible rfl
    rotate_left
    ·simp only [Act.put,bq1,bq2,bq3,i64_w,i32_w]
     rfl
    refine take_ (i:=1) (N:=some 56) (v:=?_) (a':=?_) (bsq 12 15) rfl rfl (by kernel_rfl) (fun _ _ _ h=>h) (Or.inl ⟨by rfl,?_⟩) hHeld ?_ ?_
    rotate_left
    ·intro w' s0
     refine exec_load_part 25 (.tmp 55) ?_ g1 0 ?_ 29 (cellsC C1 S) (cellsF C1.F S.S) (0,0) _ s0 Try.underlying25 rfl (by kernel_rfl) rfl
     ·rfl
     ·rfl
    rotate_left
    ·simp only [Act.put,bq1,bq2,bq3,i64_w,i32_w]
     rfl
    refine one_ (i:=4) (N:=some 59) (bsq 12 31) rfl rfl (by kernel_rfl) (by decide) (fun K hK=>?_)
    refine goes_ Try.func51 (by kernel_rfl) rfl #[.pointer (some ⟨g,0,none⟩),.int .i64 2] (by rfl) rfl rfl (by simp only [List.map_toArray,List.map_cons,List.map_nil];rfl) ?_
    with_reducible refine (N3 _ DI.out.drew.kg).mono ?_
    rintro e wd ⟨rfl,hi,hu⟩
    refine ⟨_,rfl,?_⟩
    have DJ:=amk (DI.out.drew.rd GG.out hi hu)
    clear DI hi hu
    have DI:=DJ
    clear DJ
    refine hK.out _ _ (DI.out.k1) (fun hHeld=>?_)
    clear hK K
    refine norm_ (a':=?_) ?_ ?_
    rotate_left
    ·show Act.put _ (some 59) _=_
     simp only [Act.put,bq1,bq2,bq3,i64_w,i32_w]
     rfl
    refine one_ (i:=5) (N:=some 60) (bsq 12 63) rfl rfl (by kernel_rfl) (by decide) (fun K hK=>?_)
    refine goes_ Try.func55 (by kernel_rfl) rfl #[.agg (cellsF C1.F S.S),.int .i64 cmd,.int .i64 on1] (by rfl) rfl rfl (by simp only [List.map_toArray,List.map_cons,List.map_nil];rfl) ?_
    with_reducible refine (N4 _ DI.out.o.f.fv).mono ?_
    rintro e we ⟨S1,rfl,hF,hb⟩
    refine ⟨_,rfl,?_⟩
    have OF:Aside0 (OV W0.heap.size we F1 S1):=⟨by
      rcases hF with ⟨q1,q2⟩ | hF
      ·rw [q1,q2];exact DI.out.o.f.below hb
      ·exact hF.weaken DI.out.b.size⟩
    have DJ:=amk (DI.out.below hb)
    clear DI hb hF
    have DI:=DJ
    clear DJ
    refine hK.out _ _ (DI.out.k1) (fun hHeld=>?_)
    clear hK K
    refine norm_ (a':=?_) ?_ ?_
    rotate_left
    ·show Act.put _ (some 60) _=_
     simp only [Act.put,bq1,bq2,bq3,i64_w,i32_w]
     rfl
    refine pure_ (i:=6) (N:=some 54) (v:=?_) (a':=?_) (bsq 12 127) rfl rfl (by kernel_rfl) (fun _ _ _ h=>h) (Or.inl ⟨by rfl,?_⟩) ?_ ?_
    rotate_left
    ·intro w'
     go_simp
     with_reducible rfl
    rotate_left
    ·simp only [Act.put,bq1,bq2,bq3,i64_w,i32_w]
     rfl
    refine pure_ (i:=7) (N:=some 61) (v:=?_) (a':=?_) (bsq 12 255) rfl rfl (by kernel_rfl) (fun _ _ _ h=>h) (Or.inl ⟨by rfl,?_⟩) ?_ ?_
    rotate_left
    ·intro w'
     go_simp
     with_reducible rfl
    rotate_left
    ·simp only [Act.put,bq1,bq2,bq3,i64_w,i32_w]
     rfl
    refine pure_ (i:=8) (N:=some 62) (v:=?_) (a':=?_) (bsq 12 511) rfl rfl (by kernel_rfl) (fun _ _ _ h=>h) (Or.inl ⟨by rfl,?_⟩) ?_ ?_
    rotate_left
    ·intro w'
     go_simp
     with_reducible rfl
    rotate_left
    ·simp only [Act.put,bq1,bq2,bq3,i64_w,i32_w]
     rfl
    refine pure_ (i:=9) (N:=some 63) (v:=?_) (a':=?_) (bsq 12 1023) rfl rfl (by kernel_rfl) (fun _ _ _ h=>h) (Or.inl ⟨by rfl,?_⟩) ?_ ?_
    rotate_left
    ·intro w'
     go_simp
     with_reducible rfl
    rotate_left
    ·simp only [Act.put,bq1,bq2,bq3,i64_w,i32_w]
     rfl
    refine last_ (i:=10) (N:=none) (bsq 12 2047) rfl rfl (by kernel_rfl) (by decide) (fun K hK=>?_)
    refine skip_ (w1:=?_) (by rfl) rfl ?_ ?_
    rotate_left
    ·refine exec_store_part 25 (.tmp 63) (.tmp 61) ?_ g1 0 (cellsF F1 S1) ?_ ?_ 29 _ (cellsC { C1 with F:=F1 } ⟨S1,S.A,S.c⟩) DI.out.k1 (by kernel_rfl) (Nat.le_of_ble_eq_true rfl) (by kernel_rfl) rfl
     ·rfl
     ·rfl
     ·rfl
    refine hK.out _ _ ?_
    clear hK K
    refine pure_ (i:=11) (N:=some 8) (v:=?_) (a':=?_) (bsq 12 4095) rfl rfl (by kernel_rfl) (fun _ _ _ h=>h) (Or.inl ⟨by rfl,?_⟩) ?_ ?_
    rotate_left
    ·intro w'
     go_simp
     with_reducible rfl
    rotate_left
    ·simp only [Act.put,bq1,bq2,bq3,i64_w,i32_w]
     rfl
    refine done_ (by kernel_rfl) ?_
    go_wp2
    go_meet
    case rel=>exact ⟨⟨S1,S.A,S.c⟩,rfl,DI.out.row GG.out _ rfl ⟨OF.out,DI.out.o.r⟩⟩
   have d2:(cl == 2)=false:=beq_eq_false_iff_ne.2 c2
   rw [if_neg c2] at es
   clear c2
   by_cases c4:cl=4
   ·rw [if_pos c4] at es
    have d4:(cl == 4)=true:=beq_iff_eq.2 c4
    clear c4
    obtain ⟨⟨D4,ok4,r4⟩,e4⟩:∃ x,pairS C1 cmd r2=x:=⟨_,rfl⟩
    rw [e4] at es
    dsimp only at es
    simp only [Prod.mk.injEq] at es
    obtain ⟨rfl,rfl,rfl⟩:=es
    have E4:=amk e4
    clear e4
    go_upto_block 2 with fail
    go_cut [8] (fun v W=>∃ S1,v=.bool ok4∧DoesI W0 g g1 g2 D4 S1 r4 W)
    case first =>
     have es:=E4.out
     clear E4
     unfold pairS at es
     by_cases k0:cmd=0
     ·rw [if_pos k0] at es
      have f0:(cmd == 0)=true:=beq_iff_eq.2 k0
      clear k0
      obtain ⟨⟨pp,r3⟩,e3⟩:∃ x,numS r2 2=x:=⟨_,rfl⟩
      rw [e3] at es
      dsimp only at es
      simp only [Prod.mk.injEq] at es
      obtain ⟨rfl,rfl,rfl⟩:=es
      have N3:=num2_c g r2 pp r3 e3
      clear e3
      go_wp2_with fail
      refine (N3 _ DI.out.kg).mono ?_
      rintro e wd ⟨rfl,hi,hu⟩
      have DJ:=amk (DI.out.rd GG.out hi hu)
      clear DI hi hu
      have DI:=DJ
      clear DJ
      have hf11:=bkf DI.out.k1 11
      have hc11:World.cell? wd ⟨g1,11,none⟩=some _:=(bkc DI.out.k1 11).trans rfl
      go_wp2_with fail
      clear hf11 hc11
      have DJ:=amk (DI.out.put (C':={ C1 with p:=pp }) (S':=S) GG.out 11 (.int .i64 pp) rfl ⟨⟨DI.out.o.f.o7,DI.out.o.f.o8,DI.out.o.f.o10⟩,DI.out.o.r⟩)
      clear DI
      have DI:=DJ
      clear DJ
      go_meet
      case rel=>exact ⟨S,rfl,DI.out⟩
     have f0:(cmd == 0)=false:=beq_eq_false_iff_ne.2 k0
     rw [if_neg k0] at es
     clear k0
     by_cases k1:cmd=1
     ·rw [if_pos k1] at es
      have f1:(cmd == 1)=true:=beq_iff_eq.2 k1
      clear k1
      dsimp only at es
      have hl:=rules_len r2
      have hk:=rules_kn r2
      obtain ⟨u,e3⟩:∃ x,rulesS r2=x:=⟨_,rfl⟩
      rw [e3] at es hl hk
      obtain ⟨⟨pp,r5⟩,e5⟩:∃ x,numS u.r 2=x:=⟨_,rfl⟩
      rw [e5] at es
      dsimp only at es
      have hn0:=(num_range r5 1 (by decide)).1
      obtain ⟨⟨kk,r6⟩,e6⟩:∃ x,numS r5 1=x:=⟨_,rfl⟩
      rw [e6] at es hn0
      dsimp only at es hn0
      obtain ⟨⟨key,r7⟩,e7⟩:∃ x,takeS r6 kk.toNat=x:=⟨_,rfl⟩
      rw [e7] at es
      dsimp only at es
      simp only [Prod.mk.injEq] at es
      obtain ⟨rfl,rfl,rfl⟩:=es
      have N3:=rules2_c g r2 u e3
      have N5:=num2_c g u.r pp r5 e5
      have N6:=num1_c g r5 kk r6 e6
      have N7:=taken_c g r6 kk hn0 key r7 e7
      have HL:=amk hl
      have HK:=amk hk
      clear e3 e5 e6 e7 hn0 hl hk
      go_wp2_with fail
      have hsz:W0.heap.size≤wc.heap.size:=DI.out.b.size
      refine (N3 _ DI.out.kg).mono ?_
      rintro e wd ⟨A,c,rfl,oo,hi,hu⟩
      have DJ:=amk (DI.out.rd GG.out hi hu)
      clear DI hi hu
      have DI:=DJ
      clear DJ
      have OO:=amk (own_weaken oo hsz)
      clear oo hsz
      go_wp2_with (refine wpList_store_part rfl 27 (.tmp 76) (.tmp 75) rfl g1 14 #[.int .i64 u.kn,.slice A u.tab.length c,.string ⟨#[]⟩,.int .i64 u.df] rfl rfl 29 _ (cellsC { C1 with kn:=u.kn,tab:=u.tab,key:=⟨#[]⟩,df:=u.df } ⟨S.S,A,c⟩) DI.out.k1 (by kernel_rfl) (Nat.le_of_ble_eq_true rfl) (by kernel_rfl) rfl ?_;obtain ⟨we,hw⟩:∃ x,wd.setRow g1 (cellsC { C1 with kn:=u.kn,tab:=u.tab,key:=⟨#[]⟩,df:=u.df } ⟨S.S,A,c⟩)=x:=⟨_,rfl⟩;have DJ:Aside0 (DoesI W0 g g1 g2 { C1 with kn:=u.kn,tab:=u.tab,key:=⟨#[]⟩,df:=u.df } ⟨S.S,A,c⟩ u.r we):=⟨by rw [← hw];exact DI.out.row GG.out _ rfl ⟨⟨DI.out.o.f.o7,DI.out.o.f.o8,DI.out.o.f.o10⟩,OO.out⟩⟩;rw [hw];clear hw DI OO;have DI:=DJ;clear DJ;have hf13:=bkf DI.out.k1 13;have hc13:we.cell? ⟨g1,13,none⟩=some _:=(bkc DI.out.k1 13).trans rfl)
      clear hf13 hc13
      have DJ:=amk (DI.out.put (C':={ C1 with kn:=u.kn,tab:=u.tab,key:=⟨#[]⟩,df:=u.df,on:=true }) (S':=⟨S.S,A,c⟩) GG.out 13 (.bool true) rfl ⟨⟨DI.out.o.f.o7,DI.out.o.f.o8,DI.out.o.f.o10⟩,DI.out.o.r⟩)
      clear DI
      have DI:=DJ
      clear DJ
      refine (N5 _ DI.out.kg).mono ?_
      rintro e wf ⟨rfl,hi,hu⟩
      have DJ:=amk (DI.out.rd GG.out hi hu)
      clear DI hi hu
      have DI:=DJ
      clear DJ
      have hf11:=bkf DI.out.k1 11
      have hc11:World.cell? wf ⟨g1,11,none⟩=some _:=(bkc DI.out.k1 11).trans rfl
      go_wp2_with fail
      clear hf11 hc11
      have DJ:=amk (DI.out.put (C':={ C1 with kn:=u.kn,tab:=u.tab,key:=⟨#[]⟩,df:=u.df,on:=true,p:=pp }) (S':=⟨S.S,A,c⟩) GG.out 11 (.int .i64 pp) rfl ⟨⟨DI.out.o.f.o7,DI.out.o.f.o8,DI.out.o.f.o10⟩,DI.out.o.r⟩)
      clear DI
      have DI:=DJ
      clear DJ
      refine (N6 _ DI.out.kg).mono ?_
      rintro e wg ⟨rfl,hi,hu⟩
      have DJ:=amk (DI.out.rd GG.out hi hu)
      clear DI hi hu
      have DI:=DJ
      clear DJ
      go_wp2_with fail
      refine (N7 _ DI.out.kg).mono ?_
      rintro e wh ⟨rfl,hi,hu⟩
      have DJ:=amk (DI.out.rd GG.out hi hu)
      clear DI hi hu
      have DI:=DJ
      clear DJ
      have hf16:=bkf DI.out.k1 16
      have hc16:World.cell? wh ⟨g1,16,none⟩=some _:=(bkc DI.out.k1 16).trans rfl
      go_upto_region 26 with fail
      clear hf16 hc16
      have DJ:=amk (DI.out.put (C':={ C1 with kn:=u.kn,tab:=u.tab,key:=key,df:=u.df,on:=true,p:=pp }) (S':=⟨S.S,A,c⟩) GG.out 16 (.string key) rfl ⟨⟨DI.out.o.f.o7,DI.out.o.f.o8,DI.out.o.f.o10⟩,DI.out.o.r⟩)
      clear DI
      have DI:=DJ
      clear DJ
      obtain ⟨wi,hw⟩:∃ x,wh.setCell ⟨g1,16,none⟩ (.string key)=x:=⟨_,rfl⟩
      rw [hw] at DI ⊢
      clear hw
      obtain ⟨zr,hzr⟩:∃ z,rssS u.kn u.tab key u.df=z:=⟨_,rfl⟩
      have R1:=fun w h=>rssc2_c u.kn A c u.tab key u.df w HK.out.1 (by have:=HK.out.2;omega) h DI.out.o.cv.l (by have:=HL.out;omega)
      obtain ⟨zb,hzb⟩:∃ z,belowS u.df C1.mx u.tab=z:=⟨_,rfl⟩
      have R2:=fun w h=>below_c u.kn A c u.tab key u.df C1.mx w h (by have:=HL.out;omega)
      rw [hzr] at R1
      rw [hzb] at R2
      have HZ:=amk hzr
      have HB:=amk hzb
      clear hzr hzb
      by_cases hx:zr=0
      ·subst hx
       go_wp2_with (refine wpList_load_part_g (by rfl) 27 (.tmp 87) rfl g1 14 rfl 29 _ #[.int .i64 u.kn,.slice A u.tab.length c,.string key,.int .i64 u.df] (0,0) _ DI.out.k1 Try.underlying27 rfl (by kernel_rfl) rfl ?_)
       refine (R1 _ DI.out.o.cv.r).mono ?_
       rintro e wj ⟨rfl,hb⟩
       have DJ:=amk (DI.out.below hb)
       clear DI hb
       have DI:=DJ
       clear DJ
       have hf12:=bkf DI.out.k1 12
       have hc12:World.cell? wj ⟨g1,12,none⟩=some _:=(bkc DI.out.k1 12).trans rfl
       go_wp2_with (refine wpList_load_part_g (by rfl) 27 (.tmp 92) rfl g1 14 rfl 29 _ #[.int .i64 u.kn,.slice A u.tab.length c,.string key,.int .i64 u.df] (0,0) _ DI.out.k1 Try.underlying27 rfl (by kernel_rfl) rfl ?_)
       refine (R2 _ DI.out.o.cv.r).mono ?_
       rintro e wk ⟨rfl,hb⟩
       have DJ:=amk (DI.out.below hb)
       clear DI hb hc12 hf12
       have DI:=DJ
       clear DJ
       go_wp2_with fail
       go_meet
       case rel=>exact ⟨⟨S.S,A,c⟩,by rw [HZ.out,HB.out];rfl,DI.out⟩
      ·have hy:(zr == 0)=false:=beq_eq_false_iff_ne.2 hx
       go_wp2_with (refine wpList_load_part_g (by rfl) 27 (.tmp 87) rfl g1 14 rfl 29 _ #[.int .i64 u.kn,.slice A u.tab.length c,.string key,.int .i64 u.df] (0,0) _ DI.out.k1 Try.underlying27 rfl (by kernel_rfl) rfl ?_)
       refine (R1 _ DI.out.o.cv.r).mono ?_
       rintro e wj ⟨rfl,hb⟩
       have DJ:=amk (DI.out.below hb)
       clear DI hb
       have DI:=DJ
       clear DJ
       go_wp2_with fail
       go_meet
       case rel=>exact ⟨⟨S.S,A,c⟩,by rw [HZ.out,HB.out];rw [hy];rfl,DI.out⟩
     have f1:(cmd == 1)=false:=beq_eq_false_iff_ne.2 k1
     rw [if_neg k1] at es
     clear k1
     simp only [Prod.mk.injEq] at es
     obtain ⟨rfl,rfl,rfl⟩:=es
     go_wp2_with fail
     go_meet
     case rel=>exact ⟨S,rfl,DI.out⟩
    case rest =>
     clear E4 DI
     obtain ⟨S1,rfl,hD⟩:=hcut
     have DI:=amk hD
     clear hD
     have hf11:=bkf DI.out.k1 11
     have hc11:World.cell? wc ⟨g1,11,none⟩=some _:=(bkc DI.out.k1 11).trans rfl
     have hf12:=bkf DI.out.k1 12
     have hc12:World.cell? wc ⟨g1,12,none⟩=some _:=(bkc DI.out.k1 12).trans rfl
     cases ok4
     ·go_wp2_with fail
      go_meet
      case rel=>exact ⟨S1,rfl,DI.out⟩
     ·cases hp:decide (D4.p ≥ 1)
      ·go_wp2_with fail
       go_meet
       case rel=>exact ⟨S1,by rw [hp];rfl,DI.out⟩
      ·go_wp2_with fail
       go_meet
       case rel=>exact ⟨S1,by rw [hp];rfl,DI.out⟩
   have d4:(cl == 4)=false:=beq_eq_false_iff_ne.2 c4
   rw [if_neg c4] at es
   clear c4
   simp only [Prod.mk.injEq] at es
   obtain ⟨rfl,rfl,rfl⟩:=es
   go_wp2_with fail
   go_meet
   case rel=>exact ⟨S,rfl,DI.out⟩
  case rest =>
   clear DI
   obtain ⟨S1,rfl,hD⟩:=hcut
   have DI:=amk hD
   clear hD
   obtain ⟨s9,b9⟩:=r9
   go_upto_region 28 with fail
   cases ok
   ·have hz:=0
    refine start_ (n:=18) (S:=fun w'=>w'.heap[g1]?=some (.cells (cellsC D S1) 29 (0,0))∧w'.cell? ⟨g,1,none⟩=some (.bool b9)∧w'.cell? ⟨g,0,none⟩=some (.string s9)) (ds:=[]) (bsq 18 0) (by kernel_rfl) rfl rfl ⟨DI.out.drew.k1,(bkc DI.out.drew.kg 1).trans rfl,(bkc DI.out.drew.kg 0).trans rfl⟩ (fun hHeld=>?_)
    refine pure_ (i:=1) (N:=some 112) (v:=?_) (a':=?_) (bsq 18 2) rfl rfl (by kernel_rfl) (fun _ _ _ h=>h) (Or.inl ⟨by rfl,?_⟩) ?_ ?_
    rotate_left
    ·intro w'
     go_simp
     with_reducible rfl
    rotate_left
    ·simp only [Act.put,bq1,bq2,bq3,i64_w,i32_w]
     rfl
    refine pure_ (i:=2) (N:=some 113) (v:=?_) (a':=?_) (bsq 18 6) rfl rfl (by kernel_rfl) (fun _ _ _ h=>h) (Or.inl ⟨by rfl,?_⟩) ?_ ?_
    rotate_left
    ·intro w'
     go_simp
     with_reducible rfl
    rotate_left
    ·simp only [Act.put,bq1,bq2,bq3,i64_w,i32_w]
     rfl
    refine pure_ (i:=3) (N:=some 114) (v:=undef) (a':=?_) (bsq 18 14) rfl rfl (by kernel_rfl) (fun _ _ _ h=>h) (Or.inr ⟨by rfl,rfl⟩) ?_ ?_
    rotate_left
    ·simp only [Act.put,bq1,bq2,bq3,i64_w,i32_w]
     rfl
    refine pure_ (i:=4) (N:=some 115) (v:=undef) (a':=?_) (bsq 18 30) rfl rfl (by kernel_rfl) (fun _ _ _ h=>h) (Or.inr ⟨by rfl,rfl⟩) ?_ ?_
    rotate_left
    ·simp only [Act.put,bq1,bq2,bq3,i64_w,i32_w]
     rfl
    refine pure_ (i:=5) (N:=some 116) (v:=undef) (a':=?_) (bsq 18 62) rfl rfl (by kernel_rfl) (fun _ _ _ h=>h) (Or.inr ⟨by rfl,rfl⟩) ?_ ?_
    rotate_left
    ·simp only [Act.put,bq1,bq2,bq3,i64_w,i32_w]
     rfl
    refine pure_ (i:=6) (N:=some 117) (v:=undef) (a':=?_) (bsq 18 126) rfl rfl (by kernel_rfl) (fun _ _ _ h=>h) (Or.inr ⟨by rfl,rfl⟩) ?_ ?_
    rotate_left
    ·simp only [Act.put,bq1,bq2,bq3,i64_w,i32_w]
     rfl
    refine pure_ (i:=7) (N:=some 118) (v:=undef) (a':=?_) (bsq 18 254) rfl rfl (by kernel_rfl) (fun _ _ _ h=>h) (Or.inr ⟨by rfl,rfl⟩) ?_ ?_
    rotate_left
    ·simp only [Act.put,bq1,bq2,bq3,i64_w,i32_w]
     rfl
    refine pure_ (i:=8) (N:=some 119) (v:=?_) (a':=?_) (bsq 18 510) rfl rfl (by kernel_rfl) (fun _ _ _ h=>h) (Or.inl ⟨by rfl,?_⟩) ?_ ?_
    rotate_left
    ·intro w'
     go_simp
     with_reducible rfl
    rotate_left
    ·simp only [Act.put,bq1,bq2,bq3,i64_w,i32_w]
     rfl
    refine pure_ (i:=9) (N:=some 120) (v:=?_) (a':=?_) (bsq 18 1022) rfl rfl (by kernel_rfl) (fun _ _ _ h=>h) (Or.inl ⟨by rfl,?_⟩) ?_ ?_
    rotate_left
    ·intro w'
     go_simp
     with_reducible rfl
    rotate_left
    ·simp only [Act.put,bq1,bq2,bq3,i64_w,i32_w]
     rfl
    refine pure_ (i:=10) (N:=some 121) (v:=undef) (a':=?_) (bsq 18 2046) rfl rfl (by kernel_rfl) (fun _ _ _ h=>h) (Or.inr ⟨by rfl,rfl⟩) ?_ ?_
    rotate_left
    ·simp only [Act.put,bq1,bq2,bq3,i64_w,i32_w]
     rfl
    refine pure_ (i:=11) (N:=some 122) (v:=undef) (a':=?_) (bsq 18 4094) rfl rfl (by kernel_rfl) (fun _ _ _ h=>h) (Or.inr ⟨by rfl,rfl⟩) ?_ ?_
    rotate_left
    ·simp only [Act.put,bq1,bq2,bq3,i64_w,i32_w]
     rfl
    refine pure_ (i:=12) (N:=some 123) (v:=undef) (a':=?_) (bsq 18 8190) rfl rfl (by kernel_rfl) (fun _ _ _ h=>h) (Or.inr ⟨by rfl,rfl⟩) ?_ ?_
    rotate_left
    ·simp only [Act.put,bq1,bq2,bq3,i64_w,i32_w]
     rfl
    refine pure_ (i:=13) (N:=some 124) (v:=undef) (a':=?_) (bsq 18 16382) rfl rfl (by kernel_rfl) (fun _ _ _ h=>h) (Or.inr ⟨by rfl,rfl⟩) ?_ ?_
    rotate_left
    ·simp only [Act.put,bq1,bq2,bq3,i64_w,i32_w]
     rfl
    refine pure_ (i:=14) (N:=some 125) (v:=undef) (a':=?_) (bsq 18 32766) rfl rfl (by kernel_rfl) (fun _ _ _ h=>h) (Or.inr ⟨by rfl,rfl⟩) ?_ ?_
    rotate_left
    ·simp only [Act.put,bq1,bq2,bq3,i64_w,i32_w]
     rfl
    refine pure_ (i:=15) (N:=some 126) (v:=?_) (a':=?_) (bsq 18 65534) rfl rfl (by kernel_rfl) (fun _ _ _ h=>h) (Or.inl ⟨by rfl,?_⟩) ?_ ?_
    rotate_left
    ·intro w'
     go_simp
     with_reducible rfl
    rotate_left
    ·simp only [Act.put,bq1,bq2,bq3,i64_w,i32_w]
     rfl
    refine take_ (i:=0) (N:=some 111) (v:=?_) (a':=?_) (bsq 18 65535) rfl rfl (by kernel_rfl) (fun _ _ _ h=>h) (Or.inl ⟨by rfl,?_⟩) hHeld ?_ ?_
    rotate_left
    ·rintro w' ⟨s0,s1,s2⟩
     refine exec_load_part 29 (.tmp 3) ?_ g1 0 ?_ 29 (cellsC D S1) (cellsC D S1) (0,0) _ s0 Try.underlying29 rfl (by kernel_rfl) rfl
     ·rfl
     ·rfl
    rotate_left
    ·simp only [Act.put,bq1,bq2,bq3,i64_w,i32_w]
     rfl
    refine one_ (i:=16) (N:=none) (bsq 18 131071) rfl rfl (by kernel_rfl) (by decide) (fun K hK=>?_)
    refine skip_ (w1:=?_) (by rfl) rfl ?_ ?_
    rotate_left
    ·refine exec_store_part 29 (.tmp 4) (.tmp 111) ?_ g2 0 (cellsC D S1) ?_ ?_ 29 _ (cellsC D S1) DI.out.drew.k2 (by kernel_rfl) (Nat.le_of_ble_eq_true rfl) (by kernel_rfl) rfl
     ·rfl
     ·rfl
     ·rfl
    refine hK.out _ _ ⟨(DI.out.drew.fin GG.out).2.2.2.1,(bkc (DI.out.drew.fin GG.out).2.2.2.2 1).trans rfl,(bkc (DI.out.drew.fin GG.out).2.2.2.2 0).trans rfl⟩ (fun hHeld=>?_)
    clear hK K
    refine pure_ (i:=17) (N:=some 5) (v:=?_) (a':=?_) (bsq 18 262143) rfl rfl (by kernel_rfl) (fun _ _ _ h=>h) (Or.inl ⟨by rfl,?_⟩) ?_ ?_
    rotate_left
    ·intro w'
     go_simp
     with_reducible rfl
    rotate_left
    ·simp only [Act.put,bq1,bq2,bq3,i64_w,i32_w]
     rfl
    refine done_ (by kernel_rfl) ?_
    go_wp2_with fail
    exact bodyPost_ret (res35 _ _ g2 _ _ _ _ _ _ _ _ _ _ _ _ _ _ _ _ _ _ _ rfl rfl (DI.out.drew.fin GG.out).1) rfl ⟨S1,rfl,(DI.out.drew.fin GG.out).2.1,(DI.out.drew.fin GG.out).2.2.1⟩
   ·cases b9
    ·have hz:=0
     refine start_ (n:=18) (S:=fun w'=>w'.heap[g1]?=some (.cells (cellsC D S1) 29 (0,0))∧w'.cell? ⟨g,1,none⟩=some (.bool false)∧w'.cell? ⟨g,0,none⟩=some (.string s9)) (ds:=[]) (bsq 18 0) (by kernel_rfl) rfl rfl ⟨DI.out.drew.k1,(bkc DI.out.drew.kg 1).trans rfl,(bkc DI.out.drew.kg 0).trans rfl⟩ (fun hHeld=>?_)
     refine pure_ (i:=1) (N:=some 112) (v:=?_) (a':=?_) (bsq 18 2) rfl rfl (by kernel_rfl) (fun _ _ _ h=>h) (Or.inl ⟨by rfl,?_⟩) ?_ ?_
     rotate_left
     ·intro w'
      go_simp
      with_reducible rfl
     rotate_left
     ·simp only [Act.put,bq1,bq2,bq3,i64_w,i32_w]
      rfl
     refine pure_ (i:=2) (N:=some 113) (v:=?_) (a':=?_) (bsq 18 6) rfl rfl (by kernel_rfl) (fun _ _ _ h=>h) (Or.inl ⟨by rfl,?_⟩) ?_ ?_
     rotate_left
     ·intro w'
      go_simp
      with_reducible rfl
     rotate_left
     ·simp only [Act.put,bq1,bq2,bq3,i64_w,i32_w]
      rfl
     refine pure_ (i:=3) (N:=some 114) (v:=?_) (a':=?_) (bsq 18 14) rfl rfl (by kernel_rfl) (fun _ _ _ h=>h) (Or.inl ⟨by rfl,?_⟩) ?_ ?_
     rotate_left
     ·intro w'
      go_simp
      with_reducible rfl
     rotate_left
     ·simp only [Act.put,bq1,bq2,bq3,i64_w,i32_w]
      rfl
     refine pure_ (i:=4) (N:=some 115) (v:=?_) (a':=?_) (bsq 18 30) rfl rfl (by kernel_rfl) (fun _ _ _ h=>h) (Or.inl ⟨by rfl,?_⟩) ?_ ?_
     rotate_left
     ·intro w'
      go_simp
      with_reducible rfl
     rotate_left
     ·simp only [Act.put,bq1,bq2,bq3,i64_w,i32_w]
      rfl
     refine pure_ (i:=5) (N:=some 116) (v:=?_) (a':=?_) (bsq 18 62) rfl rfl (by kernel_rfl) (fun _ _ _ h=>h) (Or.inl ⟨by rfl,?_⟩) ?_ ?_
     rotate_left
     ·intro w'
      go_simp
      with_reducible rfl
     rotate_left
     ·simp only [Act.put,bq1,bq2,bq3,i64_w,i32_w]
      rfl
     refine take_ (i:=0) (N:=some 111) (v:=?_) (a':=?_) (bsq 18 63) rfl rfl (by kernel_rfl) (fun _ _ _ h=>h) (Or.inl ⟨by rfl,?_⟩) hHeld ?_ ?_
     rotate_left
     ·rintro w' ⟨s0,s1,s2⟩
      refine exec_load_part 29 (.tmp 3) ?_ g1 0 ?_ 29 (cellsC D S1) (cellsC D S1) (0,0) _ s0 Try.underlying29 rfl (by kernel_rfl) rfl
      ·rfl
      ·rfl
     rotate_left
     ·simp only [Act.put,bq1,bq2,bq3,i64_w,i32_w]
      rfl
     refine take_ (i:=6) (N:=some 117) (v:=?_) (a':=?_) (bsq 18 127) rfl rfl (by kernel_rfl) (fun _ _ _ h=>h) (Or.inl ⟨by rfl,?_⟩) hHeld ?_ ?_
     rotate_left
     ·rintro w' ⟨s0,s1,s2⟩
      go_simp
      with_reducible rfl
     rotate_left
     ·simp only [Act.put,bq1,bq2,bq3,i64_w,i32_w]
      rfl
     refine pure_ (i:=7) (N:=some 118) (v:=?_) (a':=?_) (bsq 18 255) rfl rfl (by kernel_rfl) (fun _ _ _ h=>h) (Or.inl ⟨by rfl,?_⟩) ?_ ?_
     rotate_left
     ·intro w'
      go_simp
      with_reducible rfl
     rotate_left
     ·simp only [Act.put,bq1,bq2,bq3,i64_w,i32_w]
      rfl
     refine pure_ (i:=8) (N:=some 119) (v:=?_) (a':=?_) (bsq 18 511) rfl rfl (by kernel_rfl) (fun _ _ _ h=>h) (Or.inl ⟨by rfl,?_⟩) ?_ ?_
     rotate_left
     ·intro w'
      go_simp
      with_reducible rfl
     rotate_left
     ·simp only [Act.put,bq1,bq2,bq3,i64_w,i32_w]
      rfl
     refine pure_ (i:=9) (N:=some 120) (v:=?_) (a':=?_) (bsq 18 1023) rfl rfl (by kernel_rfl) (fun _ _ _ h=>h) (Or.inl ⟨by rfl,?_⟩) ?_ ?_
     rotate_left
     ·intro w'
      go_simp
      with_reducible rfl
     rotate_left
     ·simp only [Act.put,bq1,bq2,bq3,i64_w,i32_w]
      rfl
     refine pure_ (i:=10) (N:=some 121) (v:=?_) (a':=?_) (bsq 18 2047) rfl rfl (by kernel_rfl) (fun _ _ _ h=>h) (Or.inl ⟨by rfl,?_⟩) ?_ ?_
     rotate_left
     ·intro w'
      go_simp
      with_reducible rfl
     rotate_left
     ·simp only [Act.put,bq1,bq2,bq3,i64_w,i32_w]
      rfl
     refine pure_ (i:=11) (N:=some 122) (v:=?_) (a':=?_) (bsq 18 4095) rfl rfl (by kernel_rfl) (fun _ _ _ h=>h) (Or.inl ⟨by rfl,?_⟩) ?_ ?_
     rotate_left
     ·intro w'
      go_simp
      with_reducible rfl
     rotate_left
     ·simp only [Act.put,bq1,bq2,bq3,i64_w,i32_w]
      rfl
     refine pure_ (i:=12) (N:=some 123) (v:=?_) (a':=?_) (bsq 18 8191) rfl rfl (by kernel_rfl) (fun _ _ _ h=>h) (Or.inl ⟨by rfl,?_⟩) ?_ ?_
     rotate_left
     ·intro w'
      go_simp
      with_reducible rfl
     rotate_left
     ·simp only [Act.put,bq1,bq2,bq3,i64_w,i32_w]
      rfl
     refine take_ (i:=13) (N:=some 124) (v:=?_) (a':=?_) (bsq 18 16383) rfl rfl (by kernel_rfl) (fun _ _ _ h=>h) (Or.inl ⟨by rfl,?_⟩) hHeld ?_ ?_
     rotate_left
     ·rintro w' ⟨s0,s1,s2⟩
      go_simp
      with_reducible rfl
     rotate_left
     ·simp only [Act.put,bq1,bq2,bq3,i64_w,i32_w]
      rfl
     refine pure_ (i:=14) (N:=some 125) (v:=?_) (a':=?_) (bsq 18 32767) rfl rfl (by kernel_rfl) (fun _ _ _ h=>h) (Or.inl ⟨by rfl,?_⟩) ?_ ?_
     rotate_left
     ·intro w'
      go_simp
      with_reducible rfl
     rotate_left
     ·simp only [Act.put,bq1,bq2,bq3,i64_w,i32_w]
      rfl
     refine pure_ (i:=15) (N:=some 126) (v:=?_) (a':=?_) (bsq 18 65535) rfl rfl (by kernel_rfl) (fun _ _ _ h=>h) (Or.inl ⟨by rfl,?_⟩) ?_ ?_
     rotate_left
     ·intro w'
      go_simp
      with_reducible rfl
     rotate_left
     ·simp only [Act.put,bq1,bq2,bq3,i64_w,i32_w]
      rfl
     refine one_ (i:=16) (N:=none) (bsq 18 131071) rfl rfl (by kernel_rfl) (by decide) (fun K hK=>?_)
     refine skip_ (w1:=?_) (by rfl) rfl ?_ ?_
     rotate_left
     ·refine exec_store_part 29 (.tmp 4) (.tmp 111) ?_ g2 0 (cellsC D S1) ?_ ?_ 29 _ (cellsC D S1) DI.out.drew.k2 (by kernel_rfl) (Nat.le_of_ble_eq_true rfl) (by kernel_rfl) rfl
      ·rfl
      ·rfl
      ·rfl
     refine hK.out _ _ ⟨(DI.out.drew.fin GG.out).2.2.2.1,(bkc (DI.out.drew.fin GG.out).2.2.2.2 1).trans rfl,(bkc (DI.out.drew.fin GG.out).2.2.2.2 0).trans rfl⟩ (fun hHeld=>?_)
     clear hK K
     refine pure_ (i:=17) (N:=some 5) (v:=?_) (a':=?_) (bsq 18 262143) rfl rfl (by kernel_rfl) (fun _ _ _ h=>h) (Or.inl ⟨by rfl,?_⟩) ?_ ?_
     rotate_left
     ·intro w'
      go_simp
      with_reducible rfl
     rotate_left
     ·simp only [Act.put,bq1,bq2,bq3,i64_w,i32_w]
      rfl
     refine done_ (by kernel_rfl) ?_
     go_wp2_with fail
     exact bodyPost_ret (res35 _ _ g2 _ _ _ _ _ _ _ _ _ _ _ _ _ _ _ _ _ _ _ rfl rfl (DI.out.drew.fin GG.out).1) rfl ⟨S1,rfl,(DI.out.drew.fin GG.out).2.1,(DI.out.drew.fin GG.out).2.2.1⟩
    ·have hz:=0
     refine start_ (n:=18) (S:=fun w'=>w'.heap[g1]?=some (.cells (cellsC D S1) 29 (0,0))∧w'.cell? ⟨g,1,none⟩=some (.bool true)∧w'.cell? ⟨g,0,none⟩=some (.string s9)) (ds:=[]) (bsq 18 0) (by kernel_rfl) rfl rfl ⟨DI.out.drew.k1,(bkc DI.out.drew.kg 1).trans rfl,(bkc DI.out.drew.kg 0).trans rfl⟩ (fun hHeld=>?_)
     refine pure_ (i:=1) (N:=some 112) (v:=?_) (a':=?_) (bsq 18 2) rfl rfl (by kernel_rfl) (fun _ _ _ h=>h) (Or.inl ⟨by rfl,?_⟩) ?_ ?_
     rotate_left
     ·intro w'
      go_simp
      with_reducible rfl
     rotate_left
     ·simp only [Act.put,bq1,bq2,bq3,i64_w,i32_w]
      rfl
     refine pure_ (i:=2) (N:=some 113) (v:=?_) (a':=?_) (bsq 18 6) rfl rfl (by kernel_rfl) (fun _ _ _ h=>h) (Or.inl ⟨by rfl,?_⟩) ?_ ?_
     rotate_left
     ·intro w'
      go_simp
      with_reducible rfl
     rotate_left
     ·simp only [Act.put,bq1,bq2,bq3,i64_w,i32_w]
      rfl
     refine pure_ (i:=3) (N:=some 114) (v:=?_) (a':=?_) (bsq 18 14) rfl rfl (by kernel_rfl) (fun _ _ _ h=>h) (Or.inl ⟨by rfl,?_⟩) ?_ ?_
     rotate_left
     ·intro w'
      go_simp
      with_reducible rfl
     rotate_left
     ·simp only [Act.put,bq1,bq2,bq3,i64_w,i32_w]
      rfl
     refine pure_ (i:=4) (N:=some 115) (v:=?_) (a':=?_) (bsq 18 30) rfl rfl (by kernel_rfl) (fun _ _ _ h=>h) (Or.inl ⟨by rfl,?_⟩) ?_ ?_
     rotate_left
     ·intro w'
      go_simp
      with_reducible rfl
     rotate_left
     ·simp only [Act.put,bq1,bq2,bq3,i64_w,i32_w]
      rfl
     refine pure_ (i:=5) (N:=some 116) (v:=?_) (a':=?_) (bsq 18 62) rfl rfl (by kernel_rfl) (fun _ _ _ h=>h) (Or.inl ⟨by rfl,?_⟩) ?_ ?_
     rotate_left
     ·intro w'
      go_simp
      with_reducible rfl
     rotate_left
     ·simp only [Act.put,bq1,bq2,bq3,i64_w,i32_w]
      rfl
     refine take_ (i:=0) (N:=some 111) (v:=?_) (a':=?_) (bsq 18 63) rfl rfl (by kernel_rfl) (fun _ _ _ h=>h) (Or.inl ⟨by rfl,?_⟩) hHeld ?_ ?_
     rotate_left
     ·rintro w' ⟨s0,s1,s2⟩
      refine exec_load_part 29 (.tmp 3) ?_ g1 0 ?_ 29 (cellsC D S1) (cellsC D S1) (0,0) _ s0 Try.underlying29 rfl (by kernel_rfl) rfl
      ·rfl
      ·rfl
     rotate_left
     ·simp only [Act.put,bq1,bq2,bq3,i64_w,i32_w]
      rfl
     refine take_ (i:=6) (N:=some 117) (v:=?_) (a':=?_) (bsq 18 127) rfl rfl (by kernel_rfl) (fun _ _ _ h=>h) (Or.inl ⟨by rfl,?_⟩) hHeld ?_ ?_
     rotate_left
     ·rintro w' ⟨s0,s1,s2⟩
      go_simp
      with_reducible rfl
     rotate_left
     ·simp only [Act.put,bq1,bq2,bq3,i64_w,i32_w]
      rfl
     refine pure_ (i:=7) (N:=some 118) (v:=?_) (a':=?_) (bsq 18 255) rfl rfl (by kernel_rfl) (fun _ _ _ h=>h) (Or.inl ⟨by rfl,?_⟩) ?_ ?_
     rotate_left
     ·intro w'
      go_simp
      with_reducible rfl
     rotate_left
     ·simp only [Act.put,bq1,bq2,bq3,i64_w,i32_w]
      rfl
     refine pure_ (i:=8) (N:=some 119) (v:=?_) (a':=?_) (bsq 18 511) rfl rfl (by kernel_rfl) (fun _ _ _ h=>h) (Or.inl ⟨by rfl,?_⟩) ?_ ?_
     rotate_left
     ·intro w'
      go_simp
      with_reducible rfl
     rotate_left
     ·simp only [Act.put,bq1,bq2,bq3,i64_w,i32_w]
      rfl
     refine pure_ (i:=9) (N:=some 120) (v:=?_) (a':=?_) (bsq 18 1023) rfl rfl (by kernel_rfl) (fun _ _ _ h=>h) (Or.inl ⟨by rfl,?_⟩) ?_ ?_
     rotate_left
     ·intro w'
      go_simp
      with_reducible rfl
     rotate_left
     ·simp only [Act.put,bq1,bq2,bq3,i64_w,i32_w]
      rfl
     refine pure_ (i:=10) (N:=some 121) (v:=undef) (a':=?_) (bsq 18 2047) rfl rfl (by kernel_rfl) (fun _ _ _ h=>h) (Or.inr ⟨by rfl,rfl⟩) ?_ ?_
     rotate_left
     ·simp only [Act.put,bq1,bq2,bq3,i64_w,i32_w]
      rfl
     refine pure_ (i:=11) (N:=some 122) (v:=undef) (a':=?_) (bsq 18 4095) rfl rfl (by kernel_rfl) (fun _ _ _ h=>h) (Or.inr ⟨by rfl,rfl⟩) ?_ ?_
     rotate_left
     ·simp only [Act.put,bq1,bq2,bq3,i64_w,i32_w]
      rfl
     refine pure_ (i:=12) (N:=some 123) (v:=undef) (a':=?_) (bsq 18 8191) rfl rfl (by kernel_rfl) (fun _ _ _ h=>h) (Or.inr ⟨by rfl,rfl⟩) ?_ ?_
     rotate_left
     ·simp only [Act.put,bq1,bq2,bq3,i64_w,i32_w]
      rfl
     refine pure_ (i:=13) (N:=some 124) (v:=undef) (a':=?_) (bsq 18 16383) rfl rfl (by kernel_rfl) (fun _ _ _ h=>h) (Or.inr ⟨by rfl,rfl⟩) ?_ ?_
     rotate_left
     ·simp only [Act.put,bq1,bq2,bq3,i64_w,i32_w]
      rfl
     refine pure_ (i:=14) (N:=some 125) (v:=undef) (a':=?_) (bsq 18 32767) rfl rfl (by kernel_rfl) (fun _ _ _ h=>h) (Or.inr ⟨by rfl,rfl⟩) ?_ ?_
     rotate_left
     ·simp only [Act.put,bq1,bq2,bq3,i64_w,i32_w]
      rfl
     refine pure_ (i:=15) (N:=some 126) (v:=?_) (a':=?_) (bsq 18 65535) rfl rfl (by kernel_rfl) (fun _ _ _ h=>h) (Or.inl ⟨by rfl,?_⟩) ?_ ?_
     rotate_left
     ·intro w'
      go_simp
      with_reducible rfl
     rotate_left
     ·simp only [Act.put,bq1,bq2,bq3,i64_w,i32_w]
      rfl
     refine one_ (i:=16) (N:=none) (bsq 18 131071) rfl rfl (by kernel_rfl) (by decide) (fun K hK=>?_)
     refine skip_ (w1:=?_) (by rfl) rfl ?_ ?_
     rotate_left
     ·refine exec_store_part 29 (.tmp 4) (.tmp 111) ?_ g2 0 (cellsC D S1) ?_ ?_ 29 _ (cellsC D S1) DI.out.drew.k2 (by kernel_rfl) (Nat.le_of_ble_eq_true rfl) (by kernel_rfl) rfl
      ·rfl
      ·rfl
      ·rfl
     refine hK.out _ _ ⟨(DI.out.drew.fin GG.out).2.2.2.1,(bkc (DI.out.drew.fin GG.out).2.2.2.2 1).trans rfl,(bkc (DI.out.drew.fin GG.out).2.2.2.2 0).trans rfl⟩ (fun hHeld=>?_)
     clear hK K
     refine pure_ (i:=17) (N:=some 5) (v:=?_) (a':=?_) (bsq 18 262143) rfl rfl (by kernel_rfl) (fun _ _ _ h=>h) (Or.inl ⟨by rfl,?_⟩) ?_ ?_
     rotate_left
     ·intro w'
      go_simp
      with_reducible rfl
     rotate_left
     ·simp only [Act.put,bq1,bq2,bq3,i64_w,i32_w]
      rfl
     refine done_ (by kernel_rfl) ?_
     go_wp2_with fail
     exact bodyPost_ret (res35 _ _ g2 _ _ _ _ _ _ _ _ _ _ _ _ _ _ _ _ _ _ _ rfl rfl (DI.out.drew.fin GG.out).1) rfl ⟨S1,rfl,(DI.out.drew.fin GG.out).2.1,(DI.out.drew.fin GG.out).2.2.1⟩
     
end Go.Proofs.Ytkgbhlcbjflnlaa.Fl
