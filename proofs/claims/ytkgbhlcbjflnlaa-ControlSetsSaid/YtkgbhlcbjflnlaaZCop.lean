/- Commands and settings: contracts by hand, and the laws over them. -/
import Derived.Test.YtkgbhlcbjflnlaaZOwn
import Derived.Test.YtkgbhlcbjflnlaaZFV
import Derived.Test.YtkgbhlcbjflnlaaZBs
namespace Go.Proofs.Ytkgbhlcbjflnlaa.Fl
open Go Go.RowKit Go.Proofs.YtkgbhlcbjflnlaaW.PrintWords Go.Proofs.YtkgbhlcbjflnlaaW.PrintLast Go.Proofs.YtkgbhlcbjflnlaaW.PrintMore Go.Proofs.Ytkgbhlcbjflnlaa.Mth Go.Proofs.Ytkgbhlcbjflnlaa.P Go.Proofs.Ytkgbhlcbjflnlaa.Own Go.Proofs
set_option linter.unusedVariables false
set_option linter.unusedSimpArgs false
theorem res36 (tmps:Array Value) (w:World) (g:Nat) (c0 c1 c2 c3 c4 c5 c6 c7 c8 c9 c10 c11 c12 c13 c14 c15 c16 c17:Value) (hp:tmps.getD 2 undef=.pointer (some ⟨g,0,none⟩)) (hg:w.heap[g]?=some (.cells #[c0,c1,c2,c3,c4,c5,c6,c7,c8,c9,c10,c11,c12,c13,c14,c15,c16,c17] 29 (0,0))) :
  (results Try.f36 tmps).run Try.prog w=.ok (.agg #[c0,c1,c2,c3,c4,c5,c6,c7,c8,c9,c10,c11,c12,c13,c14,c15,c16,c17]) w:=by
 have q_:tmps[2]?.getD undef=.pointer (some ⟨g,0,none⟩):=by simpa using hp
 have l_:=run_loadVar_row (P:=Try.prog) w g 29 29 _ (0,0) _ hg Try.underlying29 rfl (by kernel_rfl)
 simp [results,Try.results36,q_,asAddr,l_]
set_option maxHeartbeats 16000000 in
set_option maxRecDepth 100000 in
theorem copied_c (C:Cfg) (S:SlC) (w:World) (h:CV w C S) (hs:SmallC C):Calls Try.prog 36 #[.agg (cellsC C S)] w fun e w'=>∃ S',e=.returned (.agg (cellsC C S'))∧OC w.heap.size w' C S'∧Below w.heap.size w w':=by
 have HV:=amk h
 obtain ⟨⟨q7,q8,q10⟩,q15⟩:=hs
 clear h
 have hu25:=Try.underlying25
 have hu27:=Try.underlying27
 have hu29:=Try.underlying29
 go_enter Try.func36,Try.ntmps36
 go_upto_region 1 with (fail)
 obtain ⟨w_1,hw_g1⟩:∃ w_,w.alloc (.cells (cellsC C S) 29)=w_:=⟨_,rfl⟩
 rw [hw_g1]
 obtain ⟨w_2,hw_g2⟩:∃ w_,w_1.alloc (.cells zeroC 29)=w_:=⟨_,rfl⟩
 rw [hw_g2]
 have z_g1:w_1.heap.size=w.heap.size+1:=by rw [← hw_g1];simp
 have ha_:Below w.heap.size w w_1:=by rw [← hw_g1];exact bwa (Below.refl _ _) _
 have BX1:Aside0 (w_1.heap[w.heap.size]?=some (.cells (cellsC C S) 29 (0,0))):=⟨by rw [← hw_g1];exact blk_new w _⟩
 have hgB:w.heap.size≤w.heap.size:=((Below.refl w.heap.size w)).size
 clear hw_g1
 obtain ⟨g1,hg_⟩:∃ g_,w.heap.size=g_:=⟨_,rfl⟩
 have G_g1:Aside0 (w.heap.size≤g1):=⟨Nat.le_trans hgB (Nat.le_of_eq hg_)⟩
 rw [hg_] at BX1 z_g1
 (try rw [hg_])
 clear hgB
 clear hg_
 have B3:=amk (bws (Below.refl w.heap.size w) ha_)
 clear ha_ 
 have z_g2:w_2.heap.size=w_1.heap.size+1:=by rw [← hw_g2];simp
 have ha_:Below w_1.heap.size w_1 w_2:=by rw [← hw_g2];exact bwa (Below.refl _ _) _
 have BX2:Aside0 (w_2.heap[w_1.heap.size]?=some (.cells zeroC 29 (0,0))):=⟨by rw [← hw_g2];exact blk_new w_1 _⟩
 have hgB:w.heap.size≤w_1.heap.size:=(B3.out).size
 have hl_g1:g1 < w_1.heap.size:=blk_lt BX1.out
 clear hw_g2
 obtain ⟨g2,hg_⟩:∃ g_,w_1.heap.size=g_:=⟨_,rfl⟩
 have G_g2:Aside0 (w.heap.size≤g2):=⟨Nat.le_trans hgB (Nat.le_of_eq hg_)⟩
 rw [hg_] at BX2 z_g2 hl_g1
 have E_g1_g2:=amk hl_g1
 clear hl_g1
 (try rw [hg_])
 clear hgB
 have zz_:g1+1=g2:=by omega
 (try rw [zz_])
 clear zz_
 clear hg_
 have B4:=amk (bws B3.out ha_)
 have K4_g1:=amk (bkb BX1.out ha_)
 clear ha_ B3 BX1
 have B1SZ:=amk B4.out.size
 refine start_ (n:=21) (S:=fun w'=>w'.cell? ⟨g1,7,none⟩=some (.slice S.S.A7 C.F.us.length S.S.c7)∧w'.cell? ⟨g1,8,none⟩=some (.slice S.S.A8 C.F.ms.length S.S.c8)∧w'.cell? ⟨g1,10,none⟩=some (.slice S.S.A10 C.F.vs.length S.S.c10)∧Below w_2.heap.size w_2 w') (ds:=[14,17,20]) (bsq 21 0) (by kernel_rfl) rfl rfl ⟨(bkc K4_g1.out 7).trans rfl,(bkc K4_g1.out 8).trans rfl,(bkc K4_g1.out 10).trans rfl,bwd (Below.refl _ _)⟩ (fun hHeld=>?_)
 refine pure_ (i:=0) (N:=some 3) (v:=?_) (a':=?_) (bsq 21 1) rfl rfl (by kernel_rfl) (fun _ _ _ h=>h) (Or.inl ⟨by rfl,?_⟩) ?_ ?_
 rotate_left
 ·intro w'
  go_simp
  with_reducible rfl
 rotate_left
 ·simp only [Act.put,bq1,bq2,bq3,i64_w,i32_w]
  rfl
 refine pure_ (i:=1) (N:=some 4) (v:=?_) (a':=?_) (bsq 21 3) rfl rfl (by kernel_rfl) (fun _ _ _ h=>h) (Or.inl ⟨by rfl,?_⟩) ?_ ?_
 rotate_left
 ·intro w'
  go_simp
  with_reducible rfl
 rotate_left
 ·simp only [Act.put,bq1,bq2,bq3,i64_w,i32_w]
  rfl
 refine pure_ (i:=4) (N:=some 7) (v:=?_) (a':=?_) (bsq 21 19) rfl rfl (by kernel_rfl) (fun _ _ _ h=>h) (Or.inl ⟨by rfl,?_⟩) ?_ ?_
 rotate_left
 ·intro w'
  go_simp
  with_reducible rfl
 rotate_left
 ·simp only [Act.put,bq1,bq2,bq3,i64_w,i32_w]
  rfl
 refine pure_ (i:=5) (N:=some 8) (v:=?_) (a':=?_) (bsq 21 51) rfl rfl (by kernel_rfl) (fun _ _ _ h=>h) (Or.inl ⟨by rfl,?_⟩) ?_ ?_
 rotate_left
 ·intro w'
  go_simp
  with_reducible rfl
 rotate_left
 ·simp only [Act.put,bq1,bq2,bq3,i64_w,i32_w]
  rfl
 refine pure_ (i:=8) (N:=some 11) (v:=?_) (a':=?_) (bsq 21 307) rfl rfl (by kernel_rfl) (fun _ _ _ h=>h) (Or.inl ⟨by rfl,?_⟩) ?_ ?_
 rotate_left
 ·intro w'
  go_simp
  with_reducible rfl
 rotate_left
 ·simp only [Act.put,bq1,bq2,bq3,i64_w,i32_w]
  rfl
 refine pure_ (i:=9) (N:=some 12) (v:=?_) (a':=?_) (bsq 21 819) rfl rfl (by kernel_rfl) (fun _ _ _ h=>h) (Or.inl ⟨by rfl,?_⟩) ?_ ?_
 rotate_left
 ·intro w'
  go_simp
  with_reducible rfl
 rotate_left
 ·simp only [Act.put,bq1,bq2,bq3,i64_w,i32_w]
  rfl
 refine take_ (i:=2) (N:=some 5) (v:=?_) (a':=?_) (bsq 21 823) rfl rfl (by kernel_rfl) (fun _ _ _ h=>h) (Or.inl ⟨by rfl,?_⟩) hHeld ?_ ?_
 rotate_left
 ·rintro w' ⟨s0,s1,s2,s3⟩
  go_simp
  with_reducible rfl
 rotate_left
 ·simp only [Act.put,bq1,bq2,bq3,i64_w,i32_w]
  rfl
 refine take_ (i:=6) (N:=some 9) (v:=?_) (a':=?_) (bsq 21 887) rfl rfl (by kernel_rfl) (fun _ _ _ h=>h) (Or.inl ⟨by rfl,?_⟩) hHeld ?_ ?_
 rotate_left
 ·rintro w' ⟨s0,s1,s2,s3⟩
  go_simp
  with_reducible rfl
 rotate_left
 ·simp only [Act.put,bq1,bq2,bq3,i64_w,i32_w]
  rfl
 refine take_ (i:=10) (N:=some 13) (v:=?_) (a':=?_) (bsq 21 1911) rfl rfl (by kernel_rfl) (fun _ _ _ h=>h) (Or.inl ⟨by rfl,?_⟩) hHeld ?_ ?_
 rotate_left
 ·rintro w' ⟨s0,s1,s2,s3⟩
  go_simp
  with_reducible rfl
 rotate_left
 ·simp only [Act.put,bq1,bq2,bq3,i64_w,i32_w]
  rfl
 refine one_ (i:=3) (N:=some 6) (bsq 21 1919) rfl rfl (by kernel_rfl) (by decide) (fun K hK=>?_)
 refine goes_ Try.func59 (by kernel_rfl) rfl #[.slice S.S.A7 C.F.us.length S.S.c7] (by rfl) rfl rfl (by simp only [List.map_toArray,List.map_cons,List.map_nil];rfl) ?_
 with_reducible refine (cloneS S.S.A7 S.S.c7 C.F.us _ (HV.out.f.r7.below (bws B4.out hHeld.2.2.2)) (by omega)).mono ?_
 rintro e wa ⟨X7,y7,rfl,la,oa,ka⟩
 refine ⟨_,rfl,?_⟩
 have La:=amk la
 have Oa:=amk oa
 have Ka:=amk ka
 clear la oa ka
 refine hK.out _ _ ⟨pcb Ka.out hHeld.1,pcb Ka.out hHeld.2.1,pcb Ka.out hHeld.2.2.1,bws hHeld.2.2.2 Ka.out⟩ (fun hHeld=>?_)
 clear hK K
 refine norm_ (a':=?_) ?_ ?_
 rotate_left
 ·show Act.put _ (some 6) _=_
  simp only [Act.put,bq1,bq2,bq3,i64_w,i32_w]
  rfl
 refine pure_ (i:=12) (N:=some 15) (v:=?_) (a':=?_) (bsq 21 6015) rfl rfl (by kernel_rfl) (fun _ _ _ h=>h) (Or.inl ⟨by rfl,?_⟩) ?_ ?_
 rotate_left
 ·intro w'
  go_simp
  with_reducible rfl
 rotate_left
 ·simp only [Act.put,bq1,bq2,bq3,i64_w,i32_w]
  rfl
 refine pure_ (i:=13) (N:=some 16) (v:=?_) (a':=?_) (bsq 21 14207) rfl rfl (by kernel_rfl) (fun _ _ _ h=>h) (Or.inl ⟨by rfl,?_⟩) ?_ ?_
 rotate_left
 ·intro w'
  go_simp
  with_reducible rfl
 rotate_left
 ·simp only [Act.put,bq1,bq2,bq3,i64_w,i32_w]
  rfl
 refine one_ (i:=7) (N:=some 10) (bsq 21 14335) rfl rfl (by kernel_rfl) (by decide) (fun K hK=>?_)
 refine goes_ Try.func59 (by kernel_rfl) rfl #[.slice S.S.A8 C.F.ms.length S.S.c8] (by rfl) rfl rfl (by simp only [List.map_toArray,List.map_cons,List.map_nil];rfl) ?_
 with_reducible refine (cloneS S.S.A8 S.S.c8 C.F.ms _ (HV.out.f.r8.below (bws B4.out hHeld.2.2.2)) (by omega)).mono ?_
 rintro e wb ⟨X8,y8,rfl,lb,ob,kb⟩
 refine ⟨_,rfl,?_⟩
 have Lb:=amk lb
 have Ob:=amk ob
 have Kb:=amk kb
 clear lb ob kb
 refine hK.out _ _ ⟨pcb Kb.out hHeld.1,pcb Kb.out hHeld.2.1,pcb Kb.out hHeld.2.2.1,bws hHeld.2.2.2 Kb.out⟩ (fun hHeld=>?_)
 clear hK K
 refine norm_ (a':=?_) ?_ ?_
 rotate_left
 ·show Act.put _ (some 10) _=_
  simp only [Act.put,bq1,bq2,bq3,i64_w,i32_w]
  rfl
 refine one_ (i:=11) (N:=some 14) (bsq 21 16383) rfl rfl (by kernel_rfl) (by decide) (fun K hK=>?_)
 refine goes_ Try.func60 (by kernel_rfl) rfl #[.slice S.S.A10 C.F.vs.length S.S.c10] (by rfl) rfl rfl (by simp only [List.map_toArray,List.map_cons,List.map_nil];rfl) ?_
 with_reducible refine (cloneI S.S.A10 S.S.c10 C.F.vs _ (HV.out.f.r10.below (bws B4.out hHeld.2.2.2)) (by omega)).mono ?_
 rintro e wc ⟨X10,y10,rfl,lc,oc,kc⟩
 refine ⟨_,rfl,?_⟩
 have Lc:=amk lc
 have Oc:=amk oc
 have Kc:=amk kc
 clear lc oc kc
 have BC:=amk (bws hHeld.2.2.2 Kc.out)
 have BK5:=amk (bkb K4_g1.out BC.out)
 have zc7:wc.cell? ⟨g1,7,none⟩=some (.slice S.S.A7 C.F.us.length S.S.c7):=(bkc BK5.out 7).trans rfl
 have zc8:wc.cell? ⟨g1,8,none⟩=some (.slice S.S.A8 C.F.ms.length S.S.c8):=(bkc BK5.out 8).trans rfl
 have zc10:wc.cell? ⟨g1,10,none⟩=some (.slice S.S.A10 C.F.vs.length S.S.c10):=(bkc BK5.out 10).trans rfl
 have zf7:=bkf BK5.out 7
 have zf8:=bkf BK5.out 8
 have zf10:=bkf BK5.out 10
 refine hK.out _ _ ⟨pcb Kc.out hHeld.1,pcb Kc.out hHeld.2.1,pcb Kc.out hHeld.2.2.1,bws hHeld.2.2.2 Kc.out⟩ (fun hHeld=>?_)
 clear hK K
 refine norm_ (a':=?_) ?_ ?_
 rotate_left
 ·show Act.put _ (some 14) _=_
  simp only [Act.put,bq1,bq2,bq3,i64_w,i32_w]
  rfl
 refine last_ (i:=14) (N:=none) (bsq 21 32767) rfl rfl (by kernel_rfl) (by decide) (fun K hK=>?_)
 refine skip_ (w1:=?_) (by rfl) rfl ?_ ?_
 rotate_left
 ·go_simp
  rfl
 refine hK.out _ _ ?_
 clear hK K
 refine pure_ (i:=15) (N:=some 17) (v:=?_) (a':=?_) (bsq 21 65535) rfl rfl (by kernel_rfl) (fun _ _ _ h=>h) (Or.inl ⟨by rfl,?_⟩) ?_ ?_
 rotate_left
 ·intro w'
  go_simp
  with_reducible rfl
 rotate_left
 ·simp only [Act.put,bq1,bq2,bq3,i64_w,i32_w]
  rfl
 refine pure_ (i:=16) (N:=some 18) (v:=?_) (a':=?_) (bsq 21 131071) rfl rfl (by kernel_rfl) (fun _ _ _ h=>h) (Or.inl ⟨by rfl,?_⟩) ?_ ?_
 rotate_left
 ·intro w'
  go_simp
  with_reducible rfl
 rotate_left
 ·simp only [Act.put,bq1,bq2,bq3,i64_w,i32_w]
  rfl
 refine last_ (i:=17) (N:=none) (bsq 21 262143) rfl rfl (by kernel_rfl) (by decide) (fun K hK=>?_)
 refine skip_ (w1:=?_) (by rfl) rfl ?_ ?_
 rotate_left
 ·go_simp
  rfl
 refine hK.out _ _ ?_
 clear hK K
 refine pure_ (i:=18) (N:=some 19) (v:=?_) (a':=?_) (bsq 21 524287) rfl rfl (by kernel_rfl) (fun _ _ _ h=>h) (Or.inl ⟨by rfl,?_⟩) ?_ ?_
 rotate_left
 ·intro w'
  go_simp
  with_reducible rfl
 rotate_left
 ·simp only [Act.put,bq1,bq2,bq3,i64_w,i32_w]
  rfl
 refine pure_ (i:=19) (N:=some 20) (v:=?_) (a':=?_) (bsq 21 1048575) rfl rfl (by kernel_rfl) (fun _ _ _ h=>h) (Or.inl ⟨by rfl,?_⟩) ?_ ?_
 rotate_left
 ·intro w'
  go_simp
  with_reducible rfl
 rotate_left
 ·simp only [Act.put,bq1,bq2,bq3,i64_w,i32_w]
  rfl
 refine last_ (i:=20) (N:=none) (bsq 21 2097151) rfl rfl (by kernel_rfl) (by decide) (fun K hK=>?_)
 refine skip_ (w1:=?_) (by rfl) rfl ?_ ?_
 rotate_left
 ·go_simp
  rfl
 refine hK.out _ _ ?_
 clear hK K
 refine done_ (by kernel_rfl) ?_
 clear zc7 zc8 zc10 zf7 zf8 zf10 BK5
 have hb_:=BC.out
 clear BC
 have B5:=amk (bws B4.out hb_)
 have K5_g1:=amk (bkb K4_g1.out hb_)
 have K5_g2:=amk (bkb BX2.out hb_)
 clear hb_ B4 K4_g1 BX2
 have BSZ:Aside0 (w.heap.size≤w_2.heap.size):=⟨B1SZ.out⟩
 have OW_a:Aside0 (OR w.heap.size wc 9 X7 C.F.us.length y7 (encs Value.string C.F.us)):=⟨⟨own_weaken (pw_own_below (pw_own_below Oa.out Kb.out) Kc.out) (Nat.le_trans BSZ.out (by first | exact Nat.le_refl _ | exact Ka.out.size | exact Nat.le_trans Ka.out.size Kb.out.size | (have:=Ka.out.size;have:=Kb.out.size;simp at *; omega))),.inl rfl⟩⟩
 have OW_b:Aside0 (OR w.heap.size wc 9 X8 C.F.ms.length y8 (encs Value.string C.F.ms)):=⟨⟨own_weaken (pw_own_below Ob.out Kc.out) (Nat.le_trans BSZ.out (by first | exact Nat.le_refl _ | exact Ka.out.size | exact Nat.le_trans Ka.out.size Kb.out.size | (have:=Ka.out.size;have:=Kb.out.size;simp at *; omega))),.inl rfl⟩⟩
 have OW_c:Aside0 (OR w.heap.size wc 3 X10 C.F.vs.length y10 (encs (Value.int .i64) C.F.vs)):=⟨⟨own_weaken Oc.out (Nat.le_trans BSZ.out (by first | exact Nat.le_refl _ | exact Ka.out.size | exact Nat.le_trans Ka.out.size Kb.out.size | (have:=Ka.out.size;have:=Kb.out.size;simp at *; omega))),.inr rfl⟩⟩
 obtain ⟨w_6,hw_⟩:∃ w_,(((wc.setCell ⟨g1,7,none⟩ (.slice X7 C.F.us.length y7)).setCell ⟨g1,8,none⟩ (.slice X8 C.F.ms.length y8)).setCell ⟨g1,10,none⟩ (.slice X10 C.F.vs.length y10))=w_:=⟨_,rfl⟩
 have hu_:Upd wc w_6 (fun k=>k=g1):=by rw [← hw_];exact (((Upd.refl wc (fun k=>k=g1)).set (p:=⟨g1,7,none⟩) (.inl rfl) _).set (p:=⟨g1,8,none⟩) (.inl rfl) _).set (p:=⟨g1,10,none⟩) (.inl rfl) _
 have kf_:w_6.heap[g1]?=some (.cells #[.string C.F.m,.bool C.F.b1,.bool C.F.b2,.bool C.F.b3,.bool C.F.b4,.bool C.F.b5,.bool C.F.b6,.slice X7 C.F.us.length y7,.slice X8 C.F.ms.length y8,.bool C.F.b9,.slice X10 C.F.vs.length y10,.int .i64 C.p,.int .i64 C.mx,.bool C.on,.int .i64 C.kn,.slice S.A C.tab.length S.c,.string C.key,.int .i64 C.df] 29 (0,0)):=by rw [← hw_];exact (blk_put (cs:=#[.string C.F.m,.bool C.F.b1,.bool C.F.b2,.bool C.F.b3,.bool C.F.b4,.bool C.F.b5,.bool C.F.b6,.slice X7 C.F.us.length y7,.slice X8 C.F.ms.length y8,.bool C.F.b9,.slice S.S.A10 C.F.vs.length S.S.c10,.int .i64 C.p,.int .i64 C.mx,.bool C.on,.int .i64 C.kn,.slice S.A C.tab.length S.c,.string C.key,.int .i64 C.df]) (blk_put (cs:=#[.string C.F.m,.bool C.F.b1,.bool C.F.b2,.bool C.F.b3,.bool C.F.b4,.bool C.F.b5,.bool C.F.b6,.slice X7 C.F.us.length y7,.slice S.S.A8 C.F.ms.length S.S.c8,.bool C.F.b9,.slice S.S.A10 C.F.vs.length S.S.c10,.int .i64 C.p,.int .i64 C.mx,.bool C.on,.int .i64 C.kn,.slice S.A C.tab.length S.c,.string C.key,.int .i64 C.df]) (blk_put (cs:=(cellsC C S)) K5_g1.out 7 _ rfl) 8 _ rfl) 10 _ rfl)
 rw [hw_]
 clear hw_
 have K7_g1:=amk (kf_)
 have B7:=amk (B5.out.trans (hu_.toBelow (B:=w.heap.size) (fun k hk=>by rw [hk];exact G_g1.out) (B5.out).size))
 have K7_g2:=amk (hu_.blk K5_g2.out (by have:=E_g1_g2.out;omega))
 have O7_oa:=amk (OW_a.out.boxT K5_g1.out (by decide) (by decide) hu_)
 have O7_ob:=amk (OW_b.out.boxT K5_g1.out (by decide) (by decide) hu_)
 have O7_oc:=amk (OW_c.out.boxT K5_g1.out (by decide) (by decide) hu_)
 clear hu_ B5 K5_g2 OW_a OW_b OW_c K5_g1
 clear kf_
 have pc15:w_6.cell? ⟨g1,15,none⟩=some (.slice S.A C.tab.length S.c):=(bkc K7_g1.out 15).trans rfl
 have pf15:=bkf K7_g1.out 15
 go_wp2_with fail
 refine (cloneI S.A S.c C.tab w_6 (HV.out.r.below B7.out) (by omega)).mono ?_
 rintro e w_8 ⟨X15,y15,rfl,l15,o15,hb_⟩
 have L15:=amk l15
 have OW_d:Aside0 (OR w.heap.size w_8 3 X15 C.tab.length y15 (encs (Value.int .i64) C.tab)):=⟨⟨own_weaken o15 B7.out.size,.inr rfl⟩⟩
 clear l15 o15 pc15 pf15
 have B9:=amk (bws B7.out hb_)
 have K9_g1:=amk (bkb K7_g1.out hb_)
 have K9_g2:=amk (bkb K7_g2.out hb_)
 have O9_oa:=amk (O7_oa.out.below hb_)
 have O9_ob:=amk (O7_ob.out.below hb_)
 have O9_oc:=amk (O7_oc.out.below hb_)
 clear hb_ B7 K7_g1 K7_g2 O7_oa O7_ob O7_oc
 have pc15:w_8.cell? ⟨g1,15,none⟩=some (.slice S.A C.tab.length S.c):=(bkc K9_g1.out 15).trans rfl
 have pf15:=bkf K9_g1.out 15
 go_upto_region 3 with (fail)
 clear pc15 pf15
 obtain ⟨w_10,hw_⟩:∃ w_,(w_8.setCell ⟨g1,15,none⟩ (.slice X15 C.tab.length y15))=w_:=⟨_,rfl⟩
 have hu_:Upd w_8 w_10 (fun k=>k=g1):=by rw [← hw_];exact (Upd.refl w_8 (fun k=>k=g1)).set (p:=⟨g1,15,none⟩) (.inl rfl) _
 have kf_:w_10.heap[g1]?=some (.cells #[.string C.F.m,.bool C.F.b1,.bool C.F.b2,.bool C.F.b3,.bool C.F.b4,.bool C.F.b5,.bool C.F.b6,.slice X7 C.F.us.length y7,.slice X8 C.F.ms.length y8,.bool C.F.b9,.slice X10 C.F.vs.length y10,.int .i64 C.p,.int .i64 C.mx,.bool C.on,.int .i64 C.kn,.slice X15 C.tab.length y15,.string C.key,.int .i64 C.df] 29 (0,0)):=by rw [← hw_];exact (blk_put (cs:=#[.string C.F.m,.bool C.F.b1,.bool C.F.b2,.bool C.F.b3,.bool C.F.b4,.bool C.F.b5,.bool C.F.b6,.slice X7 C.F.us.length y7,.slice X8 C.F.ms.length y8,.bool C.F.b9,.slice X10 C.F.vs.length y10,.int .i64 C.p,.int .i64 C.mx,.bool C.on,.int .i64 C.kn,.slice S.A C.tab.length S.c,.string C.key,.int .i64 C.df]) K9_g1.out 15 _ rfl)
 rw [hw_]
 clear hw_
 have K11_g1:=amk (kf_)
 have B11:=amk (B9.out.trans (hu_.toBelow (B:=w.heap.size) (fun k hk=>by rw [hk];exact G_g1.out) (B9.out).size))
 have K11_g2:=amk (hu_.blk K9_g2.out (by have:=E_g1_g2.out;omega))
 have O11_oa:=amk (O9_oa.out.boxT K9_g1.out (by decide) (by decide) hu_)
 have O11_ob:=amk (O9_ob.out.boxT K9_g1.out (by decide) (by decide) hu_)
 have O11_oc:=amk (O9_oc.out.boxT K9_g1.out (by decide) (by decide) hu_)
 have O11_od:=amk (OW_d.out.boxT K9_g1.out (by decide) (by decide) hu_)
 clear hu_ B9 K9_g2 O9_oa O9_ob O9_oc OW_d K9_g1
 clear kf_
 go_wp2_with ((refine wpList_load_row rfl 29 (.tmp 1) rfl g1 rfl 29 #[.string C.F.m,.bool C.F.b1,.bool C.F.b2,.bool C.F.b3,.bool C.F.b4,.bool C.F.b5,.bool C.F.b6,.slice X7 C.F.us.length y7,.slice X8 C.F.ms.length y8,.bool C.F.b9,.slice X10 C.F.vs.length y10,.int .i64 C.p,.int .i64 C.mx,.bool C.on,.int .i64 C.kn,.slice X15 C.tab.length y15,.string C.key,.int .i64 C.df] (0,0) _ K11_g1.out Try.underlying29 rfl (by kernel_rfl) ?_);(refine wpList_store_row rfl 29 (.tmp 2) (.tmp 27) rfl g2 #[.string C.F.m,.bool C.F.b1,.bool C.F.b2,.bool C.F.b3,.bool C.F.b4,.bool C.F.b5,.bool C.F.b6,.slice X7 C.F.us.length y7,.slice X8 C.F.ms.length y8,.bool C.F.b9,.slice X10 C.F.vs.length y10,.int .i64 C.p,.int .i64 C.mx,.bool C.on,.int .i64 C.kn,.slice X15 C.tab.length y15,.string C.key,.int .i64 C.df] rfl rfl 29 zeroC K11_g2.out (by kernel_rfl) rfl (by kernel_rfl) ?_))
 obtain ⟨w_12,hw_⟩:∃ w_,w_10.setRow g2 #[.string C.F.m,.bool C.F.b1,.bool C.F.b2,.bool C.F.b3,.bool C.F.b4,.bool C.F.b5,.bool C.F.b6,.slice X7 C.F.us.length y7,.slice X8 C.F.ms.length y8,.bool C.F.b9,.slice X10 C.F.vs.length y10,.int .i64 C.p,.int .i64 C.mx,.bool C.on,.int .i64 C.kn,.slice X15 C.tab.length y15,.string C.key,.int .i64 C.df]=w_:=⟨_,rfl⟩
 have hu_:Upd w_10 w_12 (fun k=>k=g2):=by rw [← hw_];exact Upd.setRow (Upd.refl w_10 (fun k=>k=g2)) (.inl rfl) _
 have kf_:w_12.heap[g2]?=some (.cells #[.string C.F.m,.bool C.F.b1,.bool C.F.b2,.bool C.F.b3,.bool C.F.b4,.bool C.F.b5,.bool C.F.b6,.slice X7 C.F.us.length y7,.slice X8 C.F.ms.length y8,.bool C.F.b9,.slice X10 C.F.vs.length y10,.int .i64 C.p,.int .i64 C.mx,.bool C.on,.int .i64 C.kn,.slice X15 C.tab.length y15,.string C.key,.int .i64 C.df] 29 (0,0)):=by rw [← hw_];exact setRow_heap w_10 g2 _ #[.string C.F.m,.bool C.F.b1,.bool C.F.b2,.bool C.F.b3,.bool C.F.b4,.bool C.F.b5,.bool C.F.b6,.slice X7 C.F.us.length y7,.slice X8 C.F.ms.length y8,.bool C.F.b9,.slice X10 C.F.vs.length y10,.int .i64 C.p,.int .i64 C.mx,.bool C.on,.int .i64 C.kn,.slice X15 C.tab.length y15,.string C.key,.int .i64 C.df] 29 (0,0) K11_g2.out
 rw [hw_]
 clear hw_
 have K13_g2:=amk (kf_)
 have B13:=amk (B11.out.trans (hu_.toBelow (B:=w.heap.size) (fun k hk=>by rw [hk];exact G_g2.out) (B11.out).size))
 have K13_g1:=amk (hu_.blk K11_g1.out (by have:=E_g1_g2.out;omega))
 have O13_oa:=amk (O11_oa.out.boxT K11_g2.out (by decide) (by decide) hu_)
 have O13_ob:=amk (O11_ob.out.boxT K11_g2.out (by decide) (by decide) hu_)
 have O13_oc:=amk (O11_oc.out.boxT K11_g2.out (by decide) (by decide) hu_)
 have O13_od:=amk (O11_od.out.boxT K11_g2.out (by decide) (by decide) hu_)
 clear hu_ B11 K11_g1 O11_oa O11_ob O11_oc O11_od K11_g2
 clear kf_
 exact bodyPost_ret (res36 _ w_12 g2 _ _ _ _ _ _ _ _ _ _ _ _ _ _ _ _ _ _ rfl K13_g2.out) rfl ⟨⟨⟨X7,y7,X8,y8,X10,y10⟩,X15,y15⟩,rfl,⟨⟨O13_oa.out.h,O13_ob.out.h,O13_oc.out.h⟩,O13_od.out.h⟩,B13.out⟩
end Go.Proofs.Ytkgbhlcbjflnlaa.Fl
