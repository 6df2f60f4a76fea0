/- Commands and settings: contracts by hand, and the laws over them. -/
import Derived.Test.YtkgbhlcbjflnlaaZOwn
import Derived.Test.YtkgbhlcbjflnlaaZFV
namespace Go.Proofs.Ytkgbhlcbjflnlaa.Fl
open Go Go.RowKit Go.Proofs.YtkgbhlcbjflnlaaW.PrintWords Go.Proofs.YtkgbhlcbjflnlaaW.PrintLast Go.Proofs.YtkgbhlcbjflnlaaW.PrintMore Go.Proofs.Ytkgbhlcbjflnlaa.Mth Go.Proofs.Ytkgbhlcbjflnlaa.P Go.Proofs.Ytkgbhlcbjflnlaa.Own Go.Proofs
set_option linter.unusedVariables false
set_option linter.unusedSimpArgs false
/-- What a command of what is received makes of a filter. -/
def rxS (F:Flt) (cmd on:Int):Flt × Bool :=
 if cmd=0 then ({ F with b1:=on == 1 },decide (on≤1)) else
 if cmd=1 then ({ F with b3:=on == 1 },decide (on≤1)) else
 if cmd=2 then ({ F with b2:=on == 1 },decide (on≤1)) else
 if cmd=3 then ({ F with b5:=on == 1 },decide (on≤1)) else
 if cmd=4 then ({ F with b4:=on == 1 },decide (on≤1)) else
 if cmd=5 then ({ F with b6:=on == 1 },decide (on≤1)) else (F,false)
theorem res52 (tmps:Array Value) (w:World) (g:Nat) (c0 c1 c2 c3 c4 c5 c6 c7 c8 c9 c10 m7:Value) (hp:tmps.getD 6 undef=.pointer (some ⟨g,0,none⟩)) (h7:tmps.getD 7 undef=m7) (hg:w.heap[g]?=some (.cells #[c0,c1,c2,c3,c4,c5,c6,c7,c8,c9,c10] 25 (0,0))) :
  (results Try.f52 tmps).run Try.prog w=.ok (.tuple #[.agg #[c0,c1,c2,c3,c4,c5,c6,c7,c8,c9,c10],m7]) w:=by
 have q_:tmps[6]?.getD undef=.pointer (some ⟨g,0,none⟩):=by simpa using hp
 have r7:tmps[7]?.getD undef=m7:=by simpa using h7
 have l_:=run_loadVar_row (P:=Try.prog) w g 25 25 _ (0,0) _ hg Try.underlying25 rfl (by kernel_rfl)
 simp [results,Try.results52,q_,r7,asAddr,l_]
set_option maxHeartbeats 16000000 in
set_option maxRecDepth 100000 in
theorem rx_c (F:Flt) (S:Sl) (cmd on:Int) (w:World):Calls Try.prog 52 #[.agg (cellsF F S),.int .i64 cmd,.int .i64 on] w fun e w'=>e=.returned (.tuple #[.agg (cellsF (rxS F cmd on).1 S),.bool (rxS F cmd on).2])∧Below w.heap.size w w':=by
 obtain ⟨is,his⟩:∃ is,(on == 1)=is:=⟨_,rfl⟩
 obtain ⟨le,hle⟩:∃ le,decide (on≤1)=le:=⟨_,rfl⟩
 by_cases c0:cmd=0
 ·have R:rxS F cmd on=({ F with b1:=is },le):=by unfold rxS;rw [if_pos c0,his,hle]
  rw [R]
  clear R
  have d0:(cmd == 0)=true:=beq_iff_eq.2 c0
  clear c0
  have hu25:=Try.underlying25
  go_enter Try.func52,Try.ntmps52
  go_upto_region 4 with (fail)
  obtain ⟨w_1,hw_g1⟩:∃ w_,w.alloc (.cells #[.string F.m,.bool F.b1,.bool F.b2,.bool F.b3,.bool F.b4,.bool F.b5,.bool F.b6,.slice S.A7 F.us.length S.c7,.slice S.A8 F.ms.length S.c8,.bool F.b9,.slice S.A10 F.vs.length S.c10] 25)=w_:=⟨_,rfl⟩
  rw [hw_g1]
  obtain ⟨w_2,hw_g2⟩:∃ w_,w_1.alloc (.cells #[.string ⟨#[]⟩,.bool false,.bool false,.bool false,.bool false,.bool false,.bool false,.slice none 0 0,.slice none 0 0,.bool false,.slice none 0 0] 25)=w_:=⟨_,rfl⟩
  rw [hw_g2]
  have z_g1:w_1.heap.size=w.heap.size+1:=by rw [← hw_g1];simp
  have ha_:Below w.heap.size w w_1:=by rw [← hw_g1];exact bwa (Below.refl _ _) _
  have BX1:Aside0 (w_1.heap[w.heap.size]?=some (.cells #[.string F.m,.bool F.b1,.bool F.b2,.bool F.b3,.bool F.b4,.bool F.b5,.bool F.b6,.slice S.A7 F.us.length S.c7,.slice S.A8 F.ms.length S.c8,.bool F.b9,.slice S.A10 F.vs.length S.c10] 25 (0,0))):=⟨by rw [← hw_g1];exact blk_new w _⟩
  have hgB:w.heap.size≤w.heap.size:=((Below.refl w.heap.size w)).size
  clear hw_g1
  obtain ⟨g1,hg_⟩:∃ g_,w.heap.size=g_:=⟨_,rfl⟩
  have G_g1:Aside0 (w.heap.size≤g1):=⟨Nat.le_trans hgB (Nat.le_of_eq hg_)⟩
  rw [hg_] at BX1 z_g1
  (try rw [hg_])
  clear hgB
  clear hg_
  have B3:=amk (bws (Below.refl w.heap.size w) ha_)
  clear ha_ 
  have z_g2:w_2.heap.size=w_1.heap.size+1:=by rw [← hw_g2];simp
  have ha_:Below w_1.heap.size w_1 w_2:=by rw [← hw_g2];exact bwa (Below.refl _ _) _
  have BX2:Aside0 (w_2.heap[w_1.heap.size]?=some (.cells #[.string ⟨#[]⟩,.bool false,.bool false,.bool false,.bool false,.bool false,.bool false,.slice none 0 0,.slice none 0 0,.bool false,.slice none 0 0] 25 (0,0))):=⟨by rw [← hw_g2];exact blk_new w_1 _⟩
  have hgB:w.heap.size≤w_1.heap.size:=(B3.out).size
  have hl_g1:g1 < w_1.heap.size:=blk_lt BX1.out
  clear hw_g2
  obtain ⟨g2,hg_⟩:∃ g_,w_1.heap.size=g_:=⟨_,rfl⟩
  have G_g2:Aside0 (w.heap.size≤g2):=⟨Nat.le_trans hgB (Nat.le_of_eq hg_)⟩
  rw [hg_] at BX2 z_g2 hl_g1
  have E_g1_g2:=amk hl_g1
  clear hl_g1
  (try rw [hg_])
  clear hgB
  have zz_:g1+1=g2:=by omega
  (try rw [zz_])
  clear zz_
  clear hg_
  have B4:=amk (bws B3.out ha_)
  have K4_g1:=amk (bkb BX1.out ha_)
  clear ha_ B3 BX1
  have pc1:w_2.cell? ⟨g1,1,none⟩=some (.bool F.b1):=(bkc K4_g1.out 1).trans rfl
  have pf1:=bkf K4_g1.out 1
  go_upto_region 16 with (fail)
  clear pc1 pf1
  obtain ⟨w_5,hw_⟩:∃ w_,(w_2.setCell ⟨g1,1,none⟩ (.bool is))=w_:=⟨_,rfl⟩
  have hu_:Upd w_2 w_5 (fun k=>k=g1):=by rw [← hw_];exact (Upd.refl w_2 (fun k=>k=g1)).set (p:=⟨g1,1,none⟩) (.inl rfl) _
  have kf_:w_5.heap[g1]?=some (.cells #[.string F.m,.bool is,.bool F.b2,.bool F.b3,.bool F.b4,.bool F.b5,.bool F.b6,.slice S.A7 F.us.length S.c7,.slice S.A8 F.ms.length S.c8,.bool F.b9,.slice S.A10 F.vs.length S.c10] 25 (0,0)):=by rw [← hw_];exact (blk_put (cs:=#[.string F.m,.bool F.b1,.bool F.b2,.bool F.b3,.bool F.b4,.bool F.b5,.bool F.b6,.slice S.A7 F.us.length S.c7,.slice S.A8 F.ms.length S.c8,.bool F.b9,.slice S.A10 F.vs.length S.c10]) K4_g1.out 1 _ rfl)
  rw [hw_]
  clear hw_
  have K6_g1:=amk (kf_)
  have B6:=amk (B4.out.trans (hu_.toBelow (B:=w.heap.size) (fun k hk=>by rw [hk];exact G_g1.out) (B4.out).size))
  have K6_g2:=amk (hu_.blk BX2.out (by have:=E_g1_g2.out;omega))
  clear hu_ B4 BX2 K4_g1
  clear kf_
  go_wp2_with (first | (refine wpList_load_row rfl 25 (.tmp 3) rfl g1 rfl 25 #[.string F.m,.bool is,.bool F.b2,.bool F.b3,.bool F.b4,.bool F.b5,.bool F.b6,.slice S.A7 F.us.length S.c7,.slice S.A8 F.ms.length S.c8,.bool F.b9,.slice S.A10 F.vs.length S.c10] (0,0) _ K6_g1.out Try.underlying25 rfl (by kernel_rfl) ?_) | (refine wpList_store_row rfl 25 (.tmp 6) (.tmp 37) rfl g2 #[.string F.m,.bool is,.bool F.b2,.bool F.b3,.bool F.b4,.bool F.b5,.bool F.b6,.slice S.A7 F.us.length S.c7,.slice S.A8 F.ms.length S.c8,.bool F.b9,.slice S.A10 F.vs.length S.c10] rfl rfl 25 #[.string ⟨#[]⟩,.bool false,.bool false,.bool false,.bool false,.bool false,.bool false,.slice none 0 0,.slice none 0 0,.bool false,.slice none 0 0] K6_g2.out (by kernel_rfl) rfl (by kernel_rfl) ?_))
  obtain ⟨w_7,hw_⟩:∃ w_,w_5.setRow g2 #[.string F.m,.bool is,.bool F.b2,.bool F.b3,.bool F.b4,.bool F.b5,.bool F.b6,.slice S.A7 F.us.length S.c7,.slice S.A8 F.ms.length S.c8,.bool F.b9,.slice S.A10 F.vs.length S.c10]=w_:=⟨_,rfl⟩
  have hu_:Upd w_5 w_7 (fun k=>k=g2):=by rw [← hw_];exact Upd.setRow (Upd.refl w_5 (fun k=>k=g2)) (.inl rfl) _
  have kf_:w_7.heap[g2]?=some (.cells #[.string F.m,.bool is,.bool F.b2,.bool F.b3,.bool F.b4,.bool F.b5,.bool F.b6,.slice S.A7 F.us.length S.c7,.slice S.A8 F.ms.length S.c8,.bool F.b9,.slice S.A10 F.vs.length S.c10] 25 (0,0)):=by rw [← hw_];exact setRow_heap w_5 g2 _ #[.string F.m,.bool is,.bool F.b2,.bool F.b3,.bool F.b4,.bool F.b5,.bool F.b6,.slice S.A7 F.us.length S.c7,.slice S.A8 F.ms.length S.c8,.bool F.b9,.slice S.A10 F.vs.length S.c10] 25 (0,0) K6_g2.out
  rw [hw_]
  clear hw_
  have K8_g2:=amk (kf_)
  have B8:=amk (B6.out.trans (hu_.toBelow (B:=w.heap.size) (fun k hk=>by rw [hk];exact G_g2.out) (B6.out).size))
  have K8_g1:=amk (hu_.blk K6_g1.out (by have:=E_g1_g2.out;omega))
  clear hu_ B6 K6_g1 K6_g2
  clear kf_
  exact bodyPost_ret (res52 _ w_7 g2 _ _ _ _ _ _ _ _ _ _ _ _ rfl rfl K8_g2.out) rfl ⟨rfl,B8.out⟩
 by_cases c1:cmd=1
 ·have R:rxS F cmd on=({ F with b3:=is },le):=by unfold rxS;rw [if_neg c0,if_pos c1,his,hle]
  rw [R]
  clear R
  have d0:(cmd == 0)=false:=beq_eq_false_iff_ne.2 c0
  have d1:(cmd == 1)=true:=beq_iff_eq.2 c1
  clear c0 c1
  have hu25:=Try.underlying25
  go_enter Try.func52,Try.ntmps52
  go_upto_region 4 with (fail)
  obtain ⟨w_1,hw_g1⟩:∃ w_,w.alloc (.cells #[.string F.m,.bool F.b1,.bool F.b2,.bool F.b3,.bool F.b4,.bool F.b5,.bool F.b6,.slice S.A7 F.us.length S.c7,.slice S.A8 F.ms.length S.c8,.bool F.b9,.slice S.A10 F.vs.length S.c10] 25)=w_:=⟨_,rfl⟩
  rw [hw_g1]
  obtain ⟨w_2,hw_g2⟩:∃ w_,w_1.alloc (.cells #[.string ⟨#[]⟩,.bool false,.bool false,.bool false,.bool false,.bool false,.bool false,.slice none 0 0,.slice none 0 0,.bool false,.slice none 0 0] 25)=w_:=⟨_,rfl⟩
  rw [hw_g2]
  have z_g1:w_1.heap.size=w.heap.size+1:=by rw [← hw_g1];simp
  have ha_:Below w.heap.size w w_1:=by rw [← hw_g1];exact bwa (Below.refl _ _) _
  have BX1:Aside0 (w_1.heap[w.heap.size]?=some (.cells #[.string F.m,.bool F.b1,.bool F.b2,.bool F.b3,.bool F.b4,.bool F.b5,.bool F.b6,.slice S.A7 F.us.length S.c7,.slice S.A8 F.ms.length S.c8,.bool F.b9,.slice S.A10 F.vs.length S.c10] 25 (0,0))):=⟨by rw [← hw_g1];exact blk_new w _⟩
  have hgB:w.heap.size≤w.heap.size:=((Below.refl w.heap.size w)).size
  clear hw_g1
  obtain ⟨g1,hg_⟩:∃ g_,w.heap.size=g_:=⟨_,rfl⟩
  have G_g1:Aside0 (w.heap.size≤g1):=⟨Nat.le_trans hgB (Nat.le_of_eq hg_)⟩
  rw [hg_] at BX1 z_g1
  (try rw [hg_])
  clear hgB
  clear hg_
  have B3:=amk (bws (Below.refl w.heap.size w) ha_)
  clear ha_ 
  have z_g2:w_2.heap.size=w_1.heap.size+1:=by rw [← hw_g2];simp
  have ha_:Below w_1.heap.size w_1 w_2:=by rw [← hw_g2];exact bwa (Below.refl _ _) _
  have BX2:Aside0 (w_2.heap[w_1.heap.size]?=some (.cells #[.string ⟨#[]⟩,.bool false,.bool false,.bool false,.bool false,.bool false,.bool false,.slice none 0 0,.slice none 0 0,.bool false,.slice none 0 0] 25 (0,0))):=⟨by rw [← hw_g2];exact blk_new w_1 _⟩
  have hgB:w.heap.size≤w_1.heap.size:=(B3.out).size
  have hl_g1:g1 < w_1.heap.size:=blk_lt BX1.out
  clear hw_g2
  obtain ⟨g2,hg_⟩:∃ g_,w_1.heap.size=g_:=⟨_,rfl⟩
  have G_g2:Aside0 (w.heap.size≤g2):=⟨Nat.le_trans hgB (Nat.le_of_eq hg_)⟩
  rw [hg_] at BX2 z_g2 hl_g1
  have E_g1_g2:=amk hl_g1
  clear hl_g1
  (try rw [hg_])
  clear hgB
  have zz_:g1+1=g2:=by omega
  (try rw [zz_])
  clear zz_
  clear hg_
  have B4:=amk (bws B3.out ha_)
  have K4_g1:=amk (bkb BX1.out ha_)
  clear ha_ B3 BX1
  have pc3:w_2.cell? ⟨g1,3,none⟩=some (.bool F.b3):=(bkc K4_g1.out 3).trans rfl
  have pf3:=bkf K4_g1.out 3
  go_upto_region 16 with (fail)
  clear pc3 pf3
  obtain ⟨w_5,hw_⟩:∃ w_,(w_2.setCell ⟨g1,3,none⟩ (.bool is))=w_:=⟨_,rfl⟩
  have hu_:Upd w_2 w_5 (fun k=>k=g1):=by rw [← hw_];exact (Upd.refl w_2 (fun k=>k=g1)).set (p:=⟨g1,3,none⟩) (.inl rfl) _
  have kf_:w_5.heap[g1]?=some (.cells #[.string F.m,.bool F.b1,.bool F.b2,.bool is,.bool F.b4,.bool F.b5,.bool F.b6,.slice S.A7 F.us.length S.c7,.slice S.A8 F.ms.length S.c8,.bool F.b9,.slice S.A10 F.vs.length S.c10] 25 (0,0)):=by rw [← hw_];exact (blk_put (cs:=#[.string F.m,.bool F.b1,.bool F.b2,.bool F.b3,.bool F.b4,.bool F.b5,.bool F.b6,.slice S.A7 F.us.length S.c7,.slice S.A8 F.ms.length S.c8,.bool F.b9,.slice S.A10 F.vs.length S.c10]) K4_g1.out 3 _ rfl)
  rw [hw_]
  clear hw_
  have K6_g1:=amk (kf_)
  have B6:=amk (B4.out.trans (hu_.toBelow (B:=w.heap.size) (fun k hk=>by rw [hk];exact G_g1.out) (B4.out).size))
  have K6_g2:=amk (hu_.blk BX2.out (by have:=E_g1_g2.out;omega))
  clear hu_ B4 BX2 K4_g1
  clear kf_
  go_wp2_with (first | (refine wpList_load_row rfl 25 (.tmp 3) rfl g1 rfl 25 #[.string F.m,.bool F.b1,.bool F.b2,.bool is,.bool F.b4,.bool F.b5,.bool F.b6,.slice S.A7 F.us.length S.c7,.slice S.A8 F.ms.length S.c8,.bool F.b9,.slice S.A10 F.vs.length S.c10] (0,0) _ K6_g1.out Try.underlying25 rfl (by kernel_rfl) ?_) | (refine wpList_store_row rfl 25 (.tmp 6) (.tmp 37) rfl g2 #[.string F.m,.bool F.b1,.bool F.b2,.bool is,.bool F.b4,.bool F.b5,.bool F.b6,.slice S.A7 F.us.length S.c7,.slice S.A8 F.ms.length S.c8,.bool F.b9,.slice S.A10 F.vs.length S.c10] rfl rfl 25 #[.string ⟨#[]⟩,.bool false,.bool false,.bool false,.bool false,.bool false,.bool false,.slice none 0 0,.slice none 0 0,.bool false,.slice none 0 0] K6_g2.out (by kernel_rfl) rfl (by kernel_rfl) ?_))
  obtain ⟨w_7,hw_⟩:∃ w_,w_5.setRow g2 #[.string F.m,.bool F.b1,.bool F.b2,.bool is,.bool F.b4,.bool F.b5,.bool F.b6,.slice S.A7 F.us.length S.c7,.slice S.A8 F.ms.length S.c8,.bool F.b9,.slice S.A10 F.vs.length S.c10]=w_:=⟨_,rfl⟩
  have hu_:Upd w_5 w_7 (fun k=>k=g2):=by rw [← hw_];exact Upd.setRow (Upd.refl w_5 (fun k=>k=g2)) (.inl rfl) _
  have kf_:w_7.heap[g2]?=some (.cells #[.string F.m,.bool F.b1,.bool F.b2,.bool is,.bool F.b4,.bool F.b5,.bool F.b6,.slice S.A7 F.us.length S.c7,.slice S.A8 F.ms.length S.c8,.bool F.b9,.slice S.A10 F.vs.length S.c10] 25 (0,0)):=by rw [← hw_];exact setRow_heap w_5 g2 _ #[.string F.m,.bool F.b1,.bool F.b2,.bool is,.bool F.b4,.bool F.b5,.bool F.b6,.slice S.A7 F.us.length S.c7,.slice S.A8 F.ms.length S.c8,.bool F.b9,.slice S.A10 F.vs.length S.c10] 25 (0,0) K6_g2.out
  rw [hw_]
  clear hw_
  have K8_g2:=amk (kf_)
  have B8:=amk (B6.out.trans (hu_.toBelow (B:=w.heap.size) (fun k hk=>by rw [hk];exact G_g2.out) (B6.out).size))
  have K8_g1:=amk (hu_.blk K6_g1.out (by have:=E_g1_g2.out;omega))
  clear hu_ B6 K6_g1 K6_g2
  clear kf_
  exact bodyPost_ret (res52 _ w_7 g2 _ _ _ _ _ _ _ _ _ _ _ _ rfl rfl K8_g2.out) rfl ⟨rfl,B8.out⟩
 by_cases c2:cmd=2
 ·have R:rxS F cmd on=({ F with b2:=is },le):=by unfold rxS;rw [if_neg c0,if_neg c1,if_pos c2,his,hle]
  rw [R]
  clear R
  have d0:(cmd == 0)=false:=beq_eq_false_iff_ne.2 c0
  have d1:(cmd == 1)=false:=beq_eq_false_iff_ne.2 c1
  have d2:(cmd == 2)=true:=beq_iff_eq.2 c2
  clear c0 c1 c2
  have hu25:=Try.underlying25
  go_enter Try.func52,Try.ntmps52
  go_upto_region 4 with (fail)
  obtain ⟨w_1,hw_g1⟩:∃ w_,w.alloc (.cells #[.string F.m,.bool F.b1,.bool F.b2,.bool F.b3,.bool F.b4,.bool F.b5,.bool F.b6,.slice S.A7 F.us.length S.c7,.slice S.A8 F.ms.length S.c8,.bool F.b9,.slice S.A10 F.vs.length S.c10] 25)=w_:=⟨_,rfl⟩
  rw [hw_g1]
  obtain ⟨w_2,hw_g2⟩:∃ w_,w_1.alloc (.cells #[.string ⟨#[]⟩,.bool false,.bool false,.bool false,.bool false,.bool false,.bool false,.slice none 0 0,.slice none 0 0,.bool false,.slice none 0 0] 25)=w_:=⟨_,rfl⟩
  rw [hw_g2]
  have z_g1:w_1.heap.size=w.heap.size+1:=by rw [← hw_g1];simp
  have ha_:Below w.heap.size w w_1:=by rw [← hw_g1];exact bwa (Below.refl _ _) _
  have BX1:Aside0 (w_1.heap[w.heap.size]?=some (.cells #[.string F.m,.bool F.b1,.bool F.b2,.bool F.b3,.bool F.b4,.bool F.b5,.bool F.b6,.slice S.A7 F.us.length S.c7,.slice S.A8 F.ms.length S.c8,.bool F.b9,.slice S.A10 F.vs.length S.c10] 25 (0,0))):=⟨by rw [← hw_g1];exact blk_new w _⟩
  have hgB:w.heap.size≤w.heap.size:=((Below.refl w.heap.size w)).size
  clear hw_g1
  obtain ⟨g1,hg_⟩:∃ g_,w.heap.size=g_:=⟨_,rfl⟩
  have G_g1:Aside0 (w.heap.size≤g1):=⟨Nat.le_trans hgB (Nat.le_of_eq hg_)⟩
  rw [hg_] at BX1 z_g1
  (try rw [hg_])
  clear hgB
  clear hg_
  have B3:=amk (bws (Below.refl w.heap.size w) ha_)
  clear ha_ 
  have z_g2:w_2.heap.size=w_1.heap.size+1:=by rw [← hw_g2];simp
  have ha_:Below w_1.heap.size w_1 w_2:=by rw [← hw_g2];exact bwa (Below.refl _ _) _
  have BX2:Aside0 (w_2.heap[w_1.heap.size]?=some (.cells #[.string ⟨#[]⟩,.bool false,.bool false,.bool false,.bool false,.bool false,.bool false,.slice none 0 0,.slice none 0 0,.bool false,.slice none 0 0] 25 (0,0))):=⟨by rw [← hw_g2];exact blk_new w_1 _⟩
  have hgB:w.heap.size≤w_1.heap.size:=(B3.out).size
  have hl_g1:g1 < w_1.heap.size:=blk_lt BX1.out
  clear hw_g2
  obtain ⟨g2,hg_⟩:∃ g_,w_1.heap.size=g_:=⟨_,rfl⟩
  have G_g2:Aside0 (w.heap.size≤g2):=⟨Nat.le_trans hgB (Nat.le_of_eq hg_)⟩
  rw [hg_] at BX2 z_g2 hl_g1
  have E_g1_g2:=amk hl_g1
  clear hl_g1
  (try rw [hg_])
  clear hgB
  have zz_:g1+1=g2:=by omega
  (try rw [zz_])
  clear zz_
  clear hg_
  have B4:=amk (bws B3.out ha_)
  have K4_g1:=amk (bkb BX1.out ha_)
  clear ha_ B3 BX1
  have pc2:w_2.cell? ⟨g1,2,none⟩=some (.bool F.b2):=(bkc K4_g1.out 2).trans rfl
  have pf2:=bkf K4_g1.out 2
  go_upto_region 16 with (fail)
  clear pc2 pf2
  obtain ⟨w_5,hw_⟩:∃ w_,(w_2.setCell ⟨g1,2,none⟩ (.bool is))=w_:=⟨_,rfl⟩
  have hu_:Upd w_2 w_5 (fun k=>k=g1):=by rw [← hw_];exact (Upd.refl w_2 (fun k=>k=g1)).set (p:=⟨g1,2,none⟩) (.inl rfl) _
  have kf_:w_5.heap[g1]?=some (.cells #[.string F.m,.bool F.b1,.bool is,.bool F.b3,.bool F.b4,.bool F.b5,.bool F.b6,.slice S.A7 F.us.length S.c7,.slice S.A8 F.ms.length S.c8,.bool F.b9,.slice S.A10 F.vs.length S.c10] 25 (0,0)):=by rw [← hw_];exact (blk_put (cs:=#[.string F.m,.bool F.b1,.bool F.b2,.bool F.b3,.bool F.b4,.bool F.b5,.bool F.b6,.slice S.A7 F.us.length S.c7,.slice S.A8 F.ms.length S.c8,.bool F.b9,.slice S.A10 F.vs.length S.c10]) K4_g1.out 2 _ rfl)
  rw [hw_]
  clear hw_
  have K6_g1:=amk (kf_)
  have B6:=amk (B4.out.trans (hu_.toBelow (B:=w.heap.size) (fun k hk=>by rw [hk];exact G_g1.out) (B4.out).size))
  have K6_g2:=amk (hu_.blk BX2.out (by have:=E_g1_g2.out;omega))
  clear hu_ B4 BX2 K4_g1
  clear kf_
  go_wp2_with (first | (refine wpList_load_row rfl 25 (.tmp 3) rfl g1 rfl 25 #[.string F.m,.bool F.b1,.bool is,.bool F.b3,.bool F.b4,.bool F.b5,.bool F.b6,.slice S.A7 F.us.length S.c7,.slice S.A8 F.ms.length S.c8,.bool F.b9,.slice S.A10 F.vs.length S.c10] (0,0) _ K6_g1.out Try.underlying25 rfl (by kernel_rfl) ?_) | (refine wpList_store_row rfl 25 (.tmp 6) (.tmp 37) rfl g2 #[.string F.m,.bool F.b1,.bool is,.bool F.b3,.bool F.b4,.bool F.b5,.bool F.b6,.slice S.A7 F.us.length S.c7,.slice S.A8 F.ms.length S.c8,.bool F.b9,.slice S.A10 F.vs.length S.c10] rfl rfl 25 #[.string ⟨#[]⟩,.bool false,.bool false,.bool false,.bool false,.bool false,.bool false,.slice none 0 0,.slice none 0 0,.bool false,.slice none 0 0] K6_g2.out (by kernel_rfl) rfl (by kernel_rfl) ?_))
  obtain ⟨w_7,hw_⟩:∃ w_,w_5.setRow g2 #[.string F.m,.bool F.b1,.bool is,.bool F.b3,.bool F.b4,.bool F.b5,.bool F.b6,.slice S.A7 F.us.length S.c7,.slice S.A8 F.ms.length S.c8,.bool F.b9,.slice S.A10 F.vs.length S.c10]=w_:=⟨_,rfl⟩
  have hu_:Upd w_5 w_7 (fun k=>k=g2):=by rw [← hw_];exact Upd.setRow (Upd.refl w_5 (fun k=>k=g2)) (.inl rfl) _
  have kf_:w_7.heap[g2]?=some (.cells #[.string F.m,.bool F.b1,.bool is,.bool F.b3,.bool F.b4,.bool F.b5,.bool F.b6,.slice S.A7 F.us.length S.c7,.slice S.A8 F.ms.length S.c8,.bool F.b9,.slice S.A10 F.vs.length S.c10] 25 (0,0)):=by rw [← hw_];exact setRow_heap w_5 g2 _ #[.string F.m,.bool F.b1,.bool is,.bool F.b3,.bool F.b4,.bool F.b5,.bool F.b6,.slice S.A7 F.us.length S.c7,.slice S.A8 F.ms.length S.c8,.bool F.b9,.slice S.A10 F.vs.length S.c10] 25 (0,0) K6_g2.out
  rw [hw_]
  clear hw_
  have K8_g2:=amk (kf_)
  have B8:=amk (B6.out.trans (hu_.toBelow (B:=w.heap.size) (fun k hk=>by rw [hk];exact G_g2.out) (B6.out).size))
  have K8_g1:=amk (hu_.blk K6_g1.out (by have:=E_g1_g2.out;omega))
  clear hu_ B6 K6_g1 K6_g2
  clear kf_
  exact bodyPost_ret (res52 _ w_7 g2 _ _ _ _ _ _ _ _ _ _ _ _ rfl rfl K8_g2.out) rfl ⟨rfl,B8.out⟩
 by_cases c3:cmd=3
 ·have R:rxS F cmd on=({ F with b5:=is },le):=by unfold rxS;rw [if_neg c0,if_neg c1,if_neg c2,if_pos c3,his,hle]
  rw [R]
  clear R
  have d0:(cmd == 0)=false:=beq_eq_false_iff_ne.2 c0
  have d1:(cmd == 1)=false:=beq_eq_false_iff_ne.2 c1
  have d2:(cmd == 2)=false:=beq_eq_false_iff_ne.2 c2
  have d3:(cmd == 3)=true:=beq_iff_eq.2 c3
  clear c0 c1 c2 c3
  have hu25:=Try.underlying25
  go_enter Try.func52,Try.ntmps52
  go_upto_region 4 with (fail)
  obtain ⟨w_1,hw_g1⟩:∃ w_,w.alloc (.cells #[.string F.m,.bool F.b1,.bool F.b2,.bool F.b3,.bool F.b4,.bool F.b5,.bool F.b6,.slice S.A7 F.us.length S.c7,.slice S.A8 F.ms.length S.c8,.bool F.b9,.slice S.A10 F.vs.length S.c10] 25)=w_:=⟨_,rfl⟩
  rw [hw_g1]
  obtain ⟨w_2,hw_g2⟩:∃ w_,w_1.alloc (.cells #[.string ⟨#[]⟩,.bool false,.bool false,.bool false,.bool false,.bool false,.bool false,.slice none 0 0,.slice none 0 0,.bool false,.slice none 0 0] 25)=w_:=⟨_,rfl⟩
  rw [hw_g2]
  have z_g1:w_1.heap.size=w.heap.size+1:=by rw [← hw_g1];simp
  have ha_:Below w.heap.size w w_1:=by rw [← hw_g1];exact bwa (Below.refl _ _) _
  have BX1:Aside0 (w_1.heap[w.heap.size]?=some (.cells #[.string F.m,.bool F.b1,.bool F.b2,.bool F.b3,.bool F.b4,.bool F.b5,.bool F.b6,.slice S.A7 F.us.length S.c7,.slice S.A8 F.ms.length S.c8,.bool F.b9,.slice S.A10 F.vs.length S.c10] 25 (0,0))):=⟨by rw [← hw_g1];exact blk_new w _⟩
  have hgB:w.heap.size≤w.heap.size:=((Below.refl w.heap.size w)).size
  clear hw_g1
  obtain ⟨g1,hg_⟩:∃ g_,w.heap.size=g_:=⟨_,rfl⟩
  have G_g1:Aside0 (w.heap.size≤g1):=⟨Nat.le_trans hgB (Nat.le_of_eq hg_)⟩
  rw [hg_] at BX1 z_g1
  (try rw [hg_])
  clear hgB
  clear hg_
  have B3:=amk (bws (Below.refl w.heap.size w) ha_)
  clear ha_ 
  have z_g2:w_2.heap.size=w_1.heap.size+1:=by rw [← hw_g2];simp
  have ha_:Below w_1.heap.size w_1 w_2:=by rw [← hw_g2];exact bwa (Below.refl _ _) _
  have BX2:Aside0 (w_2.heap[w_1.heap.size]?=some (.cells #[.string ⟨#[]⟩,.bool false,.bool false,.bool false,.bool false,.bool false,.bool false,.slice none 0 0,.slice none 0 0,.bool false,.slice none 0 0] 25 (0,0))):=⟨by rw [← hw_g2];exact blk_new w_1 _⟩
  have hgB:w.heap.size≤w_1.heap.size:=(B3.out).size
  have hl_g1:g1 < w_1.heap.size:=blk_lt BX1.out
  clear hw_g2
  obtain ⟨g2,hg_⟩:∃ g_,w_1.heap.size=g_:=⟨_,rfl⟩
  have G_g2:Aside0 (w.heap.size≤g2):=⟨Nat.le_trans hgB (Nat.le_of_eq hg_)⟩
  rw [hg_] at BX2 z_g2 hl_g1
  have E_g1_g2:=amk hl_g1
  clear hl_g1
  (try rw [hg_])
  clear hgB
  have zz_:g1+1=g2:=by omega
  (try rw [zz_])
  clear zz_
  clear hg_
  have B4:=amk (bws B3.out ha_)
  have K4_g1:=amk (bkb BX1.out ha_)
  clear ha_ B3 BX1
  have pc5:w_2.cell? ⟨g1,5,none⟩=some (.bool F.b5):=(bkc K4_g1.out 5).trans rfl
  have pf5:=bkf K4_g1.out 5
  go_upto_region 16 with (fail)
  clear pc5 pf5
  obtain ⟨w_5,hw_⟩:∃ w_,(w_2.setCell ⟨g1,5,none⟩ (.bool is))=w_:=⟨_,rfl⟩
  have hu_:Upd w_2 w_5 (fun k=>k=g1):=by rw [← hw_];exact (Upd.refl w_2 (fun k=>k=g1)).set (p:=⟨g1,5,none⟩) (.inl rfl) _
  have kf_:w_5.heap[g1]?=some (.cells #[.string F.m,.bool F.b1,.bool F.b2,.bool F.b3,.bool F.b4,.bool is,.bool F.b6,.slice S.A7 F.us.length S.c7,.slice S.A8 F.ms.length S.c8,.bool F.b9,.slice S.A10 F.vs.length S.c10] 25 (0,0)):=by rw [← hw_];exact (blk_put (cs:=#[.string F.m,.bool F.b1,.bool F.b2,.bool F.b3,.bool F.b4,.bool F.b5,.bool F.b6,.slice S.A7 F.us.length S.c7,.slice S.A8 F.ms.length S.c8,.bool F.b9,.slice S.A10 F.vs.length S.c10]) K4_g1.out 5 _ rfl)
  rw [hw_]
  clear hw_
  have K6_g1:=amk (kf_)
  have B6:=amk (B4.out.trans (hu_.toBelow (B:=w.heap.size) (fun k hk=>by rw [hk];exact G_g1.out) (B4.out).size))
  have K6_g2:=amk (hu_.blk BX2.out (by have:=E_g1_g2.out;omega))
  clear hu_ B4 BX2 K4_g1
  clear kf_
  go_wp2_with (first | (refine wpList_load_row rfl 25 (.tmp 3) rfl g1 rfl 25 #[.string F.m,.bool F.b1,.bool F.b2,.bool F.b3,.bool F.b4,.bool is,.bool F.b6,.slice S.A7 F.us.length S.c7,.slice S.A8 F.ms.length S.c8,.bool F.b9,.slice S.A10 F.vs.length S.c10] (0,0) _ K6_g1.out Try.underlying25 rfl (by kernel_rfl) ?_) | (refine wpList_store_row rfl 25 (.tmp 6) (.tmp 37) rfl g2 #[.string F.m,.bool F.b1,.bool F.b2,.bool F.b3,.bool F.b4,.bool is,.bool F.b6,.slice S.A7 F.us.length S.c7,.slice S.A8 F.ms.length S.c8,.bool F.b9,.slice S.A10 F.vs.length S.c10] rfl rfl 25 #[.string ⟨#[]⟩,.bool false,.bool false,.bool false,.bool false,.bool false,.bool false,.slice none 0 0,.slice none 0 0,.bool false,.slice none 0 0] K6_g2.out (by kernel_rfl) rfl (by kernel_rfl) ?_))
  obtain ⟨w_7,hw_⟩:∃ w_,w_5.setRow g2 #[.string F.m,.bool F.b1,.bool F.b2,.bool F.b3,.bool F.b4,.bool is,.bool F.b6,.slice S.A7 F.us.length S.c7,.slice S.A8 F.ms.length S.c8,.bool F.b9,.slice S.A10 F.vs.length S.c10]=w_:=⟨_,rfl⟩
  have hu_:Upd w_5 w_7 (fun k=>k=g2):=by rw [← hw_];exact Upd.setRow (Upd.refl w_5 (fun k=>k=g2)) (.inl rfl) _
  have kf_:w_7.heap[g2]?=some (.cells #[.string F.m,.bool F.b1,.bool F.b2,.bool F.b3,.bool F.b4,.bool is,.bool F.b6,.slice S.A7 F.us.length S.c7,.slice S.A8 F.ms.length S.c8,.bool F.b9,.slice S.A10 F.vs.length S.c10] 25 (0,0)):=by rw [← hw_];exact setRow_heap w_5 g2 _ #[.string F.m,.bool F.b1,.bool F.b2,.bool F.b3,.bool F.b4,.bool is,.bool F.b6,.slice S.A7 F.us.length S.c7,.slice S.A8 F.ms.length S.c8,.bool F.b9,.slice S.A10 F.vs.length S.c10] 25 (0,0) K6_g2.out
  rw [hw_]
  clear hw_
  have K8_g2:=amk (kf_)
  have B8:=amk (B6.out.trans (hu_.toBelow (B:=w.heap.size) (fun k hk=>by rw [hk];exact G_g2.out) (B6.out).size))
  have K8_g1:=amk (hu_.blk K6_g1.out (by have:=E_g1_g2.out;omega))
  clear hu_ B6 K6_g1 K6_g2
  clear kf_
  exact bodyPost_ret (res52 _ w_7 g2 _ _ _ _ _ _ _ _ _ _ _ _ rfl rfl K8_g2.out) rfl ⟨rfl,B8.out⟩
 by_cases c4:cmd=4
 ·have R:rxS F cmd on=({ F with b4:=is },le):=by unfold rxS;rw [if_neg c0,if_neg c1,if_neg c2,if_neg c3,if_pos c4,his,hle]
  rw [R]
  clear R
  have d0:(cmd == 0)=false:=beq_eq_false_iff_ne.2 c0
  have d1:(cmd == 1)=false:=beq_eq_false_iff_ne.2 c1
  have d2:(cmd == 2)=false:=beq_eq_false_iff_ne.2 c2
  have d3:(cmd == 3)=false:=beq_eq_false_iff_ne.2 c3
  have d4:(cmd == 4)=true:=beq_iff_eq.2 c4
  clear c0 c1 c2 c3 c4
  have hu25:=Try.underlying25
  go_enter Try.func52,Try.ntmps52
  go_upto_region 4 with (fail)
  obtain ⟨w_1,hw_g1⟩:∃ w_,w.alloc (.cells #[.string F.m,.bool F.b1,.bool F.b2,.bool F.b3,.bool F.b4,.bool F.b5,.bool F.b6,.slice S.A7 F.us.length S.c7,.slice S.A8 F.ms.length S.c8,.bool F.b9,.slice S.A10 F.vs.length S.c10] 25)=w_:=⟨_,rfl⟩
  rw [hw_g1]
  obtain ⟨w_2,hw_g2⟩:∃ w_,w_1.alloc (.cells #[.string ⟨#[]⟩,.bool false,.bool false,.bool false,.bool false,.bool false,.bool false,.slice none 0 0,.slice none 0 0,.bool false,.slice none 0 0] 25)=w_:=⟨_,rfl⟩
  rw [hw_g2]
  have z_g1:w_1.heap.size=w.heap.size+1:=by rw [← hw_g1];simp
  have ha_:Below w.heap.size w w_1:=by rw [← hw_g1];exact bwa (Below.refl _ _) _
  have BX1:Aside0 (w_1.heap[w.heap.size]?=some (.cells #[.string F.m,.bool F.b1,.bool F.b2,.bool F.b3,.bool F.b4,.bool F.b5,.bool F.b6,.slice S.A7 F.us.length S.c7,.slice S.A8 F.ms.length S.c8,.bool F.b9,.slice S.A10 F.vs.length S.c10] 25 (0,0))):=⟨by rw [← hw_g1];exact blk_new w _⟩
  have hgB:w.heap.size≤w.heap.size:=((Below.refl w.heap.size w)).size
  clear hw_g1
  obtain ⟨g1,hg_⟩:∃ g_,w.heap.size=g_:=⟨_,rfl⟩
  have G_g1:Aside0 (w.heap.size≤g1):=⟨Nat.le_trans hgB (Nat.le_of_eq hg_)⟩
  rw [hg_] at BX1 z_g1
  (try rw [hg_])
  clear hgB
  clear hg_
  have B3:=amk (bws (Below.refl w.heap.size w) ha_)
  clear ha_ 
  have z_g2:w_2.heap.size=w_1.heap.size+1:=by rw [← hw_g2];simp
  have ha_:Below w_1.heap.size w_1 w_2:=by rw [← hw_g2];exact bwa (Below.refl _ _) _
  have BX2:Aside0 (w_2.heap[w_1.heap.size]?=some (.cells #[.string ⟨#[]⟩,.bool false,.bool false,.bool false,.bool false,.bool false,.bool false,.slice none 0 0,.slice none 0 0,.bool false,.slice none 0 0] 25 (0,0))):=⟨by rw [← hw_g2];exact blk_new w_1 _⟩
  have hgB:w.heap.size≤w_1.heap.size:=(B3.out).size
  have hl_g1:g1 < w_1.heap.size:=blk_lt BX1.out
  clear hw_g2
  obtain ⟨g2,hg_⟩:∃ g_,w_1.heap.size=g_:=⟨_,rfl⟩
  have G_g2:Aside0 (w.heap.size≤g2):=⟨Nat.le_trans hgB (Nat.le_of_eq hg_)⟩
  rw [hg_] at BX2 z_g2 hl_g1
  have E_g1_g2:=amk hl_g1
  clear hl_g1
  (try rw [hg_])
  clear hgB
  have zz_:g1+1=g2:=by omega
  (try rw [zz_])
  clear zz_
  clear hg_
  have B4:=amk (bws B3.out ha_)
  have K4_g1:=amk (bkb BX1.out ha_)
  clear ha_ B3 BX1
  have pc4:w_2.cell? ⟨g1,4,none⟩=some (.bool F.b4):=(bkc K4_g1.out 4).trans rfl
  have pf4:=bkf K4_g1.out 4
  go_upto_region 16 with (fail)
  clear pc4 pf4
  obtain ⟨w_5,hw_⟩:∃ w_,(w_2.setCell ⟨g1,4,none⟩ (.bool is))=w_:=⟨_,rfl⟩
  have hu_:Upd w_2 w_5 (fun k=>k=g1):=by rw [← hw_];exact (Upd.refl w_2 (fun k=>k=g1)).set (p:=⟨g1,4,none⟩) (.inl rfl) _
  have kf_:w_5.heap[g1]?=some (.cells #[.string F.m,.bool F.b1,.bool F.b2,.bool F.b3,.bool is,.bool F.b5,.bool F.b6,.slice S.A7 F.us.length S.c7,.slice S.A8 F.ms.length S.c8,.bool F.b9,.slice S.A10 F.vs.length S.c10] 25 (0,0)):=by rw [← hw_];exact (blk_put (cs:=#[.string F.m,.bool F.b1,.bool F.b2,.bool F.b3,.bool F.b4,.bool F.b5,.bool F.b6,.slice S.A7 F.us.length S.c7,.slice S.A8 F.ms.length S.c8,.bool F.b9,.slice S.A10 F.vs.length S.c10]) K4_g1.out 4 _ rfl)
  rw [hw_]
  clear hw_
  have K6_g1:=amk (kf_)
  have B6:=amk (B4.out.trans (hu_.toBelow (B:=w.heap.size) (fun k hk=>by rw [hk];exact G_g1.out) (B4.out).size))
  have K6_g2:=amk (hu_.blk BX2.out (by have:=E_g1_g2.out;omega))
  clear hu_ B4 BX2 K4_g1
  clear kf_
  go_wp2_with (first | (refine wpList_load_row rfl 25 (.tmp 3) rfl g1 rfl 25 #[.string F.m,.bool F.b1,.bool F.b2,.bool F.b3,.bool is,.bool F.b5,.bool F.b6,.slice S.A7 F.us.length S.c7,.slice S.A8 F.ms.length S.c8,.bool F.b9,.slice S.A10 F.vs.length S.c10] (0,0) _ K6_g1.out Try.underlying25 rfl (by kernel_rfl) ?_) | (refine wpList_store_row rfl 25 (.tmp 6) (.tmp 37) rfl g2 #[.string F.m,.bool F.b1,.bool F.b2,.bool F.b3,.bool is,.bool F.b5,.bool F.b6,.slice S.A7 F.us.length S.c7,.slice S.A8 F.ms.length S.c8,.bool F.b9,.slice S.A10 F.vs.length S.c10] rfl rfl 25 #[.string ⟨#[]⟩,.bool false,.bool false,.bool false,.bool false,.bool false,.bool false,.slice none 0 0,.slice none 0 0,.bool false,.slice none 0 0] K6_g2.out (by kernel_rfl) rfl (by kernel_rfl) ?_))
  obtain ⟨w_7,hw_⟩:∃ w_,w_5.setRow g2 #[.string F.m,.bool F.b1,.bool F.b2,.bool F.b3,.bool is,.bool F.b5,.bool F.b6,.slice S.A7 F.us.length S.c7,.slice S.A8 F.ms.length S.c8,.bool F.b9,.slice S.A10 F.vs.length S.c10]=w_:=⟨_,rfl⟩
  have hu_:Upd w_5 w_7 (fun k=>k=g2):=by rw [← hw_];exact Upd.setRow (Upd.refl w_5 (fun k=>k=g2)) (.inl rfl) _
  have kf_:w_7.heap[g2]?=some (.cells #[.string F.m,.bool F.b1,.bool F.b2,.bool F.b3,.bool is,.bool F.b5,.bool F.b6,.slice S.A7 F.us.length S.c7,.slice S.A8 F.ms.length S.c8,.bool F.b9,.slice S.A10 F.vs.length S.c10] 25 (0,0)):=by rw [← hw_];exact setRow_heap w_5 g2 _ #[.string F.m,.bool F.b1,.bool F.b2,.bool F.b3,.bool is,.bool F.b5,.bool F.b6,.slice S.A7 F.us.length S.c7,.slice S.A8 F.ms.length S.c8,.bool F.b9,.slice S.A10 F.vs.length S.c10] 25 (0,0) K6_g2.out
  rw [hw_]
  clear hw_
  have K8_g2:=amk (kf_)
  have B8:=amk (B6.out.trans (hu_.toBelow (B:=w.heap.size) (fun k hk=>by rw [hk];exact G_g2.out) (B6.out).size))
  have K8_g1:=amk (hu_.blk K6_g1.out (by have:=E_g1_g2.out;omega))
  clear hu_ B6 K6_g1 K6_g2
  clear kf_
  exact bodyPost_ret (res52 _ w_7 g2 _ _ _ _ _ _ _ _ _ _ _ _ rfl rfl K8_g2.out) rfl ⟨rfl,B8.out⟩
 by_cases c5:cmd=5
 ·have R:rxS F cmd on=({ F with b6:=is },le):=by unfold rxS;rw [if_neg c0,if_neg c1,if_neg c2,if_neg c3,if_neg c4,if_pos c5,his,hle]
  rw [R]
  clear R
  have d0:(cmd == 0)=false:=beq_eq_false_iff_ne.2 c0
  have d1:(cmd == 1)=false:=beq_eq_false_iff_ne.2 c1
  have d2:(cmd == 2)=false:=beq_eq_false_iff_ne.2 c2
  have d3:(cmd == 3)=false:=beq_eq_false_iff_ne.2 c3
  have d4:(cmd == 4)=false:=beq_eq_false_iff_ne.2 c4
  have d5:(cmd == 5)=true:=beq_iff_eq.2 c5
  clear c0 c1 c2 c3 c4 c5
  have hu25:=Try.underlying25
  go_enter Try.func52,Try.ntmps52
  go_upto_region 4 with (fail)
  obtain ⟨w_1,hw_g1⟩:∃ w_,w.alloc (.cells #[.string F.m,.bool F.b1,.bool F.b2,.bool F.b3,.bool F.b4,.bool F.b5,.bool F.b6,.slice S.A7 F.us.length S.c7,.slice S.A8 F.ms.length S.c8,.bool F.b9,.slice S.A10 F.vs.length S.c10] 25)=w_:=⟨_,rfl⟩
  rw [hw_g1]
  obtain ⟨w_2,hw_g2⟩:∃ w_,w_1.alloc (.cells #[.string ⟨#[]⟩,.bool false,.bool false,.bool false,.bool false,.bool false,.bool false,.slice none 0 0,.slice none 0 0,.bool false,.slice none 0 0] 25)=w_:=⟨_,rfl⟩
  rw [hw_g2]
  have z_g1:w_1.heap.size=w.heap.size+1:=by rw [← hw_g1];simp
  have ha_:Below w.heap.size w w_1:=by rw [← hw_g1];exact bwa (Below.refl _ _) _
  have BX1:Aside0 (w_1.heap[w.heap.size]?=some (.cells #[.string F.m,.bool F.b1,.bool F.b2,.bool F.b3,.bool F.b4,.bool F.b5,.bool F.b6,.slice S.A7 F.us.length S.c7,.slice S.A8 F.ms.length S.c8,.bool F.b9,.slice S.A10 F.vs.length S.c10] 25 (0,0))):=⟨by rw [← hw_g1];exact blk_new w _⟩
  have hgB:w.heap.size≤w.heap.size:=((Below.refl w.heap.size w)).size
  clear hw_g1
  obtain ⟨g1,hg_⟩:∃ g_,w.heap.size=g_:=⟨_,rfl⟩
  have G_g1:Aside0 (w.heap.size≤g1):=⟨Nat.le_trans hgB (Nat.le_of_eq hg_)⟩
  rw [hg_] at BX1 z_g1
  (try rw [hg_])
  clear hgB
  clear hg_
  have B3:=amk (bws (Below.refl w.heap.size w) ha_)
  clear ha_ 
  have z_g2:w_2.heap.size=w_1.heap.size+1:=by rw [← hw_g2];simp
  have ha_:Below w_1.heap.size w_1 w_2:=by rw [← hw_g2];exact bwa (Below.refl _ _) _
  have BX2:Aside0 (w_2.heap[w_1.heap.size]?=some (.cells #[.string ⟨#[]⟩,.bool false,.bool false,.bool false,.bool false,.bool false,.bool false,.slice none 0 0,.slice none 0 0,.bool false,.slice none 0 0] 25 (0,0))):=⟨by rw [← hw_g2];exact blk_new w_1 _⟩
  have hgB:w.heap.size≤w_1.heap.size:=(B3.out).size
  have hl_g1:g1 < w_1.heap.size:=blk_lt BX1.out
  clear hw_g2
  obtain ⟨g2,hg_⟩:∃ g_,w_1.heap.size=g_:=⟨_,rfl⟩
  have G_g2:Aside0 (w.heap.size≤g2):=⟨Nat.le_trans hgB (Nat.le_of_eq hg_)⟩
  rw [hg_] at BX2 z_g2 hl_g1
  have E_g1_g2:=amk hl_g1
  clear hl_g1
  (try rw [hg_])
  clear hgB
  have zz_:g1+1=g2:=by omega
  (try rw [zz_])
  clear zz_
  clear hg_
  have B4:=amk (bws B3.out ha_)
  have K4_g1:=amk (bkb BX1.out ha_)
  clear ha_ B3 BX1
  have pc6:w_2.cell? ⟨g1,6,none⟩=some (.bool F.b6):=(bkc K4_g1.out 6).trans rfl
  have pf6:=bkf K4_g1.out 6
  go_upto_region 16 with (fail)
  clear pc6 pf6
  obtain ⟨w_5,hw_⟩:∃ w_,(w_2.setCell ⟨g1,6,none⟩ (.bool is))=w_:=⟨_,rfl⟩
  have hu_:Upd w_2 w_5 (fun k=>k=g1):=by rw [← hw_];exact (Upd.refl w_2 (fun k=>k=g1)).set (p:=⟨g1,6,none⟩) (.inl rfl) _
  have kf_:w_5.heap[g1]?=some (.cells #[.string F.m,.bool F.b1,.bool F.b2,.bool F.b3,.bool F.b4,.bool F.b5,.bool is,.slice S.A7 F.us.length S.c7,.slice S.A8 F.ms.length S.c8,.bool F.b9,.slice S.A10 F.vs.length S.c10] 25 (0,0)):=by rw [← hw_];exact (blk_put (cs:=#[.string F.m,.bool F.b1,.bool F.b2,.bool F.b3,.bool F.b4,.bool F.b5,.bool F.b6,.slice S.A7 F.us.length S.c7,.slice S.A8 F.ms.length S.c8,.bool F.b9,.slice S.A10 F.vs.length S.c10]) K4_g1.out 6 _ rfl)
  rw [hw_]
  clear hw_
  have K6_g1:=amk (kf_)
  have B6:=amk (B4.out.trans (hu_.toBelow (B:=w.heap.size) (fun k hk=>by rw [hk];exact G_g1.out) (B4.out).size))
  have K6_g2:=amk (hu_.blk BX2.out (by have:=E_g1_g2.out;omega))
  clear hu_ B4 BX2 K4_g1
  clear kf_
  go_wp2_with (first | (refine wpList_load_row rfl 25 (.tmp 3) rfl g1 rfl 25 #[.string F.m,.bool F.b1,.bool F.b2,.bool F.b3,.bool F.b4,.bool F.b5,.bool is,.slice S.A7 F.us.length S.c7,.slice S.A8 F.ms.length S.c8,.bool F.b9,.slice S.A10 F.vs.length S.c10] (0,0) _ K6_g1.out Try.underlying25 rfl (by kernel_rfl) ?_) | (refine wpList_store_row rfl 25 (.tmp 6) (.tmp 37) rfl g2 #[.string F.m,.bool F.b1,.bool F.b2,.bool F.b3,.bool F.b4,.bool F.b5,.bool is,.slice S.A7 F.us.length S.c7,.slice S.A8 F.ms.length S.c8,.bool F.b9,.slice S.A10 F.vs.length S.c10] rfl rfl 25 #[.string ⟨#[]⟩,.bool false,.bool false,.bool false,.bool false,.bool false,.bool false,.slice none 0 0,.slice none 0 0,.bool false,.slice none 0 0] K6_g2.out (by kernel_rfl) rfl (by kernel_rfl) ?_))
  obtain ⟨w_7,hw_⟩:∃ w_,w_5.setRow g2 #[.string F.m,.bool F.b1,.bool F.b2,.bool F.b3,.bool F.b4,.bool F.b5,.bool is,.slice S.A7 F.us.length S.c7,.slice S.A8 F.ms.length S.c8,.bool F.b9,.slice S.A10 F.vs.length S.c10]=w_:=⟨_,rfl⟩
  have hu_:Upd w_5 w_7 (fun k=>k=g2):=by rw [← hw_];exact Upd.setRow (Upd.refl w_5 (fun k=>k=g2)) (.inl rfl) _
  have kf_:w_7.heap[g2]?=some (.cells #[.string F.m,.bool F.b1,.bool F.b2,.bool F.b3,.bool F.b4,.bool F.b5,.bool is,.slice S.A7 F.us.length S.c7,.slice S.A8 F.ms.length S.c8,.bool F.b9,.slice S.A10 F.vs.length S.c10] 25 (0,0)):=by rw [← hw_];exact setRow_heap w_5 g2 _ #[.string F.m,.bool F.b1,.bool F.b2,.bool F.b3,.bool F.b4,.bool F.b5,.bool is,.slice S.A7 F.us.length S.c7,.slice S.A8 F.ms.length S.c8,.bool F.b9,.slice S.A10 F.vs.length S.c10] 25 (0,0) K6_g2.out
  rw [hw_]
  clear hw_
  have K8_g2:=amk (kf_)
  have B8:=amk (B6.out.trans (hu_.toBelow (B:=w.heap.size) (fun k hk=>by rw [hk];exact G_g2.out) (B6.out).size))
  have K8_g1:=amk (hu_.blk K6_g1.out (by have:=E_g1_g2.out;omega))
  clear hu_ B6 K6_g1 K6_g2
  clear kf_
  exact bodyPost_ret (res52 _ w_7 g2 _ _ _ _ _ _ _ _ _ _ _ _ rfl rfl K8_g2.out) rfl ⟨rfl,B8.out⟩
 have R:rxS F cmd on=(F,false):=by unfold rxS;rw [if_neg c0,if_neg c1,if_neg c2,if_neg c3,if_neg c4,if_neg c5]
 rw [R]
 clear R
 have d0:(cmd == 0)=false:=beq_eq_false_iff_ne.2 c0
 have d1:(cmd == 1)=false:=beq_eq_false_iff_ne.2 c1
 have d2:(cmd == 2)=false:=beq_eq_false_iff_ne.2 c2
 have d3:(cmd == 3)=false:=beq_eq_false_iff_ne.2 c3
 have d4:(cmd == 4)=false:=beq_eq_false_iff_ne.2 c4
 have d5:(cmd == 5)=false:=beq_eq_false_iff_ne.2 c5
 clear c0 c1 c2 c3 c4 c5
 have hu25:=Try.underlying25
 go_enter Try.func52,Try.ntmps52
 go_upto_region 4 with (fail)
 obtain ⟨w_1,hw_g1⟩:∃ w_,w.alloc (.cells #[.string F.m,.bool F.b1,.bool F.b2,.bool F.b3,.bool F.b4,.bool F.b5,.bool F.b6,.slice S.A7 F.us.length S.c7,.slice S.A8 F.ms.length S.c8,.bool F.b9,.slice S.A10 F.vs.length S.c10] 25)=w_:=⟨_,rfl⟩
 rw [hw_g1]
 obtain ⟨w_2,hw_g2⟩:∃ w_,w_1.alloc (.cells #[.string ⟨#[]⟩,.bool false,.bool false,.bool false,.bool false,.bool false,.bool false,.slice none 0 0,.slice none 0 0,.bool false,.slice none 0 0] 25)=w_:=⟨_,rfl⟩
 rw [hw_g2]
 have z_g1:w_1.heap.size=w.heap.size+1:=by rw [← hw_g1];simp
 have ha_:Below w.heap.size w w_1:=by rw [← hw_g1];exact bwa (Below.refl _ _) _
 have BX1:Aside0 (w_1.heap[w.heap.size]?=some (.cells #[.string F.m,.bool F.b1,.bool F.b2,.bool F.b3,.bool F.b4,.bool F.b5,.bool F.b6,.slice S.A7 F.us.length S.c7,.slice S.A8 F.ms.length S.c8,.bool F.b9,.slice S.A10 F.vs.length S.c10] 25 (0,0))):=⟨by rw [← hw_g1];exact blk_new w _⟩
 have hgB:w.heap.size≤w.heap.size:=((Below.refl w.heap.size w)).size
 clear hw_g1
 obtain ⟨g1,hg_⟩:∃ g_,w.heap.size=g_:=⟨_,rfl⟩
 have G_g1:Aside0 (w.heap.size≤g1):=⟨Nat.le_trans hgB (Nat.le_of_eq hg_)⟩
 rw [hg_] at BX1 z_g1
 (try rw [hg_])
 clear hgB
 clear hg_
 have B3:=amk (bws (Below.refl w.heap.size w) ha_)
 clear ha_ 
 have z_g2:w_2.heap.size=w_1.heap.size+1:=by rw [← hw_g2];simp
 have ha_:Below w_1.heap.size w_1 w_2:=by rw [← hw_g2];exact bwa (Below.refl _ _) _
 have BX2:Aside0 (w_2.heap[w_1.heap.size]?=some (.cells #[.string ⟨#[]⟩,.bool false,.bool false,.bool false,.bool false,.bool false,.bool false,.slice none 0 0,.slice none 0 0,.bool false,.slice none 0 0] 25 (0,0))):=⟨by rw [← hw_g2];exact blk_new w_1 _⟩
 have hgB:w.heap.size≤w_1.heap.size:=(B3.out).size
 have hl_g1:g1 < w_1.heap.size:=blk_lt BX1.out
 clear hw_g2
 obtain ⟨g2,hg_⟩:∃ g_,w_1.heap.size=g_:=⟨_,rfl⟩
 have G_g2:Aside0 (w.heap.size≤g2):=⟨Nat.le_trans hgB (Nat.le_of_eq hg_)⟩
 rw [hg_] at BX2 z_g2 hl_g1
 have E_g1_g2:=amk hl_g1
 clear hl_g1
 (try rw [hg_])
 clear hgB
 have zz_:g1+1=g2:=by omega
 (try rw [zz_])
 clear zz_
 clear hg_
 have B4:=amk (bws B3.out ha_)
 have K4_g1:=amk (bkb BX1.out ha_)
 clear ha_ B3 BX1
 go_wp2_with (first | (refine wpList_load_row rfl 25 (.tmp 3) rfl g1 rfl 25 #[.string F.m,.bool F.b1,.bool F.b2,.bool F.b3,.bool F.b4,.bool F.b5,.bool F.b6,.slice S.A7 F.us.length S.c7,.slice S.A8 F.ms.length S.c8,.bool F.b9,.slice S.A10 F.vs.length S.c10] (0,0) _ K4_g1.out Try.underlying25 rfl (by kernel_rfl) ?_) | (refine wpList_store_row rfl 25 (.tmp 6) (.tmp 12) rfl g2 #[.string F.m,.bool F.b1,.bool F.b2,.bool F.b3,.bool F.b4,.bool F.b5,.bool F.b6,.slice S.A7 F.us.length S.c7,.slice S.A8 F.ms.length S.c8,.bool F.b9,.slice S.A10 F.vs.length S.c10] rfl rfl 25 #[.string ⟨#[]⟩,.bool false,.bool false,.bool false,.bool false,.bool false,.bool false,.slice none 0 0,.slice none 0 0,.bool false,.slice none 0 0] BX2.out (by kernel_rfl) rfl (by kernel_rfl) ?_))
 obtain ⟨w_5,hw_⟩:∃ w_,w_2.setRow g2 #[.string F.m,.bool F.b1,.bool F.b2,.bool F.b3,.bool F.b4,.bool F.b5,.bool F.b6,.slice S.A7 F.us.length S.c7,.slice S.A8 F.ms.length S.c8,.bool F.b9,.slice S.A10 F.vs.length S.c10]=w_:=⟨_,rfl⟩
 have hu_:Upd w_2 w_5 (fun k=>k=g2):=by rw [← hw_];exact Upd.setRow (Upd.refl w_2 (fun k=>k=g2)) (.inl rfl) _
 have kf_:w_5.heap[g2]?=some (.cells #[.string F.m,.bool F.b1,.bool F.b2,.bool F.b3,.bool F.b4,.bool F.b5,.bool F.b6,.slice S.A7 F.us.length S.c7,.slice S.A8 F.ms.length S.c8,.bool F.b9,.slice S.A10 F.vs.length S.c10] 25 (0,0)):=by rw [← hw_];exact setRow_heap w_2 g2 _ #[.string F.m,.bool F.b1,.bool F.b2,.bool F.b3,.bool F.b4,.bool F.b5,.bool F.b6,.slice S.A7 F.us.length S.c7,.slice S.A8 F.ms.length S.c8,.bool F.b9,.slice S.A10 F.vs.length S.c10] 25 (0,0) BX2.out
 rw [hw_]
 clear hw_
 have K6_g2:=amk (kf_)
 have B6:=amk (B4.out.trans (hu_.toBelow (B:=w.heap.size) (fun k hk=>by rw [hk];exact G_g2.out) (B4.out).size))
 have K6_g1:=amk (hu_.blk K4_g1.out (by have:=E_g1_g2.out;omega))
 clear hu_ B4 K4_g1 BX2
 clear kf_
 exact bodyPost_ret (res52 _ w_5 g2 _ _ _ _ _ _ _ _ _ _ _ _ rfl rfl K6_g2.out) rfl ⟨rfl,B6.out⟩
end Go.Proofs.Ytkgbhlcbjflnlaa.Fl
