/- Commands and settings: contracts by hand, and the laws over them. -/
import Derived.Test.YtkgbhlcbjflnlaaZOwn
import Derived.Test.YtkgbhlcbjflnlaaZFV
namespace Go.Proofs.Ytkgbhlcbjflnlaa.Fl
open Go Go.RowKit Go.Proofs.YtkgbhlcbjflnlaaW.PrintWords Go.Proofs.YtkgbhlcbjflnlaaW.PrintLast Go.Proofs.YtkgbhlcbjflnlaaW.PrintMore Go.Proofs.Ytkgbhlcbjflnlaa.Mth Go.Proofs.Ytkgbhlcbjflnlaa.P Go.Proofs.Ytkgbhlcbjflnlaa.Own Go.Proofs
set_option linter.unusedVariables false
set_option linter.unusedSimpArgs false
def zeroFlt:Flt:=⟨⟨#[]⟩,false,false,false,false,false,false,[],[],false,[]⟩
def nilSl:Sl:=⟨none,0,none,0,none,0⟩
theorem zero_ov (base:Nat) (w:World):OV base w zeroFlt nilSl:=⟨own_nil _ _ _ _,own_nil _ _ _ _,own_nil _ _ _ _⟩
/-- What a command of networks makes of a filter. -/
def netS (F:Flt) (cmd v:Int):Flt × Bool :=
 if cmd=0 then (if argS F.vs v=true then ({ F with vs:=insS v F.vs },true) else (zeroFlt,false)) else
 if cmd=1 then (if argS F.vs v=true then ({ F with vs:=delS v F.vs },true) else (zeroFlt,false)) else (F,false)
theorem res55 (tmps:Array Value) (w:World) (g:Nat) (c0 c1 c2 c3 c4 c5 c6 c7 c8 c9 c10 m7:Value) (hp:tmps.getD 6 undef=.pointer (some ⟨g,0,none⟩)) (h7:tmps.getD 7 undef=m7) (hg:w.heap[g]?=some (.cells #[c0,c1,c2,c3,c4,c5,c6,c7,c8,c9,c10] 25 (0,0))) :
  (results Try.f55 tmps).run Try.prog w=.ok (.tuple #[.agg #[c0,c1,c2,c3,c4,c5,c6,c7,c8,c9,c10],m7]) w:=by
 have q_:tmps[6]?.getD undef=.pointer (some ⟨g,0,none⟩):=by simpa using hp
 have r7:tmps[7]?.getD undef=m7:=by simpa using h7
 have l_:=run_loadVar_row (P:=Try.prog) w g 25 25 _ (0,0) _ hg Try.underlying25 rfl (by kernel_rfl)
 simp [results,Try.results55,q_,r7,asAddr,l_]
set_option maxHeartbeats 16000000 in
set_option maxRecDepth 100000 in
theorem nets_c (F:Flt) (S:Sl) (cmd v:Int) (w:World) (h:FV w F S) (hs:Small F):Calls Try.prog 55 #[.agg (cellsF F S),.int .i64 cmd,.int .i64 v] w fun e w'=>∃ S',e=.returned (.tuple #[.agg (cellsF (netS F cmd v).1 S'),.bool (netS F cmd v).2])∧((S'=S∧(netS F cmd v).1=F)∨OV w.heap.size w' (netS F cmd v).1 S')∧Below w.heap.size w w':=by
 have HV:=amk h
 have HS:=amk hs
 clear h hs
 by_cases c0:cmd=0
 ·cases ha:argS F.vs v
  ·have R:netS F cmd v=(zeroFlt,false):=by unfold netS;rw [if_pos c0,if_neg (by rw [ha];decide)]
   rw [R]
   clear R
   have d0:(cmd == 0)=true:=beq_iff_eq.2 c0
   clear c0
   have HA:=amk ha
   clear ha
   have hu25:=Try.underlying25
   go_enter Try.func55,Try.ntmps55
   go_upto_region 2 with (fail)
   obtain ⟨w_1,hw_g1⟩:∃ w_,w.alloc (.cells #[.string F.m,.bool F.b1,.bool F.b2,.bool F.b3,.bool F.b4,.bool F.b5,.bool F.b6,.slice S.A7 F.us.length S.c7,.slice S.A8 F.ms.length S.c8,.bool F.b9,.slice S.A10 F.vs.length S.c10] 25)=w_:=⟨_,rfl⟩
   rw [hw_g1]
   obtain ⟨w_2,hw_g2⟩:∃ w_,w_1.alloc (.cells #[.string ⟨#[]⟩,.bool false,.bool false,.bool false,.bool false,.bool false,.bool false,.slice none 0 0,.slice none 0 0,.bool false,.slice none 0 0] 25)=w_:=⟨_,rfl⟩
   rw [hw_g2]
   have z_g1:w_1.heap.size=w.heap.size+1:=by rw [← hw_g1];simp
   have ha_:Below w.heap.size w w_1:=by rw [← hw_g1];exact bwa (Below.refl _ _) _
   have BX1:Aside0 (w_1.heap[w.heap.size]?=some (.cells #[.string F.m,.bool F.b1,.bool F.b2,.bool F.b3,.bool F.b4,.bool F.b5,.bool F.b6,.slice S.A7 F.us.length S.c7,.slice S.A8 F.ms.length S.c8,.bool F.b9,.slice S.A10 F.vs.length S.c10] 25 (0,0))):=⟨by rw [← hw_g1];exact blk_new w _⟩
   have hgB:w.heap.size≤w.heap.size:=((Below.refl w.heap.size w)).size
   clear hw_g1
   obtain ⟨g1,hg_⟩:∃ g_,w.heap.size=g_:=⟨_,rfl⟩
   have G_g1:Aside0 (w.heap.size≤g1):=⟨Nat.le_trans hgB (Nat.le_of_eq hg_)⟩
   rw [hg_] at BX1 z_g1
   (try rw [hg_])
   clear hgB
   clear hg_
   have B3:=amk (bws (Below.refl w.heap.size w) ha_)
   clear ha_ 
   have z_g2:w_2.heap.size=w_1.heap.size+1:=by rw [← hw_g2];simp
   have ha_:Below w_1.heap.size w_1 w_2:=by rw [← hw_g2];exact bwa (Below.refl _ _) _
   have BX2:Aside0 (w_2.heap[w_1.heap.size]?=some (.cells #[.string ⟨#[]⟩,.bool false,.bool false,.bool false,.bool false,.bool false,.bool false,.slice none 0 0,.slice none 0 0,.bool false,.slice none 0 0] 25 (0,0))):=⟨by rw [← hw_g2];exact blk_new w_1 _⟩
   have hgB:w.heap.size≤w_1.heap.size:=(B3.out).size
   have hl_g1:g1 < w_1.heap.size:=blk_lt BX1.out
   clear hw_g2
   obtain ⟨g2,hg_⟩:∃ g_,w_1.heap.size=g_:=⟨_,rfl⟩
   have G_g2:Aside0 (w.heap.size≤g2):=⟨Nat.le_trans hgB (Nat.le_of_eq hg_)⟩
   rw [hg_] at BX2 z_g2 hl_g1
   have E_g1_g2:=amk hl_g1
   clear hl_g1
   (try rw [hg_])
   clear hgB
   have zz_:g1+1=g2:=by omega
   (try rw [zz_])
   clear zz_
   clear hg_
   have B4:=amk (bws B3.out ha_)
   have K4_g1:=amk (bkb BX1.out ha_)
   clear ha_ B3 BX1
   go_wp2_with (refine wpList_load_row rfl 25 (.tmp 3) rfl g1 rfl 25 #[.string F.m,.bool F.b1,.bool F.b2,.bool F.b3,.bool F.b4,.bool F.b5,.bool F.b6,.slice S.A7 F.us.length S.c7,.slice S.A8 F.ms.length S.c8,.bool F.b9,.slice S.A10 F.vs.length S.c10] (0,0) _ K4_g1.out Try.underlying25 rfl (by kernel_rfl) ?_)
   refine (add_no F S v w_2 (HV.out.below B4.out) HA.out).mono ?_
   rintro e w_5 ⟨rfl,hb_⟩
   have B6:=amk (bws B4.out hb_)
   have K6_g1:=amk (bkb K4_g1.out hb_)
   have K6_g2:=amk (bkb BX2.out hb_)
   clear hb_ B4 K4_g1 BX2
   go_upto_region 8 with (first | (refine wpList_store_row rfl 25 (.tmp 3) (.tmp 17) rfl g1 #[.string ⟨#[]⟩,.bool false,.bool false,.bool false,.bool false,.bool false,.bool false,.slice none 0 0,.slice none 0 0,.bool false,.slice none 0 0] rfl rfl 25 #[.string F.m,.bool F.b1,.bool F.b2,.bool F.b3,.bool F.b4,.bool F.b5,.bool F.b6,.slice S.A7 F.us.length S.c7,.slice S.A8 F.ms.length S.c8,.bool F.b9,.slice S.A10 F.vs.length S.c10] K6_g1.out (by kernel_rfl) rfl (by kernel_rfl) ?_))
   obtain ⟨w_7,hw_⟩:∃ w_,w_5.setRow g1 #[.string ⟨#[]⟩,.bool false,.bool false,.bool false,.bool false,.bool false,.bool false,.slice none 0 0,.slice none 0 0,.bool false,.slice none 0 0]=w_:=⟨_,rfl⟩
   have hu_:Upd w_5 w_7 (fun k=>k=g1):=by rw [← hw_];exact Upd.setRow (Upd.refl w_5 (fun k=>k=g1)) (.inl rfl) _
   have kf_:w_7.heap[g1]?=some (.cells #[.string ⟨#[]⟩,.bool false,.bool false,.bool false,.bool false,.bool false,.bool false,.slice none 0 0,.slice none 0 0,.bool false,.slice none 0 0] 25 (0,0)):=by rw [← hw_];exact setRow_heap w_5 g1 _ #[.string ⟨#[]⟩,.bool false,.bool false,.bool false,.bool false,.bool false,.bool false,.slice none 0 0,.slice none 0 0,.bool false,.slice none 0 0] 25 (0,0) K6_g1.out
   rw [hw_]
   clear hw_
   have K8_g1:=amk (kf_)
   have B8:=amk (B6.out.trans (hu_.toBelow (B:=w.heap.size) (fun k hk=>by rw [hk];exact G_g1.out) (B6.out).size))
   have K8_g2:=amk (hu_.blk K6_g2.out (by have:=E_g1_g2.out;omega))
   clear hu_ B6 K6_g2 K6_g1
   clear kf_
   go_wp2_with (first | (refine wpList_load_row rfl 25 (.tmp 3) rfl g1 rfl 25 #[.string ⟨#[]⟩,.bool false,.bool false,.bool false,.bool false,.bool false,.bool false,.slice none 0 0,.slice none 0 0,.bool false,.slice none 0 0] (0,0) _ K8_g1.out Try.underlying25 rfl (by kernel_rfl) ?_) | (refine wpList_store_row rfl 25 (.tmp 6) (.tmp 27) rfl g2 #[.string ⟨#[]⟩,.bool false,.bool false,.bool false,.bool false,.bool false,.bool false,.slice none 0 0,.slice none 0 0,.bool false,.slice none 0 0] rfl rfl 25 #[.string ⟨#[]⟩,.bool false,.bool false,.bool false,.bool false,.bool false,.bool false,.slice none 0 0,.slice none 0 0,.bool false,.slice none 0 0] K8_g2.out (by kernel_rfl) rfl (by kernel_rfl) ?_))
   obtain ⟨w_9,hw_⟩:∃ w_,w_7.setRow g2 #[.string ⟨#[]⟩,.bool false,.bool false,.bool false,.bool false,.bool false,.bool false,.slice none 0 0,.slice none 0 0,.bool false,.slice none 0 0]=w_:=⟨_,rfl⟩
   have hu_:Upd w_7 w_9 (fun k=>k=g2):=by rw [← hw_];exact Upd.setRow (Upd.refl w_7 (fun k=>k=g2)) (.inl rfl) _
   have kf_:w_9.heap[g2]?=some (.cells #[.string ⟨#[]⟩,.bool false,.bool false,.bool false,.bool false,.bool false,.bool false,.slice none 0 0,.slice none 0 0,.bool false,.slice none 0 0] 25 (0,0)):=by rw [← hw_];exact setRow_heap w_7 g2 _ #[.string ⟨#[]⟩,.bool false,.bool false,.bool false,.bool false,.bool false,.bool false,.slice none 0 0,.slice none 0 0,.bool false,.slice none 0 0] 25 (0,0) K8_g2.out
   rw [hw_]
   clear hw_
   have K10_g2:=amk (kf_)
   have B10:=amk (B8.out.trans (hu_.toBelow (B:=w.heap.size) (fun k hk=>by rw [hk];exact G_g2.out) (B8.out).size))
   have K10_g1:=amk (hu_.blk K8_g1.out (by have:=E_g1_g2.out;omega))
   clear hu_ B8 K8_g1 K8_g2
   clear kf_
   exact bodyPost_ret (res55 _ w_9 g2 _ _ _ _ _ _ _ _ _ _ _ _ rfl rfl K10_g2.out) rfl ⟨nilSl,rfl,.inr (zero_ov _ _),B10.out⟩
  ·have R:netS F cmd v=({ F with vs:=insS v F.vs },true):=by unfold netS;rw [if_pos c0,if_pos ha]
   rw [R]
   clear R
   have d0:(cmd == 0)=true:=beq_iff_eq.2 c0
   clear c0
   have HA:=amk ha
   clear ha
   obtain ⟨vz,hvz⟩:∃ vz,insS v F.vs=vz:=⟨_,rfl⟩
   rw [hvz]
   have HVZ:=amk hvz
   clear hvz
   have hu25:=Try.underlying25
   go_enter Try.func55,Try.ntmps55
   go_upto_region 2 with (fail)
   obtain ⟨w_1,hw_g1⟩:∃ w_,w.alloc (.cells #[.string F.m,.bool F.b1,.bool F.b2,.bool F.b3,.bool F.b4,.bool F.b5,.bool F.b6,.slice S.A7 F.us.length S.c7,.slice S.A8 F.ms.length S.c8,.bool F.b9,.slice S.A10 F.vs.length S.c10] 25)=w_:=⟨_,rfl⟩
   rw [hw_g1]
   obtain ⟨w_2,hw_g2⟩:∃ w_,w_1.alloc (.cells #[.string ⟨#[]⟩,.bool false,.bool false,.bool false,.bool false,.bool false,.bool false,.slice none 0 0,.slice none 0 0,.bool false,.slice none 0 0] 25)=w_:=⟨_,rfl⟩
   rw [hw_g2]
   have z_g1:w_1.heap.size=w.heap.size+1:=by rw [← hw_g1];simp
   have ha_:Below w.heap.size w w_1:=by rw [← hw_g1];exact bwa (Below.refl _ _) _
   have BX1:Aside0 (w_1.heap[w.heap.size]?=some (.cells #[.string F.m,.bool F.b1,.bool F.b2,.bool F.b3,.bool F.b4,.bool F.b5,.bool F.b6,.slice S.A7 F.us.length S.c7,.slice S.A8 F.ms.length S.c8,.bool F.b9,.slice S.A10 F.vs.length S.c10] 25 (0,0))):=⟨by rw [← hw_g1];exact blk_new w _⟩
   have hgB:w.heap.size≤w.heap.size:=((Below.refl w.heap.size w)).size
   clear hw_g1
   obtain ⟨g1,hg_⟩:∃ g_,w.heap.size=g_:=⟨_,rfl⟩
   have G_g1:Aside0 (w.heap.size≤g1):=⟨Nat.le_trans hgB (Nat.le_of_eq hg_)⟩
   rw [hg_] at BX1 z_g1
   (try rw [hg_])
   clear hgB
   clear hg_
   have B3:=amk (bws (Below.refl w.heap.size w) ha_)
   clear ha_ 
   have z_g2:w_2.heap.size=w_1.heap.size+1:=by rw [← hw_g2];simp
   have ha_:Below w_1.heap.size w_1 w_2:=by rw [← hw_g2];exact bwa (Below.refl _ _) _
   have BX2:Aside0 (w_2.heap[w_1.heap.size]?=some (.cells #[.string ⟨#[]⟩,.bool false,.bool false,.bool false,.bool false,.bool false,.bool false,.slice none 0 0,.slice none 0 0,.bool false,.slice none 0 0] 25 (0,0))):=⟨by rw [← hw_g2];exact blk_new w_1 _⟩
   have hgB:w.heap.size≤w_1.heap.size:=(B3.out).size
   have hl_g1:g1 < w_1.heap.size:=blk_lt BX1.out
   clear hw_g2
   obtain ⟨g2,hg_⟩:∃ g_,w_1.heap.size=g_:=⟨_,rfl⟩
   have G_g2:Aside0 (w.heap.size≤g2):=⟨Nat.le_trans hgB (Nat.le_of_eq hg_)⟩
   rw [hg_] at BX2 z_g2 hl_g1
   have E_g1_g2:=amk hl_g1
   clear hl_g1
   (try rw [hg_])
   clear hgB
   have zz_:g1+1=g2:=by omega
   (try rw [zz_])
   clear zz_
   clear hg_
   have B4:=amk (bws B3.out ha_)
   have K4_g1:=amk (bkb BX1.out ha_)
   clear ha_ B3 BX1
   go_wp2_with (refine wpList_load_row rfl 25 (.tmp 3) rfl g1 rfl 25 #[.string F.m,.bool F.b1,.bool F.b2,.bool F.b3,.bool F.b4,.bool F.b5,.bool F.b6,.slice S.A7 F.us.length S.c7,.slice S.A8 F.ms.length S.c8,.bool F.b9,.slice S.A10 F.vs.length S.c10] (0,0) _ K4_g1.out Try.underlying25 rfl (by kernel_rfl) ?_)
   have q_:=add_f F S v w_2 (HV.out.below B4.out) HS.out HA.out
   rw [HVZ.out] at q_
   refine (q_).mono ?_
   rintro e w_5 ⟨X,rfl,ho_,hb_⟩
   clear q_
   have OW0:=amk (ho_.weaken B4.out.size)
   clear ho_
   have B6:=amk (bws B4.out hb_)
   have K6_g1:=amk (bkb K4_g1.out hb_)
   have K6_g2:=amk (bkb BX2.out hb_)
   clear hb_ B4 K4_g1 BX2
   go_upto_region 8 with (first | (refine wpList_store_row rfl 25 (.tmp 3) (.tmp 17) rfl g1 #[.string F.m,.bool F.b1,.bool F.b2,.bool F.b3,.bool F.b4,.bool F.b5,.bool F.b6,.slice X.A7 F.us.length X.c7,.slice X.A8 F.ms.length X.c8,.bool F.b9,.slice X.A10 vz.length X.c10] rfl rfl 25 #[.string F.m,.bool F.b1,.bool F.b2,.bool F.b3,.bool F.b4,.bool F.b5,.bool F.b6,.slice S.A7 F.us.length S.c7,.slice S.A8 F.ms.length S.c8,.bool F.b9,.slice S.A10 F.vs.length S.c10] K6_g1.out (by kernel_rfl) rfl (by kernel_rfl) ?_))
   obtain ⟨w_7,hw_⟩:∃ w_,w_5.setRow g1 #[.string F.m,.bool F.b1,.bool F.b2,.bool F.b3,.bool F.b4,.bool F.b5,.bool F.b6,.slice X.A7 F.us.length X.c7,.slice X.A8 F.ms.length X.c8,.bool F.b9,.slice X.A10 vz.length X.c10]=w_:=⟨_,rfl⟩
   have hu_:Upd w_5 w_7 (fun k=>k=g1):=by rw [← hw_];exact Upd.setRow (Upd.refl w_5 (fun k=>k=g1)) (.inl rfl) _
   have kf_:w_7.heap[g1]?=some (.cells #[.string F.m,.bool F.b1,.bool F.b2,.bool F.b3,.bool F.b4,.bool F.b5,.bool F.b6,.slice X.A7 F.us.length X.c7,.slice X.A8 F.ms.length X.c8,.bool F.b9,.slice X.A10 vz.length X.c10] 25 (0,0)):=by rw [← hw_];exact setRow_heap w_5 g1 _ #[.string F.m,.bool F.b1,.bool F.b2,.bool F.b3,.bool F.b4,.bool F.b5,.bool F.b6,.slice X.A7 F.us.length X.c7,.slice X.A8 F.ms.length X.c8,.bool F.b9,.slice X.A10 vz.length X.c10] 25 (0,0) K6_g1.out
   rw [hw_]
   clear hw_
   have K8_g1:=amk (kf_)
   have B8:=amk (B6.out.trans (hu_.toBelow (B:=w.heap.size) (fun k hk=>by rw [hk];exact G_g1.out) (B6.out).size))
   have K8_g2:=amk (hu_.blk K6_g2.out (by have:=E_g1_g2.out;omega))
   have O8_o:=amk (OW0.out.boxT K6_g1.out (by decide) (by decide) hu_)
   clear hu_ B6 K6_g2 OW0 K6_g1
   clear kf_
   go_wp2_with (first | (refine wpList_load_row rfl 25 (.tmp 3) rfl g1 rfl 25 #[.string F.m,.bool F.b1,.bool F.b2,.bool F.b3,.bool F.b4,.bool F.b5,.bool F.b6,.slice X.A7 F.us.length X.c7,.slice X.A8 F.ms.length X.c8,.bool F.b9,.slice X.A10 vz.length X.c10] (0,0) _ K8_g1.out Try.underlying25 rfl (by kernel_rfl) ?_) | (refine wpList_store_row rfl 25 (.tmp 6) (.tmp 27) rfl g2 #[.string F.m,.bool F.b1,.bool F.b2,.bool F.b3,.bool F.b4,.bool F.b5,.bool F.b6,.slice X.A7 F.us.length X.c7,.slice X.A8 F.ms.length X.c8,.bool F.b9,.slice X.A10 vz.length X.c10] rfl rfl 25 #[.string ⟨#[]⟩,.bool false,.bool false,.bool false,.bool false,.bool false,.bool false,.slice none 0 0,.slice none 0 0,.bool false,.slice none 0 0] K8_g2.out (by kernel_rfl) rfl (by kernel_rfl) ?_))
   obtain ⟨w_9,hw_⟩:∃ w_,w_7.setRow g2 #[.string F.m,.bool F.b1,.bool F.b2,.bool F.b3,.bool F.b4,.bool F.b5,.bool F.b6,.slice X.A7 F.us.length X.c7,.slice X.A8 F.ms.length X.c8,.bool F.b9,.slice X.A10 vz.length X.c10]=w_:=⟨_,rfl⟩
   have hu_:Upd w_7 w_9 (fun k=>k=g2):=by rw [← hw_];exact Upd.setRow (Upd.refl w_7 (fun k=>k=g2)) (.inl rfl) _
   have kf_:w_9.heap[g2]?=some (.cells #[.string F.m,.bool F.b1,.bool F.b2,.bool F.b3,.bool F.b4,.bool F.b5,.bool F.b6,.slice X.A7 F.us.length X.c7,.slice X.A8 F.ms.length X.c8,.bool F.b9,.slice X.A10 vz.length X.c10] 25 (0,0)):=by rw [← hw_];exact setRow_heap w_7 g2 _ #[.string F.m,.bool F.b1,.bool F.b2,.bool F.b3,.bool F.b4,.bool F.b5,.bool F.b6,.slice X.A7 F.us.length X.c7,.slice X.A8 F.ms.length X.c8,.bool F.b9,.slice X.A10 vz.length X.c10] 25 (0,0) K8_g2.out
   rw [hw_]
   clear hw_
   have K10_g2:=amk (kf_)
   have B10:=amk (B8.out.trans (hu_.toBelow (B:=w.heap.size) (fun k hk=>by rw [hk];exact G_g2.out) (B8.out).size))
   have K10_g1:=amk (hu_.blk K8_g1.out (by have:=E_g1_g2.out;omega))
   have O10_o:=amk (O8_o.out.boxT K8_g2.out (by decide) (by decide) hu_)
   clear hu_ B8 K8_g1 O8_o K8_g2
   clear kf_
   exact bodyPost_ret (res55 _ w_9 g2 _ _ _ _ _ _ _ _ _ _ _ _ rfl rfl K10_g2.out) rfl ⟨X,rfl,.inr O10_o.out,B10.out⟩
 by_cases c1:cmd=1
 ·cases ha:argS F.vs v
  ·have R:netS F cmd v=(zeroFlt,false):=by unfold netS;rw [if_neg c0,if_pos c1,if_neg (by rw [ha];decide)]
   rw [R]
   clear R
   have d0:(cmd == 0)=false:=beq_eq_false_iff_ne.2 c0
   have d1:(cmd == 1)=true:=beq_iff_eq.2 c1
   clear c0 c1
   have HA:=amk ha
   clear ha
   have hu25:=Try.underlying25
   go_enter Try.func55,Try.ntmps55
   go_upto_region 2 with (fail)
   obtain ⟨w_1,hw_g1⟩:∃ w_,w.alloc (.cells #[.string F.m,.bool F.b1,.bool F.b2,.bool F.b3,.bool F.b4,.bool F.b5,.bool F.b6,.slice S.A7 F.us.length S.c7,.slice S.A8 F.ms.length S.c8,.bool F.b9,.slice S.A10 F.vs.length S.c10] 25)=w_:=⟨_,rfl⟩
   rw [hw_g1]
   obtain ⟨w_2,hw_g2⟩:∃ w_,w_1.alloc (.cells #[.string ⟨#[]⟩,.bool false,.bool false,.bool false,.bool false,.bool false,.bool false,.slice none 0 0,.slice none 0 0,.bool false,.slice none 0 0] 25)=w_:=⟨_,rfl⟩
   rw [hw_g2]
   have z_g1:w_1.heap.size=w.heap.size+1:=by rw [← hw_g1];simp
   have ha_:Below w.heap.size w w_1:=by rw [← hw_g1];exact bwa (Below.refl _ _) _
   have BX1:Aside0 (w_1.heap[w.heap.size]?=some (.cells #[.string F.m,.bool F.b1,.bool F.b2,.bool F.b3,.bool F.b4,.bool F.b5,.bool F.b6,.slice S.A7 F.us.length S.c7,.slice S.A8 F.ms.length S.c8,.bool F.b9,.slice S.A10 F.vs.length S.c10] 25 (0,0))):=⟨by rw [← hw_g1];exact blk_new w _⟩
   have hgB:w.heap.size≤w.heap.size:=((Below.refl w.heap.size w)).size
   clear hw_g1
   obtain ⟨g1,hg_⟩:∃ g_,w.heap.size=g_:=⟨_,rfl⟩
   have G_g1:Aside0 (w.heap.size≤g1):=⟨Nat.le_trans hgB (Nat.le_of_eq hg_)⟩
   rw [hg_] at BX1 z_g1
   (try rw [hg_])
   clear hgB
   clear hg_
   have B3:=amk (bws (Below.refl w.heap.size w) ha_)
   clear ha_ 
   have z_g2:w_2.heap.size=w_1.heap.size+1:=by rw [← hw_g2];simp
   have ha_:Below w_1.heap.size w_1 w_2:=by rw [← hw_g2];exact bwa (Below.refl _ _) _
   have BX2:Aside0 (w_2.heap[w_1.heap.size]?=some (.cells #[.string ⟨#[]⟩,.bool false,.bool false,.bool false,.bool false,.bool false,.bool false,.slice none 0 0,.slice none 0 0,.bool false,.slice none 0 0] 25 (0,0))):=⟨by rw [← hw_g2];exact blk_new w_1 _⟩
   have hgB:w.heap.size≤w_1.heap.size:=(B3.out).size
   have hl_g1:g1 < w_1.heap.size:=blk_lt BX1.out
   clear hw_g2
   obtain ⟨g2,hg_⟩:∃ g_,w_1.heap.size=g_:=⟨_,rfl⟩
   have G_g2:Aside0 (w.heap.size≤g2):=⟨Nat.le_trans hgB (Nat.le_of_eq hg_)⟩
   rw [hg_] at BX2 z_g2 hl_g1
   have E_g1_g2:=amk hl_g1
   clear hl_g1
   (try rw [hg_])
   clear hgB
   have zz_:g1+1=g2:=by omega
   (try rw [zz_])
   clear zz_
   clear hg_
   have B4:=amk (bws B3.out ha_)
   have K4_g1:=amk (bkb BX1.out ha_)
   clear ha_ B3 BX1
   go_wp2_with (refine wpList_load_row rfl 25 (.tmp 3) rfl g1 rfl 25 #[.string F.m,.bool F.b1,.bool F.b2,.bool F.b3,.bool F.b4,.bool F.b5,.bool F.b6,.slice S.A7 F.us.length S.c7,.slice S.A8 F.ms.length S.c8,.bool F.b9,.slice S.A10 F.vs.length S.c10] (0,0) _ K4_g1.out Try.underlying25 rfl (by kernel_rfl) ?_)
   refine (del_no F S v w_2 (HV.out.below B4.out) HA.out).mono ?_
   rintro e w_5 ⟨rfl,hb_⟩
   have B6:=amk (bws B4.out hb_)
   have K6_g1:=amk (bkb K4_g1.out hb_)
   have K6_g2:=amk (bkb BX2.out hb_)
   clear hb_ B4 K4_g1 BX2
   go_upto_region 8 with (first | (refine wpList_store_row rfl 25 (.tmp 3) (.tmp 25) rfl g1 #[.string ⟨#[]⟩,.bool false,.bool false,.bool false,.bool false,.bool false,.bool false,.slice none 0 0,.slice none 0 0,.bool false,.slice none 0 0] rfl rfl 25 #[.string F.m,.bool F.b1,.bool F.b2,.bool F.b3,.bool F.b4,.bool F.b5,.bool F.b6,.slice S.A7 F.us.length S.c7,.slice S.A8 F.ms.length S.c8,.bool F.b9,.slice S.A10 F.vs.length S.c10] K6_g1.out (by kernel_rfl) rfl (by kernel_rfl) ?_))
   obtain ⟨w_7,hw_⟩:∃ w_,w_5.setRow g1 #[.string ⟨#[]⟩,.bool false,.bool false,.bool false,.bool false,.bool false,.bool false,.slice none 0 0,.slice none 0 0,.bool false,.slice none 0 0]=w_:=⟨_,rfl⟩
   have hu_:Upd w_5 w_7 (fun k=>k=g1):=by rw [← hw_];exact Upd.setRow (Upd.refl w_5 (fun k=>k=g1)) (.inl rfl) _
   have kf_:w_7.heap[g1]?=some (.cells #[.string ⟨#[]⟩,.bool false,.bool false,.bool false,.bool false,.bool false,.bool false,.slice none 0 0,.slice none 0 0,.bool false,.slice none 0 0] 25 (0,0)):=by rw [← hw_];exact setRow_heap w_5 g1 _ #[.string ⟨#[]⟩,.bool false,.bool false,.bool false,.bool false,.bool false,.bool false,.slice none 0 0,.slice none 0 0,.bool false,.slice none 0 0] 25 (0,0) K6_g1.out
   rw [hw_]
   clear hw_
   have K8_g1:=amk (kf_)
   have B8:=amk (B6.out.trans (hu_.toBelow (B:=w.heap.size) (fun k hk=>by rw [hk];exact G_g1.out) (B6.out).size))
   have K8_g2:=amk (hu_.blk K6_g2.out (by have:=E_g1_g2.out;omega))
   clear hu_ B6 K6_g2 K6_g1
   clear kf_
   go_wp2_with (first | (refine wpList_load_row rfl 25 (.tmp 3) rfl g1 rfl 25 #[.string ⟨#[]⟩,.bool false,.bool false,.bool false,.bool false,.bool false,.bool false,.slice none 0 0,.slice none 0 0,.bool false,.slice none 0 0] (0,0) _ K8_g1.out Try.underlying25 rfl (by kernel_rfl) ?_) | (refine wpList_store_row rfl 25 (.tmp 6) (.tmp 27) rfl g2 #[.string ⟨#[]⟩,.bool false,.bool false,.bool false,.bool false,.bool false,.bool false,.slice none 0 0,.slice none 0 0,.bool false,.slice none 0 0] rfl rfl 25 #[.string ⟨#[]⟩,.bool false,.bool false,.bool false,.bool false,.bool false,.bool false,.slice none 0 0,.slice none 0 0,.bool false,.slice none 0 0] K8_g2.out (by kernel_rfl) rfl (by kernel_rfl) ?_))
   obtain ⟨w_9,hw_⟩:∃ w_,w_7.setRow g2 #[.string ⟨#[]⟩,.bool false,.bool false,.bool false,.bool false,.bool false,.bool false,.slice none 0 0,.slice none 0 0,.bool false,.slice none 0 0]=w_:=⟨_,rfl⟩
   have hu_:Upd w_7 w_9 (fun k=>k=g2):=by rw [← hw_];exact Upd.setRow (Upd.refl w_7 (fun k=>k=g2)) (.inl rfl) _
   have kf_:w_9.heap[g2]?=some (.cells #[.string ⟨#[]⟩,.bool false,.bool false,.bool false,.bool false,.bool false,.bool false,.slice none 0 0,.slice none 0 0,.bool false,.slice none 0 0] 25 (0,0)):=by rw [← hw_];exact setRow_heap w_7 g2 _ #[.string ⟨#[]⟩,.bool false,.bool false,.bool false,.bool false,.bool false,.bool false,.slice none 0 0,.slice none 0 0,.bool false,.slice none 0 0] 25 (0,0) K8_g2.out
   rw [hw_]
   clear hw_
   have K10_g2:=amk (kf_)
   have B10:=amk (B8.out.trans (hu_.toBelow (B:=w.heap.size) (fun k hk=>by rw [hk];exact G_g2.out) (B8.out).size))
   have K10_g1:=amk (hu_.blk K8_g1.out (by have:=E_g1_g2.out;omega))
   clear hu_ B8 K8_g1 K8_g2
   clear kf_
   exact bodyPost_ret (res55 _ w_9 g2 _ _ _ _ _ _ _ _ _ _ _ _ rfl rfl K10_g2.out) rfl ⟨nilSl,rfl,.inr (zero_ov _ _),B10.out⟩
  ·have R:netS F cmd v=({ F with vs:=delS v F.vs },true):=by unfold netS;rw [if_neg c0,if_pos c1,if_pos ha]
   rw [R]
   clear R
   have d0:(cmd == 0)=false:=beq_eq_false_iff_ne.2 c0
   have d1:(cmd == 1)=true:=beq_iff_eq.2 c1
   clear c0 c1
   have HA:=amk ha
   clear ha
   obtain ⟨vz,hvz⟩:∃ vz,delS v F.vs=vz:=⟨_,rfl⟩
   rw [hvz]
   have HVZ:=amk hvz
   clear hvz
   have hu25:=Try.underlying25
   go_enter Try.func55,Try.ntmps55
   go_upto_region 2 with (fail)
   obtain ⟨w_1,hw_g1⟩:∃ w_,w.alloc (.cells #[.string F.m,.bool F.b1,.bool F.b2,.bool F.b3,.bool F.b4,.bool F.b5,.bool F.b6,.slice S.A7 F.us.length S.c7,.slice S.A8 F.ms.length S.c8,.bool F.b9,.slice S.A10 F.vs.length S.c10] 25)=w_:=⟨_,rfl⟩
   rw [hw_g1]
   obtain ⟨w_2,hw_g2⟩:∃ w_,w_1.alloc (.cells #[.string ⟨#[]⟩,.bool false,.bool false,.bool false,.bool false,.bool false,.bool false,.slice none 0 0,.slice none 0 0,.bool false,.slice none 0 0] 25)=w_:=⟨_,rfl⟩
   rw [hw_g2]
   have z_g1:w_1.heap.size=w.heap.size+1:=by rw [← hw_g1];simp
   have ha_:Below w.heap.size w w_1:=by rw [← hw_g1];exact bwa (Below.refl _ _) _
   have BX1:Aside0 (w_1.heap[w.heap.size]?=some (.cells #[.string F.m,.bool F.b1,.bool F.b2,.bool F.b3,.bool F.b4,.bool F.b5,.bool F.b6,.slice S.A7 F.us.length S.c7,.slice S.A8 F.ms.length S.c8,.bool F.b9,.slice S.A10 F.vs.length S.c10] 25 (0,0))):=⟨by rw [← hw_g1];exact blk_new w _⟩
   have hgB:w.heap.size≤w.heap.size:=((Below.refl w.heap.size w)).size
   clear hw_g1
   obtain ⟨g1,hg_⟩:∃ g_,w.heap.size=g_:=⟨_,rfl⟩
   have G_g1:Aside0 (w.heap.size≤g1):=⟨Nat.le_trans hgB (Nat.le_of_eq hg_)⟩
   rw [hg_] at BX1 z_g1
   (try rw [hg_])
   clear hgB
   clear hg_
   have B3:=amk (bws (Below.refl w.heap.size w) ha_)
   clear ha_ 
   have z_g2:w_2.heap.size=w_1.heap.size+1:=by rw [← hw_g2];simp
   have ha_:Below w_1.heap.size w_1 w_2:=by rw [← hw_g2];exact bwa (Below.refl _ _) _
   have BX2:Aside0 (w_2.heap[w_1.heap.size]?=some (.cells #[.string ⟨#[]⟩,.bool false,.bool false,.bool false,.bool false,.bool false,.bool false,.slice none 0 0,.slice none 0 0,.bool false,.slice none 0 0] 25 (0,0))):=⟨by rw [← hw_g2];exact blk_new w_1 _⟩
   have hgB:w.heap.size≤w_1.heap.size:=(B3.out).size
   have hl_g1:g1 < w_1.heap.size:=blk_lt BX1.out
   clear hw_g2
   obtain ⟨g2,hg_⟩:∃ g_,w_1.heap.size=g_:=⟨_,rfl⟩
   have G_g2:Aside0 (w.heap.size≤g2):=⟨Nat.le_trans hgB (Nat.le_of_eq hg_)⟩
   rw [hg_] at BX2 z_g2 hl_g1
   have E_g1_g2:=amk hl_g1
   clear hl_g1
   (try rw [hg_])
   clear hgB
   have zz_:g1+1=g2:=by omega
   (try rw [zz_])
   clear zz_
   clear hg_
   have B4:=amk (bws B3.out ha_)
   have K4_g1:=amk (bkb BX1.out ha_)
   clear ha_ B3 BX1
   go_wp2_with (refine wpList_load_row rfl 25 (.tmp 3) rfl g1 rfl 25 #[.string F.m,.bool F.b1,.bool F.b2,.bool F.b3,.bool F.b4,.bool F.b5,.bool F.b6,.slice S.A7 F.us.length S.c7,.slice S.A8 F.ms.length S.c8,.bool F.b9,.slice S.A10 F.vs.length S.c10] (0,0) _ K4_g1.out Try.underlying25 rfl (by kernel_rfl) ?_)
   have q_:=del_f F S v w_2 (HV.out.below B4.out) HS.out HA.out
   rw [HVZ.out] at q_
   refine (q_).mono ?_
   rintro e w_5 ⟨X,rfl,ho_,hb_⟩
   clear q_
   have OW0:=amk (ho_.weaken B4.out.size)
   clear ho_
   have B6:=amk (bws B4.out hb_)
   have K6_g1:=amk (bkb K4_g1.out hb_)
   have K6_g2:=amk (bkb BX2.out hb_)
   clear hb_ B4 K4_g1 BX2
   go_upto_region 8 with (first | (refine wpList_store_row rfl 25 (.tmp 3) (.tmp 25) rfl g1 #[.string F.m,.bool F.b1,.bool F.b2,.bool F.b3,.bool F.b4,.bool F.b5,.bool F.b6,.slice X.A7 F.us.length X.c7,.slice X.A8 F.ms.length X.c8,.bool F.b9,.slice X.A10 vz.length X.c10] rfl rfl 25 #[.string F.m,.bool F.b1,.bool F.b2,.bool F.b3,.bool F.b4,.bool F.b5,.bool F.b6,.slice S.A7 F.us.length S.c7,.slice S.A8 F.ms.length S.c8,.bool F.b9,.slice S.A10 F.vs.length S.c10] K6_g1.out (by kernel_rfl) rfl (by kernel_rfl) ?_))
   obtain ⟨w_7,hw_⟩:∃ w_,w_5.setRow g1 #[.string F.m,.bool F.b1,.bool F.b2,.bool F.b3,.bool F.b4,.bool F.b5,.bool F.b6,.slice X.A7 F.us.length X.c7,.slice X.A8 F.ms.length X.c8,.bool F.b9,.slice X.A10 vz.length X.c10]=w_:=⟨_,rfl⟩
   have hu_:Upd w_5 w_7 (fun k=>k=g1):=by rw [← hw_];exact Upd.setRow (Upd.refl w_5 (fun k=>k=g1)) (.inl rfl) _
   have kf_:w_7.heap[g1]?=some (.cells #[.string F.m,.bool F.b1,.bool F.b2,.bool F.b3,.bool F.b4,.bool F.b5,.bool F.b6,.slice X.A7 F.us.length X.c7,.slice X.A8 F.ms.length X.c8,.bool F.b9,.slice X.A10 vz.length X.c10] 25 (0,0)):=by rw [← hw_];exact setRow_heap w_5 g1 _ #[.string F.m,.bool F.b1,.bool F.b2,.bool F.b3,.bool F.b4,.bool F.b5,.bool F.b6,.slice X.A7 F.us.length X.c7,.slice X.A8 F.ms.length X.c8,.bool F.b9,.slice X.A10 vz.length X.c10] 25 (0,0) K6_g1.out
   rw [hw_]
   clear hw_
   have K8_g1:=amk (kf_)
   have B8:=amk (B6.out.trans (hu_.toBelow (B:=w.heap.size) (fun k hk=>by rw [hk];exact G_g1.out) (B6.out).size))
   have K8_g2:=amk (hu_.blk K6_g2.out (by have:=E_g1_g2.out;omega))
   have O8_o:=amk (OW0.out.boxT K6_g1.out (by decide) (by decide) hu_)
   clear hu_ B6 K6_g2 OW0 K6_g1
   clear kf_
   go_wp2_with (first | (refine wpList_load_row rfl 25 (.tmp 3) rfl g1 rfl 25 #[.string F.m,.bool F.b1,.bool F.b2,.bool F.b3,.bool F.b4,.bool F.b5,.bool F.b6,.slice X.A7 F.us.length X.c7,.slice X.A8 F.ms.length X.c8,.bool F.b9,.slice X.A10 vz.length X.c10] (0,0) _ K8_g1.out Try.underlying25 rfl (by kernel_rfl) ?_) | (refine wpList_store_row rfl 25 (.tmp 6) (.tmp 27) rfl g2 #[.string F.m,.bool F.b1,.bool F.b2,.bool F.b3,.bool F.b4,.bool F.b5,.bool F.b6,.slice X.A7 F.us.length X.c7,.slice X.A8 F.ms.length X.c8,.bool F.b9,.slice X.A10 vz.length X.c10] rfl rfl 25 #[.string ⟨#[]⟩,.bool false,.bool false,.bool false,.bool false,.bool false,.bool false,.slice none 0 0,.slice none 0 0,.bool false,.slice none 0 0] K8_g2.out (by kernel_rfl) rfl (by kernel_rfl) ?_))
   obtain ⟨w_9,hw_⟩:∃ w_,w_7.setRow g2 #[.string F.m,.bool F.b1,.bool F.b2,.bool F.b3,.bool F.b4,.bool F.b5,.bool F.b6,.slice X.A7 F.us.length X.c7,.slice X.A8 F.ms.length X.c8,.bool F.b9,.slice X.A10 vz.length X.c10]=w_:=⟨_,rfl⟩
   have hu_:Upd w_7 w_9 (fun k=>k=g2):=by rw [← hw_];exact Upd.setRow (Upd.refl w_7 (fun k=>k=g2)) (.inl rfl) _
   have kf_:w_9.heap[g2]?=some (.cells #[.string F.m,.bool F.b1,.bool F.b2,.bool F.b3,.bool F.b4,.bool F.b5,.bool F.b6,.slice X.A7 F.us.length X.c7,.slice X.A8 F.ms.length X.c8,.bool F.b9,.slice X.A10 vz.length X.c10] 25 (0,0)):=by rw [← hw_];exact setRow_heap w_7 g2 _ #[.string F.m,.bool F.b1,.bool F.b2,.bool F.b3,.bool F.b4,.bool F.b5,.bool F.b6,.slice X.A7 F.us.length X.c7,.slice X.A8 F.ms.length X.c8,.bool F.b9,.slice X.A10 vz.length X.c10] 25 (0,0) K8_g2.out
   rw [hw_]
   clear hw_
   have K10_g2:=amk (kf_)
   have B10:=amk (B8.out.trans (hu_.toBelow (B:=w.heap.size) (fun k hk=>by rw [hk];exact G_g2.out) (B8.out).size))
   have K10_g1:=amk (hu_.blk K8_g1.out (by have:=E_g1_g2.out;omega))
   have O10_o:=amk (O8_o.out.boxT K8_g2.out (by decide) (by decide) hu_)
   clear hu_ B8 K8_g1 O8_o K8_g2
   clear kf_
   exact bodyPost_ret (res55 _ w_9 g2 _ _ _ _ _ _ _ _ _ _ _ _ rfl rfl K10_g2.out) rfl ⟨X,rfl,.inr O10_o.out,B10.out⟩
 have R:netS F cmd v=(F,false):=by unfold netS;rw [if_neg c0,if_neg c1]
 rw [R]
 clear R
 have d0:(cmd == 0)=false:=beq_eq_false_iff_ne.2 c0
 have d1:(cmd == 1)=false:=beq_eq_false_iff_ne.2 c1
 clear c0 c1
 have hu25:=Try.underlying25
 go_enter Try.func55,Try.ntmps55
 go_upto_region 2 with (fail)
 obtain ⟨w_1,hw_g1⟩:∃ w_,w.alloc (.cells #[.string F.m,.bool F.b1,.bool F.b2,.bool F.b3,.bool F.b4,.bool F.b5,.bool F.b6,.slice S.A7 F.us.length S.c7,.slice S.A8 F.ms.length S.c8,.bool F.b9,.slice S.A10 F.vs.length S.c10] 25)=w_:=⟨_,rfl⟩
 rw [hw_g1]
 obtain ⟨w_2,hw_g2⟩:∃ w_,w_1.alloc (.cells #[.string ⟨#[]⟩,.bool false,.bool false,.bool false,.bool false,.bool false,.bool false,.slice none 0 0,.slice none 0 0,.bool false,.slice none 0 0] 25)=w_:=⟨_,rfl⟩
 rw [hw_g2]
 have z_g1:w_1.heap.size=w.heap.size+1:=by rw [← hw_g1];simp
 have ha_:Below w.heap.size w w_1:=by rw [← hw_g1];exact bwa (Below.refl _ _) _
 have BX1:Aside0 (w_1.heap[w.heap.size]?=some (.cells #[.string F.m,.bool F.b1,.bool F.b2,.bool F.b3,.bool F.b4,.bool F.b5,.bool F.b6,.slice S.A7 F.us.length S.c7,.slice S.A8 F.ms.length S.c8,.bool F.b9,.slice S.A10 F.vs.length S.c10] 25 (0,0))):=⟨by rw [← hw_g1];exact blk_new w _⟩
 have hgB:w.heap.size≤w.heap.size:=((Below.refl w.heap.size w)).size
 clear hw_g1
 obtain ⟨g1,hg_⟩:∃ g_,w.heap.size=g_:=⟨_,rfl⟩
 have G_g1:Aside0 (w.heap.size≤g1):=⟨Nat.le_trans hgB (Nat.le_of_eq hg_)⟩
 rw [hg_] at BX1 z_g1
 (try rw [hg_])
 clear hgB
 clear hg_
 have B3:=amk (bws (Below.refl w.heap.size w) ha_)
 clear ha_ 
 have z_g2:w_2.heap.size=w_1.heap.size+1:=by rw [← hw_g2];simp
 have ha_:Below w_1.heap.size w_1 w_2:=by rw [← hw_g2];exact bwa (Below.refl _ _) _
 have BX2:Aside0 (w_2.heap[w_1.heap.size]?=some (.cells #[.string ⟨#[]⟩,.bool false,.bool false,.bool false,.bool false,.bool false,.bool false,.slice none 0 0,.slice none 0 0,.bool false,.slice none 0 0] 25 (0,0))):=⟨by rw [← hw_g2];exact blk_new w_1 _⟩
 have hgB:w.heap.size≤w_1.heap.size:=(B3.out).size
 have hl_g1:g1 < w_1.heap.size:=blk_lt BX1.out
 clear hw_g2
 obtain ⟨g2,hg_⟩:∃ g_,w_1.heap.size=g_:=⟨_,rfl⟩
 have G_g2:Aside0 (w.heap.size≤g2):=⟨Nat.le_trans hgB (Nat.le_of_eq hg_)⟩
 rw [hg_] at BX2 z_g2 hl_g1
 have E_g1_g2:=amk hl_g1
 clear hl_g1
 (try rw [hg_])
 clear hgB
 have zz_:g1+1=g2:=by omega
 (try rw [zz_])
 clear zz_
 clear hg_
 have B4:=amk (bws B3.out ha_)
 have K4_g1:=amk (bkb BX1.out ha_)
 clear ha_ B3 BX1
 go_wp2_with (first | (refine wpList_load_row rfl 25 (.tmp 3) rfl g1 rfl 25 #[.string F.m,.bool F.b1,.bool F.b2,.bool F.b3,.bool F.b4,.bool F.b5,.bool F.b6,.slice S.A7 F.us.length S.c7,.slice S.A8 F.ms.length S.c8,.bool F.b9,.slice S.A10 F.vs.length S.c10] (0,0) _ K4_g1.out Try.underlying25 rfl (by kernel_rfl) ?_) | (refine wpList_store_row rfl 25 (.tmp 6) (.tmp 10) rfl g2 #[.string F.m,.bool F.b1,.bool F.b2,.bool F.b3,.bool F.b4,.bool F.b5,.bool F.b6,.slice S.A7 F.us.length S.c7,.slice S.A8 F.ms.length S.c8,.bool F.b9,.slice S.A10 F.vs.length S.c10] rfl rfl 25 #[.string ⟨#[]⟩,.bool false,.bool false,.bool false,.bool false,.bool false,.bool false,.slice none 0 0,.slice none 0 0,.bool false,.slice none 0 0] BX2.out (by kernel_rfl) rfl (by kernel_rfl) ?_))
 obtain ⟨w_5,hw_⟩:∃ w_,w_2.setRow g2 #[.string F.m,.bool F.b1,.bool F.b2,.bool F.b3,.bool F.b4,.bool F.b5,.bool F.b6,.slice S.A7 F.us.length S.c7,.slice S.A8 F.ms.length S.c8,.bool F.b9,.slice S.A10 F.vs.length S.c10]=w_:=⟨_,rfl⟩
 have hu_:Upd w_2 w_5 (fun k=>k=g2):=by rw [← hw_];exact Upd.setRow (Upd.refl w_2 (fun k=>k=g2)) (.inl rfl) _
 have kf_:w_5.heap[g2]?=some (.cells #[.string F.m,.bool F.b1,.bool F.b2,.bool F.b3,.bool F.b4,.bool F.b5,.bool F.b6,.slice S.A7 F.us.length S.c7,.slice S.A8 F.ms.length S.c8,.bool F.b9,.slice S.A10 F.vs.length S.c10] 25 (0,0)):=by rw [← hw_];exact setRow_heap w_2 g2 _ #[.string F.m,.bool F.b1,.bool F.b2,.bool F.b3,.bool F.b4,.bool F.b5,.bool F.b6,.slice S.A7 F.us.length S.c7,.slice S.A8 F.ms.length S.c8,.bool F.b9,.slice S.A10 F.vs.length S.c10] 25 (0,0) BX2.out
 rw [hw_]
 clear hw_
 have K6_g2:=amk (kf_)
 have B6:=amk (B4.out.trans (hu_.toBelow (B:=w.heap.size) (fun k hk=>by rw [hk];exact G_g2.out) (B4.out).size))
 have K6_g1:=amk (hu_.blk K4_g1.out (by have:=E_g1_g2.out;omega))
 clear hu_ B4 K4_g1 BX2
 clear kf_
 exact bodyPost_ret (res55 _ w_5 g2 _ _ _ _ _ _ _ _ _ _ _ _ rfl rfl K6_g2.out) rfl ⟨S,rfl,.inl ⟨rfl,by first | rfl | trivial⟩,B6.out⟩
end Go.Proofs.Ytkgbhlcbjflnlaa.Fl
