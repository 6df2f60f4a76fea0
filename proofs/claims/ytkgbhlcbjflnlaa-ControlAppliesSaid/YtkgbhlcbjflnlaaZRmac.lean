/- Commands and settings: contracts by hand, and the laws over them. -/
import Derived.Test.YtkgbhlcbjflnlaaZG1
import Derived.Test.YtkgbhlcbjflnlaaZApp
import Derived.Test.YtkgbhlcbjflnlaaZRmacs
import Derived.Test.YtkgbhlcbjflnlaaZFx
namespace Go.Proofs.Ytkgbhlcbjflnlaa.Fl
open Go Go.RowKit Go.Proofs.YtkgbhlcbjflnlaaW.PrintWords Go.Proofs.YtkgbhlcbjflnlaaW.PrintLast Go.Proofs.YtkgbhlcbjflnlaaW.PrintMore Go.Proofs.Ytkgbhlcbjflnlaa.Mth Go.Proofs.Ytkgbhlcbjflnlaa.P Go.Proofs.Ytkgbhlcbjflnlaa.Own Go.Proofs
set_option linter.unusedVariables false
set_option linter.unusedSimpArgs false
def rmacS (F:Flt) (cmd:Int) (s:ByteArray):Flt × Bool :=
 if cmd=1 then ({ F with m:=s },decide (s.size=6)) else
 ({ F with us:=(rmacsS s).1,ms:=(rmacsS (rmacsS s).2.1).1 },(cmd == 0) && (rmacsS s).2.2 && (rmacsS (rmacsS s).2.1).2.2 && (rmacsS (rmacsS s).2.1).2.1.toList.isEmpty)
theorem rmacs2_c (s:ByteArray) (l:List ByteArray) (r:ByteArray) (ok:Bool) (h:rmacsS s=(l,r,ok)) (w:World) (hb:s.size≤1099511627776) :
  Calls Try.prog 46 #[.string s] w fun e w'=>∃ A c,e=.returned (.tuple #[.slice A l.length c,.string r,.bool ok])∧w'.ownsRow w.heap.size 9 1 (.slice A l.length c) l.length (encs Value.string l)∧Below w.heap.size w w':=by
 have q:=rmacs_c s w hb
 rw [h] at q
 exact q
theorem rmacs_rest (s:ByteArray):(rmacsS s).2.1.size≤s.size:=by
 unfold rmacsS
 split
 ·exact Nat.zero_le _
 ·simp
  omega
theorem res30 (tmps:Array Value) (w:World) (g:Nat) (c0 c1 c2 c3 c4 c5 c6 c7 c8 c9 c10 m7:Value) (hp:tmps.getD 6 undef=.pointer (some ⟨g,0,none⟩)) (h7:tmps.getD 7 undef=m7) (hg:w.heap[g]?=some (.cells #[c0,c1,c2,c3,c4,c5,c6,c7,c8,c9,c10] 25 (0,0))) :
  (results Try.f30 tmps).run Try.prog w=.ok (.tuple #[.agg #[c0,c1,c2,c3,c4,c5,c6,c7,c8,c9,c10],m7]) w:=by
 have q_:tmps[6]?.getD undef=.pointer (some ⟨g,0,none⟩):=by simpa using hp
 have r7:tmps[7]?.getD undef=m7:=by simpa using h7
 have l_:=run_loadVar_row (P:=Try.prog) w g 25 25 _ (0,0) _ hg Try.underlying25 rfl (by kernel_rfl)
 simp [results,Try.results30,q_,r7,asAddr,l_]
set_option maxHeartbeats 16000000 in
set_option maxRecDepth 100000 in
theorem rmac_c (F:Flt) (S:Sl) (cmd:Int) (s:ByteArray) (w:World) (h:FV w F S) (hsz:s.size≤1099511627776):Calls Try.prog 30 #[.agg (cellsF F S),.int .i64 cmd,.string s] w fun e w'=>∃ S',e=.returned (.tuple #[.agg (cellsF (rmacS F cmd s).1 S'),.bool (rmacS F cmd s).2])∧FX w.heap.size F S w' (rmacS F cmd s).1 S'∧Below w.heap.size w w':=by
 obtain ⟨R,hR⟩:∃ R,rmacS F cmd s=R:=⟨_,rfl⟩
 rw [hR]
 have HR:=amk hR
 have HV:=amk h
 have HZ:=amk hsz
 clear hR h hsz
 have hu25:=Try.underlying25
 go_enter Try.func30,Try.ntmps30
 go_upto_region 1 with (fail)
 obtain ⟨w_1,hw_g1⟩:∃ w_,w.alloc (.cells #[.string F.m,.bool F.b1,.bool F.b2,.bool F.b3,.bool F.b4,.bool F.b5,.bool F.b6,.slice S.A7 F.us.length S.c7,.slice S.A8 F.ms.length S.c8,.bool F.b9,.slice S.A10 F.vs.length S.c10] 25)=w_:=⟨_,rfl⟩
 rw [hw_g1]
 obtain ⟨w_2,hw_g2⟩:∃ w_,w_1.alloc (.cells #[.string ⟨#[]⟩,.bool false,.bool false,.bool false,.bool false,.bool false,.bool false,.slice none 0 0,.slice none 0 0,.bool false,.slice none 0 0] 25)=w_:=⟨_,rfl⟩
 rw [hw_g2]
 have z_g1:w_1.heap.size=w.heap.size+1:=by rw [← hw_g1];simp
 have ha_:Below w.heap.size w w_1:=by rw [← hw_g1];exact bwa (Below.refl _ _) _
 have BX1:Aside0 (w_1.heap[w.heap.size]?=some (.cells #[.string F.m,.bool F.b1,.bool F.b2,.bool F.b3,.bool F.b4,.bool F.b5,.bool F.b6,.slice S.A7 F.us.length S.c7,.slice S.A8 F.ms.length S.c8,.bool F.b9,.slice S.A10 F.vs.length S.c10] 25 (0,0))):=⟨by rw [← hw_g1];exact blk_new w _⟩
 have hgB:w.heap.size≤w.heap.size:=((Below.refl w.heap.size w)).size
 clear hw_g1
 obtain ⟨g1,hg_⟩:∃ g_,w.heap.size=g_:=⟨_,rfl⟩
 have G_g1:Aside0 (w.heap.size≤g1):=⟨Nat.le_trans hgB (Nat.le_of_eq hg_)⟩
 rw [hg_] at BX1 z_g1
 (try rw [hg_])
 clear hgB
 clear hg_
 have B3:=amk (bws (Below.refl w.heap.size w) ha_)
 clear ha_ 
 have z_g2:w_2.heap.size=w_1.heap.size+1:=by rw [← hw_g2];simp
 have ha_:Below w_1.heap.size w_1 w_2:=by rw [← hw_g2];exact bwa (Below.refl _ _) _
 have BX2:Aside0 (w_2.heap[w_1.heap.size]?=some (.cells #[.string ⟨#[]⟩,.bool false,.bool false,.bool false,.bool false,.bool false,.bool false,.slice none 0 0,.slice none 0 0,.bool false,.slice none 0 0] 25 (0,0))):=⟨by rw [← hw_g2];exact blk_new w_1 _⟩
 have hgB:w.heap.size≤w_1.heap.size:=(B3.out).size
 have hl_g1:g1 < w_1.heap.size:=blk_lt BX1.out
 clear hw_g2
 obtain ⟨g2,hg_⟩:∃ g_,w_1.heap.size=g_:=⟨_,rfl⟩
 have G_g2:Aside0 (w.heap.size≤g2):=⟨Nat.le_trans hgB (Nat.le_of_eq hg_)⟩
 rw [hg_] at BX2 z_g2 hl_g1
 have E_g1_g2:=amk hl_g1
 clear hl_g1
 (try rw [hg_])
 clear hgB
 have zz_:g1+1=g2:=by omega
 (try rw [zz_])
 clear zz_
 clear hg_
 have B4:=amk (bws B3.out ha_)
 have K4_g1:=amk (bkb BX1.out ha_)
 clear ha_ B3 BX1
 clear z_g1 z_g2
 by_cases c1:cmd=1
 ·obtain ⟨z6,hz6⟩:∃ z:Bool,decide (s.size=6)=z:=⟨_,rfl⟩
  have er:R=({ F with m:=s },z6):=by rw [← HR.out,← hz6];unfold rmacS;rw [if_pos c1]
  subst er
  clear HR
  have d1:(cmd == 1)=true:=beq_iff_eq.2 c1
  have hz7:(((s.size:Nat):Int) == 6)=z6:=by rw [← hz6];by_cases q:s.size=6 <;> simp [q] <;> omega
  clear hz6 c1
  have pc0:w_2.cell? ⟨g1,0,none⟩=some (.string F.m):=(bkc K4_g1.out 0).trans rfl
  have pf0:=bkf K4_g1.out 0
  go_upto_region 3 with (fail)
  clear pc0 pf0
  obtain ⟨w_5,hw_⟩:∃ w_,(w_2.setCell ⟨g1,0,none⟩ (.string s))=w_:=⟨_,rfl⟩
  have hu_:Upd w_2 w_5 (fun k=>k=g1):=by rw [← hw_];exact (Upd.refl w_2 (fun k=>k=g1)).set (p:=⟨g1,0,none⟩) (.inl rfl) _
  have kf_:w_5.heap[g1]?=some (.cells #[.string s,.bool F.b1,.bool F.b2,.bool F.b3,.bool F.b4,.bool F.b5,.bool F.b6,.slice S.A7 F.us.length S.c7,.slice S.A8 F.ms.length S.c8,.bool F.b9,.slice S.A10 F.vs.length S.c10] 25 (0,0)):=by rw [← hw_];exact (blk_put (cs:=#[.string F.m,.bool F.b1,.bool F.b2,.bool F.b3,.bool F.b4,.bool F.b5,.bool F.b6,.slice S.A7 F.us.length S.c7,.slice S.A8 F.ms.length S.c8,.bool F.b9,.slice S.A10 F.vs.length S.c10]) K4_g1.out 0 _ rfl)
  rw [hw_]
  clear hw_
  have K6_g1:=amk (kf_)
  have B6:=amk (B4.out.trans (hu_.toBelow (B:=w.heap.size) (fun k hk=>by rw [hk];exact G_g1.out) (B4.out).size))
  have K6_g2:=amk (hu_.blk BX2.out (by have:=E_g1_g2.out;omega))
  clear hu_ B4 BX2 K4_g1
  clear kf_
  go_wp2_with (first | (refine wpList_load_row rfl 25 (.tmp 3) rfl g1 rfl 25 #[.string s,.bool F.b1,.bool F.b2,.bool F.b3,.bool F.b4,.bool F.b5,.bool F.b6,.slice S.A7 F.us.length S.c7,.slice S.A8 F.ms.length S.c8,.bool F.b9,.slice S.A10 F.vs.length S.c10] (0,0) _ K6_g1.out Try.underlying25 rfl (by kernel_rfl) ?_) | (refine wpList_store_row rfl 25 (.tmp 6) (.tmp 16) rfl g2 #[.string s,.bool F.b1,.bool F.b2,.bool F.b3,.bool F.b4,.bool F.b5,.bool F.b6,.slice S.A7 F.us.length S.c7,.slice S.A8 F.ms.length S.c8,.bool F.b9,.slice S.A10 F.vs.length S.c10] rfl rfl 25 #[.string ⟨#[]⟩,.bool false,.bool false,.bool false,.bool false,.bool false,.bool false,.slice none 0 0,.slice none 0 0,.bool false,.slice none 0 0] K6_g2.out (by kernel_rfl) rfl (by kernel_rfl) ?_))
  obtain ⟨w_7,hw_⟩:∃ w_,w_5.setRow g2 #[.string s,.bool F.b1,.bool F.b2,.bool F.b3,.bool F.b4,.bool F.b5,.bool F.b6,.slice S.A7 F.us.length S.c7,.slice S.A8 F.ms.length S.c8,.bool F.b9,.slice S.A10 F.vs.length S.c10]=w_:=⟨_,rfl⟩
  have hu_:Upd w_5 w_7 (fun k=>k=g2):=by rw [← hw_];exact Upd.setRow (Upd.refl w_5 (fun k=>k=g2)) (.inl rfl) _
  have kf_:w_7.heap[g2]?=some (.cells #[.string s,.bool F.b1,.bool F.b2,.bool F.b3,.bool F.b4,.bool F.b5,.bool F.b6,.slice S.A7 F.us.length S.c7,.slice S.A8 F.ms.length S.c8,.bool F.b9,.slice S.A10 F.vs.length S.c10] 25 (0,0)):=by rw [← hw_];exact setRow_heap w_5 g2 _ #[.string s,.bool F.b1,.bool F.b2,.bool F.b3,.bool F.b4,.bool F.b5,.bool F.b6,.slice S.A7 F.us.length S.c7,.slice S.A8 F.ms.length S.c8,.bool F.b9,.slice S.A10 F.vs.length S.c10] 25 (0,0) K6_g2.out
  rw [hw_]
  clear hw_
  have K8_g2:=amk (kf_)
  have B8:=amk (B6.out.trans (hu_.toBelow (B:=w.heap.size) (fun k hk=>by rw [hk];exact G_g2.out) (B6.out).size))
  have K8_g1:=amk (hu_.blk K6_g1.out (by have:=E_g1_g2.out;omega))
  clear hu_ B6 K6_g1 K6_g2
  clear kf_
  exact bodyPost_ret (res30 _ w_7 g2 _ _ _ _ _ _ _ _ _ _ _ _ rfl rfl K8_g2.out) rfl ⟨S,by rfl,FX.refl _ F { F with m:=s } S _ rfl rfl rfl,B8.out⟩
 ·have d1:(cmd == 1)=false:=beq_eq_false_iff_ne.2 c1
  have hr1:=rmacs_rest s
  obtain ⟨⟨us,r1,o1⟩,e1⟩:∃ x,rmacsS s=x:=⟨_,rfl⟩
  rw [e1] at hr1
  obtain ⟨⟨ms,r2,o2⟩,e2⟩:∃ x,rmacsS r1=x:=⟨_,rfl⟩
  have er:R=({ F with us:=us,ms:=ms },(cmd == 0) && o1 && o2 && r2.toList.isEmpty):=by
   rw [← HR.out]
   unfold rmacS
   rw [if_neg c1,e1]
   dsimp only
   rw [e2]
  subst er
  have N1:=fun w=>rmacs2_c s us r1 o1 e1 w HZ.out
  have N2:=fun w=>rmacs2_c r1 ms r2 o2 e2 w (Nat.le_trans hr1 HZ.out)
  clear HR c1 e1 e2 hr1
  go_wp2_with fail
  refine (N1 _).mono ?_
  rintro e w_5 ⟨A7,c7,rfl,o7,hb_⟩
  have OW7:Aside0 (OR w.heap.size w_5 9 A7 us.length c7 (encs Value.string us)):=⟨⟨own_weaken o7 B4.out.size,.inl rfl⟩⟩
  clear o7
  have B6:=amk (bws B4.out hb_)
  have K6_g1:=amk (bkb K4_g1.out hb_)
  have K6_g2:=amk (bkb BX2.out hb_)
  clear hb_ B4 K4_g1 BX2
  go_wp2_with fail
  refine (N2 _).mono ?_
  rintro e w_7 ⟨A8,c8,rfl,o8,hb_⟩
  have OW8:Aside0 (OR w.heap.size w_7 9 A8 ms.length c8 (encs Value.string ms)):=⟨⟨own_weaken o8 B6.out.size,.inl rfl⟩⟩
  clear o8
  have B8:=amk (bws B6.out hb_)
  have K8_g1:=amk (bkb K6_g1.out hb_)
  have K8_g2:=amk (bkb K6_g2.out hb_)
  have O8_o7:=amk (OW7.out.below hb_)
  clear hb_ B6 K6_g1 K6_g2 OW7
  clear N1 N2
  have pc7:w_7.cell? ⟨g1,7,none⟩=some (.slice S.A7 F.us.length S.c7):=(bkc K8_g1.out 7).trans rfl
  have pf7:=bkf K8_g1.out 7
  have pc8:w_7.cell? ⟨g1,8,none⟩=some (.slice S.A8 F.ms.length S.c8):=(bkc K8_g1.out 8).trans rfl
  have pf8:=bkf K8_g1.out 8
  go_upto_region 8 with (fail)
  clear pc7 pf7 pc8 pf8
  obtain ⟨w_9,hw_⟩:∃ w_,((w_7.setCell ⟨g1,7,none⟩ (.slice A7 us.length c7)).setCell ⟨g1,8,none⟩ (.slice A8 ms.length c8))=w_:=⟨_,rfl⟩
  have hu_:Upd w_7 w_9 (fun k=>k=g1):=by rw [← hw_];exact ((Upd.refl w_7 (fun k=>k=g1)).set (p:=⟨g1,7,none⟩) (.inl rfl) _).set (p:=⟨g1,8,none⟩) (.inl rfl) _
  have kf_:w_9.heap[g1]?=some (.cells #[.string F.m,.bool F.b1,.bool F.b2,.bool F.b3,.bool F.b4,.bool F.b5,.bool F.b6,.slice A7 us.length c7,.slice A8 ms.length c8,.bool F.b9,.slice S.A10 F.vs.length S.c10] 25 (0,0)):=by rw [← hw_];exact (blk_put (cs:=#[.string F.m,.bool F.b1,.bool F.b2,.bool F.b3,.bool F.b4,.bool F.b5,.bool F.b6,.slice A7 us.length c7,.slice S.A8 F.ms.length S.c8,.bool F.b9,.slice S.A10 F.vs.length S.c10]) (blk_put (cs:=#[.string F.m,.bool F.b1,.bool F.b2,.bool F.b3,.bool F.b4,.bool F.b5,.bool F.b6,.slice S.A7 F.us.length S.c7,.slice S.A8 F.ms.length S.c8,.bool F.b9,.slice S.A10 F.vs.length S.c10]) K8_g1.out 7 _ rfl) 8 _ rfl)
  rw [hw_]
  clear hw_
  have K10_g1:=amk (kf_)
  have B10:=amk (B8.out.trans (hu_.toBelow (B:=w.heap.size) (fun k hk=>by rw [hk];exact G_g1.out) (B8.out).size))
  have K10_g2:=amk (hu_.blk K8_g2.out (by have:=E_g1_g2.out;omega))
  have O10_o7:=amk (O8_o7.out.boxT K8_g1.out (by decide) (by decide) hu_)
  have O10_o8:=amk (OW8.out.boxT K8_g1.out (by decide) (by decide) hu_)
  clear hu_ B8 K8_g2 O8_o7 OW8 K8_g1
  clear kf_
  have FV0:∀ W,Below w.heap.size w W→OR w.heap.size W 9 A7 us.length c7 (encs Value.string us)→OR w.heap.size W 9 A8 ms.length c8 (encs Value.string ms)→FX w.heap.size F S W { F with us:=us,ms:=ms } ⟨A7,c7,A8,c8,S.A10,S.c10⟩:=fun W hb a7 a8=>⟨.inr a7.h,.inr a8.h,.inl ⟨rfl,rfl,rfl⟩⟩
  have HF:=amk FV0
  clear FV0
  cases hd:(cmd == 0)
  ·have hq:=0
   go_wp2_with (first | (refine wpList_load_row rfl 25 (.tmp 3) rfl g1 rfl 25 #[.string F.m,.bool F.b1,.bool F.b2,.bool F.b3,.bool F.b4,.bool F.b5,.bool F.b6,.slice A7 us.length c7,.slice A8 ms.length c8,.bool F.b9,.slice S.A10 F.vs.length S.c10] (0,0) _ K10_g1.out Try.underlying25 rfl (by kernel_rfl) ?_) | (refine wpList_store_row rfl 25 (.tmp 6) (.tmp 36) rfl g2 #[.string F.m,.bool F.b1,.bool F.b2,.bool F.b3,.bool F.b4,.bool F.b5,.bool F.b6,.slice A7 us.length c7,.slice A8 ms.length c8,.bool F.b9,.slice S.A10 F.vs.length S.c10] rfl rfl 25 #[.string ⟨#[]⟩,.bool false,.bool false,.bool false,.bool false,.bool false,.bool false,.slice none 0 0,.slice none 0 0,.bool false,.slice none 0 0] K10_g2.out (by kernel_rfl) rfl (by kernel_rfl) ?_))
   obtain ⟨w_11,hw_⟩:∃ w_,w_9.setRow g2 #[.string F.m,.bool F.b1,.bool F.b2,.bool F.b3,.bool F.b4,.bool F.b5,.bool F.b6,.slice A7 us.length c7,.slice A8 ms.length c8,.bool F.b9,.slice S.A10 F.vs.length S.c10]=w_:=⟨_,rfl⟩
   have hu_:Upd w_9 w_11 (fun k=>k=g2):=by rw [← hw_];exact Upd.setRow (Upd.refl w_9 (fun k=>k=g2)) (.inl rfl) _
   have kf_:w_11.heap[g2]?=some (.cells #[.string F.m,.bool F.b1,.bool F.b2,.bool F.b3,.bool F.b4,.bool F.b5,.bool F.b6,.slice A7 us.length c7,.slice A8 ms.length c8,.bool F.b9,.slice S.A10 F.vs.length S.c10] 25 (0,0)):=by rw [← hw_];exact setRow_heap w_9 g2 _ #[.string F.m,.bool F.b1,.bool F.b2,.bool F.b3,.bool F.b4,.bool F.b5,.bool F.b6,.slice A7 us.length c7,.slice A8 ms.length c8,.bool F.b9,.slice S.A10 F.vs.length S.c10] 25 (0,0) K10_g2.out
   rw [hw_]
   clear hw_
   have K12_g2:=amk (kf_)
   have B12:=amk (B10.out.trans (hu_.toBelow (B:=w.heap.size) (fun k hk=>by rw [hk];exact G_g2.out) (B10.out).size))
   have K12_g1:=amk (hu_.blk K10_g1.out (by have:=E_g1_g2.out;omega))
   have O12_o7:=amk (O10_o7.out.boxT K10_g2.out (by decide) (by decide) hu_)
   have O12_o8:=amk (O10_o8.out.boxT K10_g2.out (by decide) (by decide) hu_)
   clear hu_ B10 K10_g1 O10_o7 O10_o8 K10_g2
   clear kf_
   exact bodyPost_ret (res30 _ w_11 g2 _ _ _ _ _ _ _ _ _ _ _ _ rfl rfl K12_g2.out) rfl ⟨⟨A7,c7,A8,c8,S.A10,S.c10⟩,by rfl,HF.out _ B12.out O12_o7.out O12_o8.out,B12.out⟩
  ·cases o1
   ·have hq:=0
    go_wp2_with (first | (refine wpList_load_row rfl 25 (.tmp 3) rfl g1 rfl 25 #[.string F.m,.bool F.b1,.bool F.b2,.bool F.b3,.bool F.b4,.bool F.b5,.bool F.b6,.slice A7 us.length c7,.slice A8 ms.length c8,.bool F.b9,.slice S.A10 F.vs.length S.c10] (0,0) _ K10_g1.out Try.underlying25 rfl (by kernel_rfl) ?_) | (refine wpList_store_row rfl 25 (.tmp 6) (.tmp 36) rfl g2 #[.string F.m,.bool F.b1,.bool F.b2,.bool F.b3,.bool F.b4,.bool F.b5,.bool F.b6,.slice A7 us.length c7,.slice A8 ms.length c8,.bool F.b9,.slice S.A10 F.vs.length S.c10] rfl rfl 25 #[.string ⟨#[]⟩,.bool false,.bool false,.bool false,.bool false,.bool false,.bool false,.slice none 0 0,.slice none 0 0,.bool false,.slice none 0 0] K10_g2.out (by kernel_rfl) rfl (by kernel_rfl) ?_))
    obtain ⟨w_11,hw_⟩:∃ w_,w_9.setRow g2 #[.string F.m,.bool F.b1,.bool F.b2,.bool F.b3,.bool F.b4,.bool F.b5,.bool F.b6,.slice A7 us.length c7,.slice A8 ms.length c8,.bool F.b9,.slice S.A10 F.vs.length S.c10]=w_:=⟨_,rfl⟩
    have hu_:Upd w_9 w_11 (fun k=>k=g2):=by rw [← hw_];exact Upd.setRow (Upd.refl w_9 (fun k=>k=g2)) (.inl rfl) _
    have kf_:w_11.heap[g2]?=some (.cells #[.string F.m,.bool F.b1,.bool F.b2,.bool F.b3,.bool F.b4,.bool F.b5,.bool F.b6,.slice A7 us.length c7,.slice A8 ms.length c8,.bool F.b9,.slice S.A10 F.vs.length S.c10] 25 (0,0)):=by rw [← hw_];exact setRow_heap w_9 g2 _ #[.string F.m,.bool F.b1,.bool F.b2,.bool F.b3,.bool F.b4,.bool F.b5,.bool F.b6,.slice A7 us.length c7,.slice A8 ms.length c8,.bool F.b9,.slice S.A10 F.vs.length S.c10] 25 (0,0) K10_g2.out
    rw [hw_]
    clear hw_
    have K12_g2:=amk (kf_)
    have B12:=amk (B10.out.trans (hu_.toBelow (B:=w.heap.size) (fun k hk=>by rw [hk];exact G_g2.out) (B10.out).size))
    have K12_g1:=amk (hu_.blk K10_g1.out (by have:=E_g1_g2.out;omega))
    have O12_o7:=amk (O10_o7.out.boxT K10_g2.out (by decide) (by decide) hu_)
    have O12_o8:=amk (O10_o8.out.boxT K10_g2.out (by decide) (by decide) hu_)
    clear hu_ B10 K10_g1 O10_o7 O10_o8 K10_g2
    clear kf_
    exact bodyPost_ret (res30 _ w_11 g2 _ _ _ _ _ _ _ _ _ _ _ _ rfl rfl K12_g2.out) rfl ⟨⟨A7,c7,A8,c8,S.A10,S.c10⟩,by rfl,HF.out _ B12.out O12_o7.out O12_o8.out,B12.out⟩
   ·cases o2
    ·have hq:=0
     go_wp2_with (first | (refine wpList_load_row rfl 25 (.tmp 3) rfl g1 rfl 25 #[.string F.m,.bool F.b1,.bool F.b2,.bool F.b3,.bool F.b4,.bool F.b5,.bool F.b6,.slice A7 us.length c7,.slice A8 ms.length c8,.bool F.b9,.slice S.A10 F.vs.length S.c10] (0,0) _ K10_g1.out Try.underlying25 rfl (by kernel_rfl) ?_) | (refine wpList_store_row rfl 25 (.tmp 6) (.tmp 36) rfl g2 #[.string F.m,.bool F.b1,.bool F.b2,.bool F.b3,.bool F.b4,.bool F.b5,.bool F.b6,.slice A7 us.length c7,.slice A8 ms.length c8,.bool F.b9,.slice S.A10 F.vs.length S.c10] rfl rfl 25 #[.string ⟨#[]⟩,.bool false,.bool false,.bool false,.bool false,.bool false,.bool false,.slice none 0 0,.slice none 0 0,.bool false,.slice none 0 0] K10_g2.out (by kernel_rfl) rfl (by kernel_rfl) ?_))
     obtain ⟨w_11,hw_⟩:∃ w_,w_9.setRow g2 #[.string F.m,.bool F.b1,.bool F.b2,.bool F.b3,.bool F.b4,.bool F.b5,.bool F.b6,.slice A7 us.length c7,.slice A8 ms.length c8,.bool F.b9,.slice S.A10 F.vs.length S.c10]=w_:=⟨_,rfl⟩
     have hu_:Upd w_9 w_11 (fun k=>k=g2):=by rw [← hw_];exact Upd.setRow (Upd.refl w_9 (fun k=>k=g2)) (.inl rfl) _
     have kf_:w_11.heap[g2]?=some (.cells #[.string F.m,.bool F.b1,.bool F.b2,.bool F.b3,.bool F.b4,.bool F.b5,.bool F.b6,.slice A7 us.length c7,.slice A8 ms.length c8,.bool F.b9,.slice S.A10 F.vs.length S.c10] 25 (0,0)):=by rw [← hw_];exact setRow_heap w_9 g2 _ #[.string F.m,.bool F.b1,.bool F.b2,.bool F.b3,.bool F.b4,.bool F.b5,.bool F.b6,.slice A7 us.length c7,.slice A8 ms.length c8,.bool F.b9,.slice S.A10 F.vs.length S.c10] 25 (0,0) K10_g2.out
     rw [hw_]
     clear hw_
     have K12_g2:=amk (kf_)
     have B12:=amk (B10.out.trans (hu_.toBelow (B:=w.heap.size) (fun k hk=>by rw [hk];exact G_g2.out) (B10.out).size))
     have K12_g1:=amk (hu_.blk K10_g1.out (by have:=E_g1_g2.out;omega))
     have O12_o7:=amk (O10_o7.out.boxT K10_g2.out (by decide) (by decide) hu_)
     have O12_o8:=amk (O10_o8.out.boxT K10_g2.out (by decide) (by decide) hu_)
     clear hu_ B10 K10_g1 O10_o7 O10_o8 K10_g2
     clear kf_
     exact bodyPost_ret (res30 _ w_11 g2 _ _ _ _ _ _ _ _ _ _ _ _ rfl rfl K12_g2.out) rfl ⟨⟨A7,c7,A8,c8,S.A10,S.c10⟩,by rfl,HF.out _ B12.out O12_o7.out O12_o8.out,B12.out⟩
    ·have hq:=0
     go_wp2_with (first | (refine wpList_load_row rfl 25 (.tmp 3) rfl g1 rfl 25 #[.string F.m,.bool F.b1,.bool F.b2,.bool F.b3,.bool F.b4,.bool F.b5,.bool F.b6,.slice A7 us.length c7,.slice A8 ms.length c8,.bool F.b9,.slice S.A10 F.vs.length S.c10] (0,0) _ K10_g1.out Try.underlying25 rfl (by kernel_rfl) ?_) | (refine wpList_store_row rfl 25 (.tmp 6) (.tmp 36) rfl g2 #[.string F.m,.bool F.b1,.bool F.b2,.bool F.b3,.bool F.b4,.bool F.b5,.bool F.b6,.slice A7 us.length c7,.slice A8 ms.length c8,.bool F.b9,.slice S.A10 F.vs.length S.c10] rfl rfl 25 #[.string ⟨#[]⟩,.bool false,.bool false,.bool false,.bool false,.bool false,.bool false,.slice none 0 0,.slice none 0 0,.bool false,.slice none 0 0] K10_g2.out (by kernel_rfl) rfl (by kernel_rfl) ?_))
     obtain ⟨w_11,hw_⟩:∃ w_,w_9.setRow g2 #[.string F.m,.bool F.b1,.bool F.b2,.bool F.b3,.bool F.b4,.bool F.b5,.bool F.b6,.slice A7 us.length c7,.slice A8 ms.length c8,.bool F.b9,.slice S.A10 F.vs.length S.c10]=w_:=⟨_,rfl⟩
     have hu_:Upd w_9 w_11 (fun k=>k=g2):=by rw [← hw_];exact Upd.setRow (Upd.refl w_9 (fun k=>k=g2)) (.inl rfl) _
     have kf_:w_11.heap[g2]?=some (.cells #[.string F.m,.bool F.b1,.bool F.b2,.bool F.b3,.bool F.b4,.bool F.b5,.bool F.b6,.slice A7 us.length c7,.slice A8 ms.length c8,.bool F.b9,.slice S.A10 F.vs.length S.c10] 25 (0,0)):=by rw [← hw_];exact setRow_heap w_9 g2 _ #[.string F.m,.bool F.b1,.bool F.b2,.bool F.b3,.bool F.b4,.bool F.b5,.bool F.b6,.slice A7 us.length c7,.slice A8 ms.length c8,.bool F.b9,.slice S.A10 F.vs.length S.c10] 25 (0,0) K10_g2.out
     rw [hw_]
     clear hw_
     have K12_g2:=amk (kf_)
     have B12:=amk (B10.out.trans (hu_.toBelow (B:=w.heap.size) (fun k hk=>by rw [hk];exact G_g2.out) (B10.out).size))
     have K12_g1:=amk (hu_.blk K10_g1.out (by have:=E_g1_g2.out;omega))
     have O12_o7:=amk (O10_o7.out.boxT K10_g2.out (by decide) (by decide) hu_)
     have O12_o8:=amk (O10_o8.out.boxT K10_g2.out (by decide) (by decide) hu_)
     clear hu_ B10 K10_g1 O10_o7 O10_o8 K10_g2
     clear kf_
     exact bodyPost_ret (res30 _ w_11 g2 _ _ _ _ _ _ _ _ _ _ _ _ rfl rfl K12_g2.out) rfl ⟨⟨A7,c7,A8,c8,S.A10,S.c10⟩,by rfl,HF.out _ B12.out O12_o7.out O12_o8.out,B12.out⟩
end Go.Proofs.Ytkgbhlcbjflnlaa.Fl
