/- Commands and settings: contracts by hand, and the laws over them. -/
import Derived.Test.YtkgbhlcbjflnlaaZOwn
import Derived.Test.YtkgbhlcbjflnlaaZFV
namespace Go.Proofs.Ytkgbhlcbjflnlaa.Fl
open Go Go.RowKit Go.Proofs.YtkgbhlcbjflnlaaW.PrintWords Go.Proofs.YtkgbhlcbjflnlaaW.PrintLast Go.Proofs.YtkgbhlcbjflnlaaW.PrintMore Go.Proofs.Ytkgbhlcbjflnlaa.Mth Go.Proofs.Ytkgbhlcbjflnlaa.P Go.Proofs.Ytkgbhlcbjflnlaa.Own Go.Proofs
set_option linter.unusedVariables false
set_option linter.unusedSimpArgs false
def boundF (F:Flt):Flt:={ F with us:=F.us.take 20,ms:=F.ms.take 20,vs:=F.vs.take 60 }
def boundC (C:Cfg):Cfg:={ C with F:=boundF C.F,tab:=C.tab.take 130 }
theorem boundC_small (C:Cfg):SmallC (boundC C):=by
 unfold SmallC Small boundC boundF
 simp only [List.length_take]
 omega
theorem take_min {α:Type} (l:List α) (k:Nat):l.take (min (l.length:Int) (k:Int)).toNat=l.take k:=by rw [List.take_eq_take_iff];omega
theorem take_len {α:Type} {enc:α→Value} {d:α} {w:World} {A:Option Addr} {l:List α} (h:ReadsOf enc d w A l.length l) (k:Nat):ReadsOf enc d w A (l.take k).length (l.take k):=by
 have q:=h.take_ (min k l.length) (by omega)
 have e:l.take (min k l.length)=l.take k:=by rw [List.take_eq_take_iff];omega
 rw [e] at q
 rw [List.length_take]
 exact q
theorem FV.bound {w:World} {F:Flt} {S:Sl} (h:FV w F S):FV w (boundF F) S :=
 ⟨take_len h.r7 20,take_len h.r8 20,take_len h.r10 60,by have:=h.l7;simp only [boundF,List.length_take];omega,by have:=h.l8;simp only [boundF,List.length_take];omega,by have:=h.l10;simp only [boundF,List.length_take];omega⟩
theorem CV.bound {w:World} {C:Cfg} {S:SlC} (h:CV w C S):CV w (boundC C) S:=⟨h.f.bound,take_len h.r 130,by have:=h.l;simp only [boundC,List.length_take];omega⟩
theorem res9 (tmps:Array Value) (w:World) (g:Nat) (c0 c1 c2 c3 c4 c5 c6 c7 c8 c9 c10 c11 c12 c13 c14 c15 c16 c17:Value) (hp:tmps.getD 2 undef=.pointer (some ⟨g,0,none⟩)) (hg:w.heap[g]?=some (.cells #[c0,c1,c2,c3,c4,c5,c6,c7,c8,c9,c10,c11,c12,c13,c14,c15,c16,c17] 29 (0,0))) :
  (results Try.f9 tmps).run Try.prog w=.ok (.agg #[c0,c1,c2,c3,c4,c5,c6,c7,c8,c9,c10,c11,c12,c13,c14,c15,c16,c17]) w:=by
 have q_:tmps[2]?.getD undef=.pointer (some ⟨g,0,none⟩):=by simpa using hp
 have l_:=run_loadVar_row (P:=Try.prog) w g 29 29 _ (0,0) _ hg Try.underlying29 rfl (by kernel_rfl)
 simp [results,Try.results9,q_,asAddr,l_]
set_option maxHeartbeats 16000000 in
set_option maxRecDepth 100000 in
theorem bound_c (C:Cfg) (S:SlC) (w:World) (h:CV w C S):Calls Try.prog 9 #[.agg (cellsC C S)] w fun e w'=>e=.returned (.agg (cellsC (boundC C) S))∧Below w.heap.size w w':=by
 have h7:=h.f.r7.2.1
 have h8:=h.f.r8.2.1
 have h10:=h.f.r10.2.1
 have h15:=h.r.2.1
 obtain ⟨i9,j9,z9,s9,_⟩:=info_parts P.info9
 obtain ⟨i3,j3,z3,s3,_⟩:=info_parts P.info3
 have t7:=(print_take_of (P:=Try.prog) Value.string ByteArray.empty 22 9 .i64 Try.underlying22 j9 s9 S.S.A7 S.S.c7 C.F.us (min (C.F.us.length:Int) 20) (by omega) (by omega) h.f.l7).1
 have t8:=(print_take_of (P:=Try.prog) Value.string ByteArray.empty 22 9 .i64 Try.underlying22 j9 s9 S.S.A8 S.S.c8 C.F.ms (min (C.F.ms.length:Int) 20) (by omega) (by omega) h.f.l8).1
 have t10:=(print_take_of (P:=Try.prog) (Value.int .i64) 0 23 3 .i64 Try.underlying23 j3 s3 S.S.A10 S.S.c10 C.F.vs (min (C.F.vs.length:Int) 60) (by omega) (by omega) h.f.l10).1
 have t15:=(print_take_of (P:=Try.prog) (Value.int .i64) 0 23 3 .i64 Try.underlying23 j3 s3 S.A S.c C.tab (min (C.tab.length:Int) 130) (by omega) (by omega) h.l).1
 rw [show C.F.us.take (min (C.F.us.length:Int) 20).toNat=C.F.us.take 20 from take_min _ 20] at t7
 rw [show C.F.ms.take (min (C.F.ms.length:Int) 20).toNat=C.F.ms.take 20 from take_min _ 20] at t8
 rw [show C.F.vs.take (min (C.F.vs.length:Int) 60).toNat=C.F.vs.take 60 from take_min _ 60] at t10
 rw [show C.tab.take (min (C.tab.length:Int) 130).toNat=C.tab.take 130 from take_min _ 130] at t15
 show Calls Try.prog 9 #[.agg (cellsC C S)] w fun e w'=>e=.returned (.agg #[.string C.F.m,.bool C.F.b1,.bool C.F.b2,.bool C.F.b3,.bool C.F.b4,.bool C.F.b5,.bool C.F.b6,.slice S.S.A7 (C.F.us.take 20).length S.S.c7,.slice S.S.A8 (C.F.ms.take 20).length S.S.c8,.bool C.F.b9,.slice S.S.A10 (C.F.vs.take 60).length S.S.c10,.int .i64 C.p,.int .i64 C.mx,.bool C.on,.int .i64 C.kn,.slice S.A (C.tab.take 130).length S.c,.string C.key,.int .i64 C.df])∧Below w.heap.size w w'
 obtain ⟨n7,e7⟩:∃ n7,(C.F.us.take 20).length=n7:=⟨_,rfl⟩
 obtain ⟨n8,e8⟩:∃ n8,(C.F.ms.take 20).length=n8:=⟨_,rfl⟩
 obtain ⟨n10,e10⟩:∃ n10,(C.F.vs.take 60).length=n10:=⟨_,rfl⟩
 obtain ⟨n15,e15⟩:∃ n15,(C.tab.take 130).length=n15:=⟨_,rfl⟩
 rw [e7] at t7
 rw [e8] at t8
 rw [e10] at t10
 rw [e15] at t15
 rw [e7,e8,e10,e15]
 clear j9 z9 s9 j3 z3 s3 e7 e8 e10 e15 h
 have hu25:=Try.underlying25
 have hu27:=Try.underlying27
 have hu29:=Try.underlying29
 go_enter Try.func9,Try.ntmps9
 go_upto_region 1 with (fail)
 obtain ⟨w_1,hw_g1⟩:∃ w_,w.alloc (.cells (cellsC C S) 29)=w_:=⟨_,rfl⟩
 rw [hw_g1]
 obtain ⟨w_2,hw_g2⟩:∃ w_,w_1.alloc (.cells zeroC 29)=w_:=⟨_,rfl⟩
 rw [hw_g2]
 have z_g1:w_1.heap.size=w.heap.size+1:=by rw [← hw_g1];simp
 have ha_:Below w.heap.size w w_1:=by rw [← hw_g1];exact bwa (Below.refl _ _) _
 have BX1:Aside0 (w_1.heap[w.heap.size]?=some (.cells (cellsC C S) 29 (0,0))):=⟨by rw [← hw_g1];exact blk_new w _⟩
 have hgB:w.heap.size≤w.heap.size:=((Below.refl w.heap.size w)).size
 clear hw_g1
 obtain ⟨g1,hg_⟩:∃ g_,w.heap.size=g_:=⟨_,rfl⟩
 have G_g1:Aside0 (w.heap.size≤g1):=⟨Nat.le_trans hgB (Nat.le_of_eq hg_)⟩
 rw [hg_] at BX1 z_g1
 (try rw [hg_])
 clear hgB
 clear hg_
 have B3:=amk (bws (Below.refl w.heap.size w) ha_)
 clear ha_ 
 have z_g2:w_2.heap.size=w_1.heap.size+1:=by rw [← hw_g2];simp
 have ha_:Below w_1.heap.size w_1 w_2:=by rw [← hw_g2];exact bwa (Below.refl _ _) _
 have BX2:Aside0 (w_2.heap[w_1.heap.size]?=some (.cells zeroC 29 (0,0))):=⟨by rw [← hw_g2];exact blk_new w_1 _⟩
 have hgB:w.heap.size≤w_1.heap.size:=(B3.out).size
 have hl_g1:g1 < w_1.heap.size:=blk_lt BX1.out
 clear hw_g2
 obtain ⟨g2,hg_⟩:∃ g_,w_1.heap.size=g_:=⟨_,rfl⟩
 have G_g2:Aside0 (w.heap.size≤g2):=⟨Nat.le_trans hgB (Nat.le_of_eq hg_)⟩
 rw [hg_] at BX2 z_g2 hl_g1
 have E_g1_g2:=amk hl_g1
 clear hl_g1
 (try rw [hg_])
 clear hgB
 have zz_:g1+1=g2:=by omega
 (try rw [zz_])
 clear zz_
 clear hg_
 have B4:=amk (bws B3.out ha_)
 have K4_g1:=amk (bkb BX1.out ha_)
 clear ha_ B3 BX1
 have pc7:w_2.cell? ⟨g1,7,none⟩=some (.slice S.S.A7 C.F.us.length S.S.c7):=(bkc K4_g1.out 7).trans rfl
 have pf7:=bkf K4_g1.out 7
 have pc8:w_2.cell? ⟨g1,8,none⟩=some (.slice S.S.A8 C.F.ms.length S.S.c8):=(bkc K4_g1.out 8).trans rfl
 have pf8:=bkf K4_g1.out 8
 have pc10:w_2.cell? ⟨g1,10,none⟩=some (.slice S.S.A10 C.F.vs.length S.S.c10):=(bkc K4_g1.out 10).trans rfl
 have pf10:=bkf K4_g1.out 10
 have pc15:w_2.cell? ⟨g1,15,none⟩=some (.slice S.A C.tab.length S.c):=(bkc K4_g1.out 15).trans rfl
 have pf15:=bkf K4_g1.out 15
 go_upto_region 5 with (fail)
 clear pc7 pf7 pc8 pf8 pc10 pf10 pc15 pf15
 obtain ⟨w_5,hw_⟩:∃ w_,((((w_2.setCell ⟨g1,7,none⟩ (.slice S.S.A7 n7 S.S.c7)).setCell ⟨g1,8,none⟩ (.slice S.S.A8 n8 S.S.c8)).setCell ⟨g1,10,none⟩ (.slice S.S.A10 n10 S.S.c10)).setCell ⟨g1,15,none⟩ (.slice S.A n15 S.c))=w_:=⟨_,rfl⟩
 have hu_:Upd w_2 w_5 (fun k=>k=g1):=by rw [← hw_];exact ((((Upd.refl w_2 (fun k=>k=g1)).set (p:=⟨g1,7,none⟩) (.inl rfl) _).set (p:=⟨g1,8,none⟩) (.inl rfl) _).set (p:=⟨g1,10,none⟩) (.inl rfl) _).set (p:=⟨g1,15,none⟩) (.inl rfl) _
 have kf_:w_5.heap[g1]?=some (.cells #[.string C.F.m,.bool C.F.b1,.bool C.F.b2,.bool C.F.b3,.bool C.F.b4,.bool C.F.b5,.bool C.F.b6,.slice S.S.A7 n7 S.S.c7,.slice S.S.A8 n8 S.S.c8,.bool C.F.b9,.slice S.S.A10 n10 S.S.c10,.int .i64 C.p,.int .i64 C.mx,.bool C.on,.int .i64 C.kn,.slice S.A n15 S.c,.string C.key,.int .i64 C.df] 29 (0,0)):=by rw [← hw_];exact (blk_put (cs:=#[.string C.F.m,.bool C.F.b1,.bool C.F.b2,.bool C.F.b3,.bool C.F.b4,.bool C.F.b5,.bool C.F.b6,.slice S.S.A7 n7 S.S.c7,.slice S.S.A8 n8 S.S.c8,.bool C.F.b9,.slice S.S.A10 n10 S.S.c10,.int .i64 C.p,.int .i64 C.mx,.bool C.on,.int .i64 C.kn,.slice S.A C.tab.length S.c,.string C.key,.int .i64 C.df]) (blk_put (cs:=#[.string C.F.m,.bool C.F.b1,.bool C.F.b2,.bool C.F.b3,.bool C.F.b4,.bool C.F.b5,.bool C.F.b6,.slice S.S.A7 n7 S.S.c7,.slice S.S.A8 n8 S.S.c8,.bool C.F.b9,.slice S.S.A10 C.F.vs.length S.S.c10,.int .i64 C.p,.int .i64 C.mx,.bool C.on,.int .i64 C.kn,.slice S.A C.tab.length S.c,.string C.key,.int .i64 C.df]) (blk_put (cs:=#[.string C.F.m,.bool C.F.b1,.bool C.F.b2,.bool C.F.b3,.bool C.F.b4,.bool C.F.b5,.bool C.F.b6,.slice S.S.A7 n7 S.S.c7,.slice S.S.A8 C.F.ms.length S.S.c8,.bool C.F.b9,.slice S.S.A10 C.F.vs.length S.S.c10,.int .i64 C.p,.int .i64 C.mx,.bool C.on,.int .i64 C.kn,.slice S.A C.tab.length S.c,.string C.key,.int .i64 C.df]) (blk_put (cs:=(cellsC C S)) K4_g1.out 7 _ rfl) 8 _ rfl) 10 _ rfl) 15 _ rfl)
 rw [hw_]
 clear hw_
 have K6_g1:=amk (kf_)
 have B6:=amk (B4.out.trans (hu_.toBelow (B:=w.heap.size) (fun k hk=>by rw [hk];exact G_g1.out) (B4.out).size))
 have K6_g2:=amk (hu_.blk BX2.out (by have:=E_g1_g2.out;omega))
 clear hu_ B4 BX2 K4_g1
 clear kf_
 go_wp2_with ((refine wpList_load_row rfl 29 (.tmp 1) rfl g1 rfl 29 #[.string C.F.m,.bool C.F.b1,.bool C.F.b2,.bool C.F.b3,.bool C.F.b4,.bool C.F.b5,.bool C.F.b6,.slice S.S.A7 n7 S.S.c7,.slice S.S.A8 n8 S.S.c8,.bool C.F.b9,.slice S.S.A10 n10 S.S.c10,.int .i64 C.p,.int .i64 C.mx,.bool C.on,.int .i64 C.kn,.slice S.A n15 S.c,.string C.key,.int .i64 C.df] (0,0) _ K6_g1.out Try.underlying29 rfl (by kernel_rfl) ?_);(refine wpList_store_row rfl 29 (.tmp 2) (.tmp 47) rfl g2 #[.string C.F.m,.bool C.F.b1,.bool C.F.b2,.bool C.F.b3,.bool C.F.b4,.bool C.F.b5,.bool C.F.b6,.slice S.S.A7 n7 S.S.c7,.slice S.S.A8 n8 S.S.c8,.bool C.F.b9,.slice S.S.A10 n10 S.S.c10,.int .i64 C.p,.int .i64 C.mx,.bool C.on,.int .i64 C.kn,.slice S.A n15 S.c,.string C.key,.int .i64 C.df] rfl rfl 29 zeroC K6_g2.out (by kernel_rfl) rfl (by kernel_rfl) ?_))
 obtain ⟨w_7,hw_⟩:∃ w_,w_5.setRow g2 #[.string C.F.m,.bool C.F.b1,.bool C.F.b2,.bool C.F.b3,.bool C.F.b4,.bool C.F.b5,.bool C.F.b6,.slice S.S.A7 n7 S.S.c7,.slice S.S.A8 n8 S.S.c8,.bool C.F.b9,.slice S.S.A10 n10 S.S.c10,.int .i64 C.p,.int .i64 C.mx,.bool C.on,.int .i64 C.kn,.slice S.A n15 S.c,.string C.key,.int .i64 C.df]=w_:=⟨_,rfl⟩
 have hu_:Upd w_5 w_7 (fun k=>k=g2):=by rw [← hw_];exact Upd.setRow (Upd.refl w_5 (fun k=>k=g2)) (.inl rfl) _
 have kf_:w_7.heap[g2]?=some (.cells #[.string C.F.m,.bool C.F.b1,.bool C.F.b2,.bool C.F.b3,.bool C.F.b4,.bool C.F.b5,.bool C.F.b6,.slice S.S.A7 n7 S.S.c7,.slice S.S.A8 n8 S.S.c8,.bool C.F.b9,.slice S.S.A10 n10 S.S.c10,.int .i64 C.p,.int .i64 C.mx,.bool C.on,.int .i64 C.kn,.slice S.A n15 S.c,.string C.key,.int .i64 C.df] 29 (0,0)):=by rw [← hw_];exact setRow_heap w_5 g2 _ #[.string C.F.m,.bool C.F.b1,.bool C.F.b2,.bool C.F.b3,.bool C.F.b4,.bool C.F.b5,.bool C.F.b6,.slice S.S.A7 n7 S.S.c7,.slice S.S.A8 n8 S.S.c8,.bool C.F.b9,.slice S.S.A10 n10 S.S.c10,.int .i64 C.p,.int .i64 C.mx,.bool C.on,.int .i64 C.kn,.slice S.A n15 S.c,.string C.key,.int .i64 C.df] 29 (0,0) K6_g2.out
 rw [hw_]
 clear hw_
 have K8_g2:=amk (kf_)
 have B8:=amk (B6.out.trans (hu_.toBelow (B:=w.heap.size) (fun k hk=>by rw [hk];exact G_g2.out) (B6.out).size))
 have K8_g1:=amk (hu_.blk K6_g1.out (by have:=E_g1_g2.out;omega))
 clear hu_ B6 K6_g1 K6_g2
 clear kf_
 exact bodyPost_ret (res9 _ w_7 g2 _ _ _ _ _ _ _ _ _ _ _ _ _ _ _ _ _ _ rfl K8_g2.out) rfl ⟨rfl,B8.out⟩
end Go.Proofs.Ytkgbhlcbjflnlaa.Fl
