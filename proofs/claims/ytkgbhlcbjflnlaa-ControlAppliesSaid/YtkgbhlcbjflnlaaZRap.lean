/- Commands and settings: contracts by hand, and the laws over them. -/
import Derived.Test.YtkgbhlcbjflnlaaZG1
import Derived.Test.YtkgbhlcbjflnlaaZRpr
import Derived.Test.YtkgbhlcbjflnlaaZRrx
import Derived.Test.YtkgbhlcbjflnlaaZRmac
import Derived.Test.YtkgbhlcbjflnlaaZSetx
import Derived.Test.YtkgbhlcbjflnlaaZG47
import Derived.Deep.DeepCutAuto
import Derived.Deep.CutBlock
import Derived.Test.YtkgbhlcbjflnlaaZBs
namespace Go.Proofs.Ytkgbhlcbjflnlaa.Fl
open Go Go.RowKit Go.Proofs.YtkgbhlcbjflnlaaW.PrintWords Go.Proofs.YtkgbhlcbjflnlaaW.PrintLast Go.Proofs.YtkgbhlcbjflnlaaW.PrintMore Go.Proofs.Ytkgbhlcbjflnlaa.Mth Go.Proofs.Ytkgbhlcbjflnlaa.P Go.Proofs.Ytkgbhlcbjflnlaa.Own Go.Proofs
set_option linter.unusedVariables false
set_option linter.unusedSimpArgs false
/-! ### The document's Apply -/
def outS (C:Cfg) (cl cmd:Int) (t:ByteArray):Option Cfg :=
 if cl=0 then (if (rrxS C.F cmd t).2=true then some { C with F:=(rrxS C.F cmd t).1 } else none) else
 if cl=1 then (if (rmacS C.F cmd t).2=true then some { C with F:=(rmacS C.F cmd t).1 } else none) else
 if cl=2 then (if t.size=2∧cmd < 2∧argS C.F.vs (nat t 0 2:Nat)=true then some { C with F:={ C.F with vs:=if cmd=0 then insS (nat t 0 2:Nat) C.F.vs else delS (nat t 0 2:Nat) C.F.vs } } else none) else
 if cl=4 then rpS C cmd t else none
def ansS (C:Cfg):Option Cfg→Cfg × Int
 | some D=>if chkF D.F=0 then (D,0) else (C,1)
 | none=>(C,1)
def rapS (C:Cfg) (s:ByteArray):Cfg × Int:=if s.size < 2 then (C,1) else ansS C (outS C (bt s 0) (bt s 1) (s.extract 2 s.size))
def OutP (base:Nat) (C:Cfg) (S:SlC) (Q:Option Cfg) (gd:Nat) (v:Value) (w':World):Prop:=∃ D SD ok,v=.bool ok∧w'.heap[gd]?=some (.cells (cellsC D SD) 29 (0,0))∧(ok=true→Q=some D∧CX base C S w' D SD∧Small D.F)∧(ok=false→Q=none)
theorem OutP.of {base:Nat} {C:Cfg} {S:SlC} {Q:Option Cfg} {gd:Nat} {v:Value} {w':World} (h:∃ D SD ok,v=.bool ok∧w'.heap[gd]?=some (.cells (cellsC D SD) 29 (0,0))∧(ok=true→Q=some D∧CX base C S w' D SD∧Small D.F)∧(ok=false→Q=none)):OutP base C S Q gd v w':=h
theorem rmacsS_len (s:ByteArray):(rmacsS s).1.length≤s.size:=by
 unfold rmacsS
 split
 ·exact Nat.zero_le _
 ·dsimp only
  rw [chunks_length]
  omega
theorem rmac_small (F:Flt) (cmd:Int) (s:ByteArray) (h:Small F) (hs:s.size≤1000):Small (rmacS F cmd s).1:=by
 unfold rmacS
 split
 ·exact ⟨h.1,h.2.1,h.2.2⟩
 ·refine ⟨?_,?_,h.2.2⟩
  ·show (rmacsS s).1.length≤_
   have:=rmacsS_len s;omega
  ·show (rmacsS (rmacsS s).2.1).1.length≤_
   have:=rmacsS_len (rmacsS s).2.1
   have:=rmacs_rest s
   omega
theorem rrx_lists (F:Flt) (cmd:Int) (s:ByteArray):(rrxS F cmd s).1.us=F.us∧(rrxS F cmd s).1.ms=F.ms∧(rrxS F cmd s).1.vs=F.vs:=by
 unfold rrxS
 split
 ·exact rx_lists _ _ _
 ·exact ⟨rfl,rfl,rfl⟩
theorem rpS_F {C D:Cfg} {cmd:Int} {s:ByteArray} (h:rpS C cmd s=some D):D.F=C.F:=by
 unfold rpS at h
 split at h
 ·split at h
  ·cases h;rfl
  ·cases h
 ·split at h
  ·cases h;rfl
  ·cases h
theorem byte_at (s:ByteArray) (i:Nat) (h:i < s.size):(((s[i]'h).toNat:Nat):Int)=bt s (i:Int):=by
 rw [bt_eq]
 congr 1
 have h2:i < (B s).length:=by rw [B_length];exact h
 rw [List.getD_eq_getElem?_getD,List.getElem?_eq_getElem h2]
 simp [B]
 rfl
theorem res10 (tmps:Array Value) (w:World) (g:Nat) (c0 c1 c2 c3 c4 c5 c6 c7 c8 c9 c10 c11 c12 c13 c14 c15 c16 c17 m5:Value) (hp:tmps.getD 4 undef=.pointer (some ⟨g,0,none⟩)) (h5:tmps.getD 5 undef=m5) (hg:w.heap[g]?=some (.cells #[c0,c1,c2,c3,c4,c5,c6,c7,c8,c9,c10,c11,c12,c13,c14,c15,c16,c17] 29 (0,0))) :
  (results Try.f10 tmps).run Try.prog w=.ok (.tuple #[.agg #[c0,c1,c2,c3,c4,c5,c6,c7,c8,c9,c10,c11,c12,c13,c14,c15,c16,c17],m5]) w:=by
 have q_:tmps[4]?.getD undef=.pointer (some ⟨g,0,none⟩):=by simpa using hp
 have r5:tmps[5]?.getD undef=m5:=by simpa using h5
 have l_:=run_loadVar_row (P:=Try.prog) w g 29 29 _ (0,0) _ hg Try.underlying29 rfl (by kernel_rfl)
 simp [results,Try.results10,q_,r5,asAddr,l_]
set_option maxHeartbeats 16000000 in
set_option maxRecDepth 100000 in
theorem rap_c (C:Cfg) (S:SlC) (s:ByteArray) (w:World) (h:CV w C S) (hs:SmallC C) (hv:C.F.vs.length≤90000) (hsz:s.size≤1000) :
  Calls Try.prog 10 #[.agg (cellsC C S),.string s] w fun e w'=>∃ S',e=.returned (.tuple #[.agg (cellsC (rapS C s).1 S'),.int .i64 (rapS C s).2])∧CV w' (rapS C s).1 S'∧Below w.heap.size w w':=by
 obtain ⟨R,hR⟩:∃ R,rapS C s=R:=⟨_,rfl⟩
 rw [hR]
 have HR:=amk hR
 have HV:=amk h
 have HS:=amk hs
 have HVL:=amk hv
 have HZ:=amk hsz
 clear h hs hv hsz hR
 have hu25:=Try.underlying25
 have hu27:=Try.underlying27
 have hu29:=Try.underlying29
 go_enter Try.func10,Try.ntmps10
 go_upto_region 1 with (fail)
 obtain ⟨w_1,hw_gc⟩:∃ w_,w.alloc (.cells (cellsC C S) 29)=w_:=⟨_,rfl⟩
 rw [hw_gc]
 obtain ⟨w_2,hw_gr⟩:∃ w_,w_1.alloc (.cells zeroC 29)=w_:=⟨_,rfl⟩
 rw [hw_gr]
 have z_gc:w_1.heap.size=w.heap.size+1:=by rw [← hw_gc];simp
 have ha_:Below w.heap.size w w_1:=by rw [← hw_gc];exact bwa (Below.refl _ _) _
 have BX1:Aside0 (w_1.heap[w.heap.size]?=some (.cells (cellsC C S) 29 (0,0))):=⟨by rw [← hw_gc];exact blk_new w _⟩
 have hgB:w.heap.size≤w.heap.size:=((Below.refl w.heap.size w)).size
 clear hw_gc
 obtain ⟨gc,hg_⟩:∃ g_,w.heap.size=g_:=⟨_,rfl⟩
 have G_gc:Aside0 (w.heap.size≤gc):=⟨Nat.le_trans hgB (Nat.le_of_eq hg_)⟩
 rw [hg_] at BX1 z_gc
 (try rw [hg_])
 clear hgB
 clear hg_
 have B3:=amk (bws (Below.refl w.heap.size w) ha_)
 clear ha_ 
 have z_gr:w_2.heap.size=w_1.heap.size+1:=by rw [← hw_gr];simp
 have ha_:Below w_1.heap.size w_1 w_2:=by rw [← hw_gr];exact bwa (Below.refl _ _) _
 have BX2:Aside0 (w_2.heap[w_1.heap.size]?=some (.cells zeroC 29 (0,0))):=⟨by rw [← hw_gr];exact blk_new w_1 _⟩
 have hgB:w.heap.size≤w_1.heap.size:=(B3.out).size
 have hl_gc:gc < w_1.heap.size:=blk_lt BX1.out
 clear hw_gr
 obtain ⟨gr,hg_⟩:∃ g_,w_1.heap.size=g_:=⟨_,rfl⟩
 have G_gr:Aside0 (w.heap.size≤gr):=⟨Nat.le_trans hgB (Nat.le_of_eq hg_)⟩
 rw [hg_] at BX2 z_gr hl_gc
 have E_gc_gr:=amk hl_gc
 clear hl_gc
 (try rw [hg_])
 clear hgB
 have zz_:gc+1=gr:=by omega
 (try rw [zz_])
 clear zz_
 clear hg_
 have B4:=amk (bws B3.out ha_)
 have K4_gc:=amk (bkb BX1.out ha_)
 clear ha_ B3 BX1
 clear z_gc z_gr
 by_cases h2:s.size < 2
 ·have d2:decide ((s.size:Int) < 2)=true:=decide_eq_true (by omega)
  have d3:decide (s.size < 2)=true:=decide_eq_true h2
  have H2:=amk h2
  clear h2
  go_wp2_with (first | (refine wpList_load_row rfl 29 (.tmp 2) rfl gc rfl 29 (cellsC C S) (0,0) _ K4_gc.out Try.underlying29 rfl (by kernel_rfl) ?_) | (refine wpList_store_row rfl 29 (.tmp 4) (.tmp 16) rfl gr (cellsC C S) rfl rfl 29 zeroC BX2.out (by kernel_rfl) rfl (by kernel_rfl) ?_))
  obtain ⟨w_5,hw_⟩:∃ w_,w_2.setRow gr (cellsC C S)=w_:=⟨_,rfl⟩
  have hu_:Upd w_2 w_5 (fun k=>k=gr):=by rw [← hw_];exact Upd.setRow (Upd.refl w_2 (fun k=>k=gr)) (.inl rfl) _
  have kf_:w_5.heap[gr]?=some (.cells (cellsC C S) 29 (0,0)):=by rw [← hw_];exact setRow_heap w_2 gr _ (cellsC C S) 29 (0,0) BX2.out
  rw [hw_]
  clear hw_
  have K6_gr:=amk (kf_)
  have B6:=amk (B4.out.trans (hu_.toBelow (B:=w.heap.size) (fun k hk=>by rw [hk];exact G_gr.out) (B4.out).size))
  have K6_gc:=amk (hu_.blk K4_gc.out (by have:=E_gc_gr.out;omega))
  clear hu_ B4 K4_gc BX2
  clear kf_
  have er:R=(C,1):=by rw [← HR.out];unfold rapS;rw [if_pos H2.out]
  subst er
  exact bodyPost_ret (res10 _ _ gr _ _ _ _ _ _ _ _ _ _ _ _ _ _ _ _ _ _ _ rfl rfl K6_gr.out) rfl ⟨S,rfl,HV.out.below B6.out,B6.out⟩
 have d2:decide ((s.size:Int) < 2)=false:=decide_eq_false (by omega)
 have d3:decide (s.size < 2)=false:=decide_eq_false h2
 have H2:=amk h2
 have l0:0 < s.size:=by omega
 have l1:1 < s.size:=by omega
 obtain ⟨cl,hcl⟩:∃ x:Int,(((s[0]'l0).toNat:Nat):Int)=x:=⟨_,rfl⟩
 obtain ⟨cmd,hcmd⟩:∃ x:Int,(((s[1]'l1).toNat:Nat):Int)=x:=⟨_,rfl⟩
 obtain ⟨t,ht⟩:∃ t,s.extract 2 s.size=t:=⟨_,rfl⟩
 have ecl:bt s 0=cl:=by rw [← hcl];exact (byte_at s 0 l0).symm
 have ecm:bt s 1=cmd:=by rw [← hcmd];exact (byte_at s 1 l1).symm
 have lcm:0≤cmd:=by rw [← hcmd];omega
 have lt_:t.size≤1000:=by rw [← ht];have:=HZ.out;simp;omega
 obtain ⟨Q,hQ⟩:∃ Q,outS C cl cmd t=Q:=⟨_,rfl⟩
 have hRQ:R=ansS C Q:=by
  rw [← HR.out]
  unfold rapS
  rw [if_neg h2,ecl,ecm,ht,hQ]
 have HRQ:=amk hRQ
 have HQ:=amk hQ
 have HT:=amk lt_
 have HCM:=amk lcm
 have hw0:IntKind.i64.wrap cl=cl:=by rw [IntKind.wrap_i64,← hcl];have:=UInt8.toNat_lt (s[0]'l0);omega
 have hw1:IntKind.i64.wrap cmd=cmd:=by rw [IntKind.wrap_i64,← hcmd];have:=UInt8.toNat_lt (s[1]'l1);omega
 have g0:((0:Int) < (s.size:Int))=True:=eq_true (by omega)
 have g1:((1:Int) < (s.size:Int))=True:=eq_true (by omega)
 have f1:(0 < s.size)=True:=eq_true l0
 have f2:(1 < s.size)=True:=eq_true l1
 have f3:decide ((0:Int) < (s.size:Int))=true:=decide_eq_true (by omega)
 have f4:decide ((1:Int) < (s.size:Int))=true:=decide_eq_true (by omega)
 have f5:(2≤s.size)=True:=eq_true (by omega)
 have f6:((2:Int)≤(s.size:Int))=True:=eq_true (by omega)
 have f7:decide ((2:Int)≤(s.size:Int))=true:=decide_eq_true (by omega)
 clear ecl ecm lcm lt_ hRQ hQ h2
 go_upto_region 4 with (first | (refine wpList_load_row rfl 29 (.tmp 2) rfl gc rfl 29 (cellsC C S) (0,0) _ K4_gc.out Try.underlying29 rfl (by kernel_rfl) ?_) | (refine wpList_store_row rfl 29 (.tmp 6) (.tmp 17) rfl w_2.heap.size (cellsC C S) rfl rfl 29 zeroC (blk_new w_2 _) (by kernel_rfl) rfl (by kernel_rfl) ?_))
 obtain ⟨w_7,hw_⟩:∃ x,(w_2.alloc (.cells zeroC 29)).setRow w_2.heap.size (cellsC C S)=x:=⟨_,rfl⟩
 have hb_:Below w_2.heap.size w_2 w_7:=by
  rw [← hw_]
  exact (bwa (Below.refl _ _) _).trans ((Upd.setRow (Upd.refl (w_2.alloc (.cells zeroC 29)) (fun k=>k=w_2.heap.size)) (.inl rfl) (cellsC C S)).toBelow (B:=w_2.heap.size) (fun k hk=>by rw [hk];exact Nat.le_refl _) (by simp))
 have hblk_:w_7.heap[w_2.heap.size]?=some (.cells (cellsC C S) 29 (0,0)):=by
  rw [← hw_]
  exact setRow_heap _ w_2.heap.size _ (cellsC C S) 29 (0,0) (blk_new w_2 _)
 rw [hw_]
 clear hw_
 obtain ⟨gd,hg_⟩:∃ x,w_2.heap.size=x:=⟨_,rfl⟩
 rw [hg_] at hblk_
 have hge_:w_2.heap.size≤gd:=Nat.le_of_eq hg_
 (try rw [hg_])
 clear hg_
 have E_gc_gd:=amk (Nat.lt_of_lt_of_le (blk_lt K4_gc.out) hge_)
 have E_gr_gd:=amk (Nat.lt_of_lt_of_le (blk_lt BX2.out) hge_)
 have G_gd:=amk (Nat.le_trans (B4.out).size hge_)
 have BX_gd:=amk hblk_
 have B8:=amk (bws B4.out hb_)
 have K8_gc:=amk (bkb K4_gc.out hb_)
 have K8_gr:=amk (bkb BX2.out hb_)
 clear hb_ B4 K4_gc BX2
 clear hblk_ hge_
 refine start_ (n:=11) (S:=fun w'=>Below w_7.heap.size w_7 w') (ds:=[]) (bsq 11 0) (by kernel_rfl) rfl rfl (bwd (Below.refl _ _)) (fun hHeld=>?_)
 refine pure_ (i:=0) (N:=some 18) (v:=?_) (a':=?_) (bsq 11 1) rfl rfl (by kernel_rfl) (fun _ _ _ h=>h) (Or.inl ⟨by rfl,?_⟩) ?_ ?_
 rotate_left
 ·intro w'
  go_simp
  with_reducible rfl
 rotate_left
 ·simp only [Act.put,bq1,bq2,bq3,i64_w,i32_w]
  rfl
 refine pure_ (i:=3) (N:=some 21) (v:=?_) (a':=?_) (bsq 11 9) rfl rfl (by kernel_rfl) (fun _ _ _ h=>h) (Or.inl ⟨by rfl,?_⟩) ?_ ?_
 rotate_left
 ·intro w'
  go_simp
  with_reducible rfl
 rotate_left
 ·simp only [Act.put,bq1,bq2,bq3,i64_w,i32_w]
  rfl
 refine pure_ (i:=6) (N:=some 24) (v:=?_) (a':=?_) (bsq 11 73) rfl rfl (by kernel_rfl) (fun _ _ _ h=>h) (Or.inl ⟨by rfl,?_⟩) ?_ ?_
 rotate_left
 ·intro w'
  go_simp
  with_reducible rfl
 rotate_left
 ·simp only [Act.put,bq1,bq2,bq3,i64_w,i32_w]
  rfl
 refine pure_ (i:=7) (N:=some 25) (v:=?_) (a':=?_) (bsq 11 201) rfl rfl (by kernel_rfl) (fun _ _ _ h=>h) (Or.inl ⟨by rfl,?_⟩) ?_ ?_
 rotate_left
 ·intro w'
  go_simp
  with_reducible rfl
 rotate_left
 ·simp only [Act.put,bq1,bq2,bq3,i64_w,i32_w]
  rfl
 refine take_ (i:=1) (N:=some 19) (v:=?_) (a':=?_) (bsq 11 203) rfl rfl (by kernel_rfl) (fun _ _ _ h=>h) (Or.inl ⟨by rfl,?_⟩) hHeld ?_ ?_
 rotate_left
 ·intro w' s0
  go_simp
  with_reducible rfl
 rotate_left
 ·simp only [Act.put,bq1,bq2,bq3,i64_w,i32_w]
  rfl
 refine pure_ (i:=2) (N:=some 20) (v:=?_) (a':=?_) (bsq 11 207) rfl rfl (by kernel_rfl) (fun _ _ _ h=>h) (Or.inl ⟨by rfl,?_⟩) ?_ ?_
 rotate_left
 ·intro w'
  go_simp
  with_reducible rfl
 rotate_left
 ·simp only [Act.put,bq1,bq2,bq3,i64_w,i32_w]
  rfl
 refine pure_ (i:=8) (N:=some 8) (v:=?_) (a':=?_) (bsq 11 463) rfl rfl (by kernel_rfl) (fun _ _ _ h=>h) (Or.inl ⟨by rfl,?_⟩) ?_ ?_
 rotate_left
 ·intro w'
  go_simp
  with_reducible rfl
 rotate_left
 ·simp only [Act.put,bq1,bq2,bq3,i64_w,i32_w]
  rfl
 refine take_ (i:=4) (N:=some 22) (v:=?_) (a':=?_) (bsq 11 479) rfl rfl (by kernel_rfl) (fun _ _ _ h=>h) (Or.inl ⟨by rfl,?_⟩) hHeld ?_ ?_
 rotate_left
 ·intro w' s0
  go_simp
  with_reducible rfl
 rotate_left
 ·simp only [Act.put,bq1,bq2,bq3,i64_w,i32_w]
  rfl
 refine pure_ (i:=5) (N:=some 23) (v:=?_) (a':=?_) (bsq 11 511) rfl rfl (by kernel_rfl) (fun _ _ _ h=>h) (Or.inl ⟨by rfl,?_⟩) ?_ ?_
 rotate_left
 ·intro w'
  go_simp
  with_reducible rfl
 rotate_left
 ·simp only [Act.put,bq1,bq2,bq3,i64_w,i32_w]
  rfl
 refine pure_ (i:=9) (N:=some 9) (v:=?_) (a':=?_) (bsq 11 1023) rfl rfl (by kernel_rfl) (fun _ _ _ h=>h) (Or.inl ⟨by rfl,?_⟩) ?_ ?_
 rotate_left
 ·intro w'
  go_simp
  with_reducible rfl
 rotate_left
 ·simp only [Act.put,bq1,bq2,bq3,i64_w,i32_w]
  rfl
 refine pure_ (i:=10) (N:=some 10) (v:=?_) (a':=?_) (bsq 11 2047) rfl rfl (by kernel_rfl) (fun _ _ _ h=>h) (Or.inl ⟨by rfl,?_⟩) ?_ ?_
 rotate_left
 ·intro w'
  go_simp
  with_reducible rfl
 rotate_left
 ·simp only [Act.put,bq1,bq2,bq3,i64_w,i32_w]
  rfl
 refine done_ (by kernel_rfl) ?_
 have hb_:=bwd (Below.refl w_7.heap.size w_7)
 obtain ⟨w_9,hw_⟩:∃ x,w_7.drew=x:=⟨_,rfl⟩
 rw [hw_] at hb_ ⊢
 clear hw_
 have B10:=amk (bws B8.out hb_)
 have K10_gc:=amk (bkb K8_gc.out hb_)
 have K10_gr:=amk (bkb K8_gr.out hb_)
 have K10_gd:=amk (bkb BX_gd.out hb_)
 clear hb_ B8 K8_gc K8_gr BX_gd
 clear f1 f2 f3 f4 f5 f6 f7 hcl hcmd ht d2 d3 hw0 hw1 g0 g1
 go_upto_block 0 with fail
 go_cut [7] (fun v7 w'=>OutP w.heap.size C S Q gd v7 w'∧Aside0 (w'.heap[gc]?=some (.cells (cellsC C S) 29 (0,0)))∧Aside0 (w'.heap[gr]?=some (.cells zeroC 29 (0,0)))∧Aside0 (Below w.heap.size w w'))
 case first =>
  by_cases k0:cl=0
  ·have d0:(cl == 0)=true:=beq_iff_eq.2 k0
   have K0:=amk k0
   clear k0
   obtain ⟨⟨F',ok⟩,e1⟩:∃ x,rrxS C.F cmd t=x:=⟨_,rfl⟩
   have N29:∀ w,Calls Try.prog 29 #[.agg (cellsF C.F S.S),.int .i64 cmd,.string t] w fun e w'=>e=.returned (.tuple #[.agg (cellsF F' S.S),.bool ok])∧Below w.heap.size w w':=fun w=>by
    have q:=rrx_c C.F S.S cmd t w
    rw [e1] at q
    exact q
   have LF:Aside0 (F'.us=C.F.us∧F'.ms=C.F.ms∧F'.vs=C.F.vs):=⟨by have q:=rrx_lists C.F cmd t;rw [e1] at q;exact q⟩
   have E1:=amk e1
   clear e1
   go_wp2_with (refine wpList_load_part (by rfl) 25 (.tmp 30) rfl gc 0 rfl 29 (cellsC C S) (cellsF C.F S.S) (0,0) _ K10_gc.out Try.underlying25 rfl (by kernel_rfl) rfl ?_)
   refine (N29 _).mono ?_
   rintro e w5 ⟨rfl,hb_⟩
   clear N29
   have B11:=amk (bws B10.out hb_)
   have K11_gc:=amk (bkb K10_gc.out hb_)
   have K11_gr:=amk (bkb K10_gr.out hb_)
   have K11_gd:=amk (bkb K10_gd.out hb_)
   clear hb_ B10 K10_gc K10_gr K10_gd
   go_wp2_with (refine wpList_store_part (by rfl) 25 (.tmp 37) (.tmp 35) rfl gd 0 (cellsF F' S.S) rfl rfl 29 (cellsC C S) (cellsC { C with F:=F' } ⟨S.S,S.A,S.c⟩) K11_gd.out (by kernel_rfl) (Nat.le_of_ble_eq_true rfl) (by kernel_rfl) rfl ?_)
   obtain ⟨w_12,hw_⟩:∃ w_,w5.setRow gd #[.string F'.m,.bool F'.b1,.bool F'.b2,.bool F'.b3,.bool F'.b4,.bool F'.b5,.bool F'.b6,.slice S.S.A7 F'.us.length S.S.c7,.slice S.S.A8 F'.ms.length S.S.c8,.bool F'.b9,.slice S.S.A10 F'.vs.length S.S.c10,.int .i64 C.p,.int .i64 C.mx,.bool C.on,.int .i64 C.kn,.slice S.A C.tab.length S.c,.string C.key,.int .i64 C.df]=w_:=⟨_,rfl⟩
   have hu_:Upd w5 w_12 (fun k=>k=gd):=by rw [← hw_];exact Upd.setRow (Upd.refl w5 (fun k=>k=gd)) (.inl rfl) _
   have kf_:w_12.heap[gd]?=some (.cells #[.string F'.m,.bool F'.b1,.bool F'.b2,.bool F'.b3,.bool F'.b4,.bool F'.b5,.bool F'.b6,.slice S.S.A7 F'.us.length S.S.c7,.slice S.S.A8 F'.ms.length S.S.c8,.bool F'.b9,.slice S.S.A10 F'.vs.length S.S.c10,.int .i64 C.p,.int .i64 C.mx,.bool C.on,.int .i64 C.kn,.slice S.A C.tab.length S.c,.string C.key,.int .i64 C.df] 29 (0,0)):=by rw [← hw_];exact setRow_heap w5 gd _ #[.string F'.m,.bool F'.b1,.bool F'.b2,.bool F'.b3,.bool F'.b4,.bool F'.b5,.bool F'.b6,.slice S.S.A7 F'.us.length S.S.c7,.slice S.S.A8 F'.ms.length S.S.c8,.bool F'.b9,.slice S.S.A10 F'.vs.length S.S.c10,.int .i64 C.p,.int .i64 C.mx,.bool C.on,.int .i64 C.kn,.slice S.A C.tab.length S.c,.string C.key,.int .i64 C.df] 29 (0,0) K11_gd.out
   rw [hw_]
   clear hw_
   have K13_gd:=amk (kf_)
   have B13:=amk (B11.out.trans (hu_.toBelow (B:=w.heap.size) (fun k hk=>by rw [hk];exact G_gd.out) (B11.out).size))
   have K13_gc:=amk (hu_.blk K11_gc.out (by have:=E_gc_gd.out;omega))
   have K13_gr:=amk (hu_.blk K11_gr.out (by have:=E_gr_gd.out;omega))
   clear hu_ B11 K11_gc K11_gr K11_gd
   clear kf_
   go_meet
   case rel=>exact ⟨OutP.of ⟨{ C with F:=F' },S,ok,rfl,K13_gd.out,fun e=>⟨by rw [← HQ.out];unfold outS;rw [if_pos K0.out,E1.out];exact if_pos e,⟨FX.refl _ _ _ _ _ LF.out.1 LF.out.2.1 LF.out.2.2,.inl ⟨rfl,rfl,rfl⟩⟩,by have q:=HS.out.1;exact ⟨by rw [show ({ C with F:=F' }:Cfg).F.us=C.F.us from LF.out.1];exact q.1,by rw [show ({ C with F:=F' }:Cfg).F.ms=C.F.ms from LF.out.2.1];exact q.2.1,by rw [show ({ C with F:=F' }:Cfg).F.vs=C.F.vs from LF.out.2.2];exact q.2.2⟩⟩,fun e=>by rw [← HQ.out];unfold outS;rw [if_pos K0.out,E1.out];exact if_neg (fun q=>Bool.false_ne_true (e.symm.trans q))⟩,K13_gc,K13_gr,B13⟩
  have d0:(cl == 0)=false:=beq_eq_false_iff_ne.2 k0
  have K0:=amk k0
  clear k0
  by_cases k1:cl=1
  ·have d1:(cl == 1)=true:=beq_iff_eq.2 k1
   have K1:=amk k1
   clear k1
   obtain ⟨⟨F',ok⟩,e1⟩:∃ x,rmacS C.F cmd t=x:=⟨_,rfl⟩
   have N30:∀ w,FV w C.F S.S→Calls Try.prog 30 #[.agg (cellsF C.F S.S),.int .i64 cmd,.string t] w fun e w'=>∃ S',e=.returned (.tuple #[.agg (cellsF F' S'),.bool ok])∧FX w.heap.size C.F S.S w' F' S'∧Below w.heap.size w w':=fun w h1=>by
    have q:=rmac_c C.F S.S cmd t w h1 (by have:=HT.out;omega)
    rw [e1] at q
    exact q
   have LF:Aside0 (Small F'):=⟨by have q:=rmac_small C.F cmd t HS.out.1 HT.out;rw [e1] at q;exact q⟩
   have E1:=amk e1
   clear e1
   go_wp2_with (refine wpList_load_part (by rfl) 25 (.tmp 41) rfl gc 0 rfl 29 (cellsC C S) (cellsF C.F S.S) (0,0) _ K10_gc.out Try.underlying25 rfl (by kernel_rfl) rfl ?_)
   refine (N30 _ (HV.out.f.below B10.out)).mono ?_
   rintro e w5 ⟨S',rfl,ho,hb_⟩
   have OX:=amk (ho.weaken (B10.out).size)
   clear N30 ho
   have B14:=amk (bws B10.out hb_)
   have K14_gc:=amk (bkb K10_gc.out hb_)
   have K14_gr:=amk (bkb K10_gr.out hb_)
   have K14_gd:=amk (bkb K10_gd.out hb_)
   clear hb_ B10 K10_gc K10_gr K10_gd
   go_wp2_with (refine wpList_store_part (by rfl) 25 (.tmp 48) (.tmp 46) rfl gd 0 (cellsF F' S') rfl rfl 29 (cellsC C S) (cellsC { C with F:=F' } ⟨S',S.A,S.c⟩) K14_gd.out (by kernel_rfl) (Nat.le_of_ble_eq_true rfl) (by kernel_rfl) rfl ?_)
   obtain ⟨w_15,hw_⟩:∃ w_,w5.setRow gd #[.string F'.m,.bool F'.b1,.bool F'.b2,.bool F'.b3,.bool F'.b4,.bool F'.b5,.bool F'.b6,.slice S'.A7 F'.us.length S'.c7,.slice S'.A8 F'.ms.length S'.c8,.bool F'.b9,.slice S'.A10 F'.vs.length S'.c10,.int .i64 C.p,.int .i64 C.mx,.bool C.on,.int .i64 C.kn,.slice S.A C.tab.length S.c,.string C.key,.int .i64 C.df]=w_:=⟨_,rfl⟩
   have hu_:Upd w5 w_15 (fun k=>k=gd):=by rw [← hw_];exact Upd.setRow (Upd.refl w5 (fun k=>k=gd)) (.inl rfl) _
   have kf_:w_15.heap[gd]?=some (.cells #[.string F'.m,.bool F'.b1,.bool F'.b2,.bool F'.b3,.bool F'.b4,.bool F'.b5,.bool F'.b6,.slice S'.A7 F'.us.length S'.c7,.slice S'.A8 F'.ms.length S'.c8,.bool F'.b9,.slice S'.A10 F'.vs.length S'.c10,.int .i64 C.p,.int .i64 C.mx,.bool C.on,.int .i64 C.kn,.slice S.A C.tab.length S.c,.string C.key,.int .i64 C.df] 29 (0,0)):=by rw [← hw_];exact setRow_heap w5 gd _ #[.string F'.m,.bool F'.b1,.bool F'.b2,.bool F'.b3,.bool F'.b4,.bool F'.b5,.bool F'.b6,.slice S'.A7 F'.us.length S'.c7,.slice S'.A8 F'.ms.length S'.c8,.bool F'.b9,.slice S'.A10 F'.vs.length S'.c10,.int .i64 C.p,.int .i64 C.mx,.bool C.on,.int .i64 C.kn,.slice S.A C.tab.length S.c,.string C.key,.int .i64 C.df] 29 (0,0) K14_gd.out
   rw [hw_]
   clear hw_
   have K16_gd:=amk (kf_)
   have B16:=amk (B14.out.trans (hu_.toBelow (B:=w.heap.size) (fun k hk=>by rw [hk];exact G_gd.out) (B14.out).size))
   have K16_gc:=amk (hu_.blk K14_gc.out (by have:=E_gc_gd.out;omega))
   have K16_gr:=amk (hu_.blk K14_gr.out (by have:=E_gr_gd.out;omega))
   have O16_x:=amk (OX.out.boxT K14_gd.out (by decide) (by decide) hu_)
   clear hu_ B14 K14_gc K14_gr OX K14_gd
   clear kf_
   go_meet
   case rel=>exact ⟨OutP.of ⟨{ C with F:=F' },⟨S',S.A,S.c⟩,ok,rfl,K16_gd.out,fun e=>⟨by rw [← HQ.out];unfold outS;rw [if_neg K0.out,if_pos K1.out,E1.out];exact if_pos e,⟨O16_x.out,.inl ⟨rfl,rfl,rfl⟩⟩,LF.out⟩,fun e=>by rw [← HQ.out];unfold outS;rw [if_neg K0.out,if_pos K1.out,E1.out];exact if_neg (fun q=>Bool.false_ne_true (e.symm.trans q))⟩,K16_gc,K16_gr,B16⟩
  have d1:(cl == 1)=false:=beq_eq_false_iff_ne.2 k1
  have K1:=amk k1
  clear k1
  by_cases k2:cl=2
  ·have d2:(cl == 2)=true:=beq_iff_eq.2 k2
   have K2:=amk k2
   clear k2
   by_cases hc:t.size=2∧cmd < 2
   rotate_left
   ·have HC_:=amk hc
    by_cases ht2:t.size=2
    ·have z1:((t.size:Int) == 2)=true:=beq_iff_eq.2 (by omega)
     have z2:(t.size == 2)=true:=beq_iff_eq.2 ht2
     have z3:decide (cmd < 2)=false:=decide_eq_false (fun q=>hc ⟨ht2,q⟩)
     clear hc ht2
     go_wp2_with fail
     go_meet
     case rel=>exact ⟨OutP.of ⟨C,S,false,rfl,K10_gd.out,fun e=>by (cases e),fun _=>by rw [← HQ.out];unfold outS;rw [if_neg K0.out,if_neg K1.out,if_pos K2.out,if_neg (fun q=>HC_.out ⟨q.1,q.2.1⟩)]⟩,K10_gc,K10_gr,B10⟩
    ·have z1:((t.size:Int) == 2)=false:=beq_eq_false_iff_ne.2 (by omega)
     have z2:(t.size == 2)=false:=beq_eq_false_iff_ne.2 ht2
     clear hc ht2
     go_wp2_with fail
     go_meet
     case rel=>exact ⟨OutP.of ⟨C,S,false,rfl,K10_gd.out,fun e=>by (cases e),fun _=>by rw [← HQ.out];unfold outS;rw [if_neg K0.out,if_neg K1.out,if_pos K2.out,if_neg (fun q=>HC_.out ⟨q.1,q.2.1⟩)]⟩,K10_gc,K10_gr,B10⟩
   have HC_:=amk hc
   have z1:((t.size:Int) == 2)=true:=beq_iff_eq.2 (by omega)
   have z2:(t.size == 2)=true:=beq_iff_eq.2 hc.1
   have z3:decide (cmd < 2)=true:=decide_eq_true hc.2
   obtain ⟨v,hv⟩:∃ v,nat t 0 2=v:=⟨_,rfl⟩
   have NV:∀ w,Calls Try.prog 32 #[.string t,.int .i64 0,.int .i64 2] w fun e w'=>e=.returned (.int .i64 (v:Int))∧Below w.heap.size w w':=fun w=>by
    rw [← hv]
    exact rnum_c t 0 2 (by decide) (by omega) (by omega) w
   obtain ⟨b0,hb0⟩:∃ b,(cmd == 0)=b:=⟨_,rfl⟩
   have XSET:∃ (F2:Flt) (e2:Int),(∀ w',FV w' C.F S.S→Calls Try.prog 31 #[.agg (cellsF C.F S.S),.int .i64 (v:Int),.bool b0] w' fun e w''=>∃ S',e=.returned (.tuple #[.agg (cellsF F2 S'),.int .i64 e2])∧FX w'.heap.size C.F S.S w'' F2 S'∧Below w'.heap.size w' w'')∧(e2=0→outS C cl cmd t=some { C with F:=F2 }∧Small F2)∧(e2 ≠ 0→outS C cl cmd t=none):=by
    unfold outS
    rw [if_neg K0.out,if_neg K1.out,if_pos K2.out,hv]
    cases ha:argS C.F.vs (v:Int)
    ·refine ⟨zeroFlt,1,fun w' h1=>?_,fun e=>absurd e (by decide),fun _=>if_neg (fun q=>by cases q.2.2)⟩
     refine (set_no C.F S.S v b0 w' h1 HS.out.1 ha).mono ?_
     rintro e w'' ⟨rfl,hb⟩
     exact ⟨nilSl,rfl,⟨.inr (own_nil _ _ _ _),.inr (own_nil _ _ _ _),.inr (own_nil _ _ _ _)⟩,hb⟩
    ·have sm:=HS.out.1
     have svl:=HVL.out
     cases b0
     ·have c0:cmd ≠ 0:=beq_eq_false_iff_ne.1 hb0
      refine ⟨{ C.F with vs:=delS v C.F.vs },0,fun w' h1=>set_subx C.F S.S v w' h1 HS.out.1 ha,fun _=>⟨?_,sm.1,sm.2.1,?_⟩,fun e=>absurd rfl e⟩
      ·rw [if_pos ⟨hc.1,hc.2,rfl⟩,if_neg c0]
      ·have:=del_le (v:Int) C.F.vs
       show (delS (v:Int) C.F.vs).length≤100000
       omega
     ·have c0:cmd=0:=beq_iff_eq.1 hb0
      refine ⟨{ C.F with vs:=insS v C.F.vs },0,fun w' h1=>set_addx C.F S.S v w' h1 HS.out.1 ha,fun _=>⟨?_,sm.1,sm.2.1,?_⟩,fun e=>absurd rfl e⟩
      ·rw [if_pos ⟨hc.1,hc.2,rfl⟩,if_pos c0]
      ·have:=ins_le (v:Int) C.F.vs
       show (insS (v:Int) C.F.vs).length≤100000
       omega
   obtain ⟨F2,e2,NSET,hy2,hn2⟩:=XSET
   rw [HQ.out] at hy2 hn2
   have HY2:=amk hy2
   have HN2:=amk hn2
   clear hc hv hy2 hn2
   go_upto_region 12 with fail
   refine start_ (n:=13) (S:=fun w'=>w'.heap[gc]?=some (.cells (cellsC C S) 29 (0,0))∧Below w_9.heap.size w_9 w') (ds:=[11]) (bsq 13 0) (by kernel_rfl) rfl rfl ⟨(bkb K10_gc.out (bwd (Below.refl _ _))),bwd (Below.refl _ _)⟩ (fun hHeld=>?_)
   refine pure_ (i:=0) (N:=some 59) (v:=?_) (a':=?_) (bsq 13 1) rfl rfl (by kernel_rfl) (fun _ _ _ h=>h) (Or.inl ⟨by rfl,?_⟩) ?_ ?_
   rotate_left
   ·intro w'
    go_simp
    with_reducible rfl
   rotate_left
   ·simp only [Act.put,bq1,bq2,bq3,i64_w,i32_w]
    rfl
   refine pure_ (i:=2) (N:=some 61) (v:=?_) (a':=?_) (bsq 13 5) rfl rfl (by kernel_rfl) (fun _ _ _ h=>h) (Or.inl ⟨by rfl,?_⟩) ?_ ?_
   rotate_left
   ·intro w'
    go_simp
    with_reducible rfl
   rotate_left
   ·simp only [Act.put,bq1,bq2,bq3,i64_w,i32_w]
    rfl
   refine pure_ (i:=4) (N:=some 63) (v:=?_) (a':=?_) (bsq 13 21) rfl rfl (by kernel_rfl) (fun _ _ _ h=>h) (Or.inl ⟨by rfl,?_⟩) ?_ ?_
   rotate_left
   ·intro w'
    go_simp
    with_reducible rfl
   rotate_left
   ·simp only [Act.put,bq1,bq2,bq3,i64_w,i32_w]
    rfl
   refine pure_ (i:=5) (N:=some 64) (v:=?_) (a':=?_) (bsq 13 53) rfl rfl (by kernel_rfl) (fun _ _ _ h=>h) (Or.inl ⟨by rfl,?_⟩) ?_ ?_
   rotate_left
   ·intro w'
    go_simp
    with_reducible rfl
   rotate_left
   ·simp only [Act.put,bq1,bq2,bq3,i64_w,i32_w]
    rfl
   refine take_ (i:=1) (N:=some 60) (v:=?_) (a':=?_) (bsq 13 55) rfl rfl (by kernel_rfl) (fun _ _ _ h=>h) (Or.inl ⟨by rfl,?_⟩) hHeld ?_ ?_
   rotate_left
   ·rintro w' ⟨s0,s1⟩
    refine exec_load_part 25 (.tmp 59) ?_ gc 0 ?_ 29 (cellsC C S) (cellsF C.F S.S) (0,0) _ s0 Try.underlying25 rfl (by kernel_rfl) rfl
    ·rfl
    ·rfl
   rotate_left
   ·simp only [Act.put,bq1,bq2,bq3,i64_w,i32_w]
    rfl
   refine join_ (σ:=Sl × Nat) 2 (bsq 13 2047) (fun sg=>[(62,.int .i64 (v:Int)),(65,.tuple #[.agg (cellsF F2 sg.1),.int .i64 e2]),(58,.tuple #[.agg (cellsF F2 sg.1),.int .i64 e2]),(66,.agg (cellsF F2 sg.1)),(67,.int .i64 e2),(11,.pointer (some ⟨sg.2,0,none⟩))]) (fun sg w'=>w'.heap[gc]?=some (.cells (cellsC C S) 29 (0,0))∧Below w_9.heap.size w_9 w'∧FX w_9.heap.size C.F S.S w' F2 sg.1∧w'.heap[sg.2]?=some (.cells #[.string ⟨#[]⟩,.bool false,.bool false,.bool false,.bool false,.bool false,.bool false,.slice none 0 0,.slice none 0 0,.bool false,.slice none 0 0] 25 (0,0))∧w_9.heap.size≤sg.2∧True) ?_ ?_
   rotate_left
   ·intro hCont
    refine two_ (i:=3) (j:=10) (Ni:=some 62) (Nj:=some 11) (bsq 13 63) (bsq 13 1079) rfl rfl rfl rfl (by kernel_rfl) (by decide) (by decide) (fun K hK=>?_) (fun K hK=>?_)
    ·skip
     refine goes_ Try.func32 (by kernel_rfl) rfl #[.string t,.int .i64 0,.int .i64 2] (by rfl) rfl rfl (by simp only [List.map_toArray,List.map_cons,List.map_nil];rfl) ?_
     with_reducible refine (NV _).mono ?_
     rintro e wcc ⟨rfl,hc⟩
     refine ⟨_,rfl,?_⟩
     have HC:=amk hc
     clear hc
     refine hK.out _ _ ⟨(bkb hHeld.1 HC.out),bws hHeld.2 HC.out⟩ (fun hHeld=>?_)
     clear hK K
     refine norm_ (a':=?_) ?_ ?_
     rotate_left
     ·show Act.put _ (some 62) _=_
      simp only [Act.put,bq1,bq2,bq3,i64_w,i32_w]
      rfl
     refine two_ (i:=6) (j:=10) (Ni:=some 65) (Nj:=some 11) (bsq 13 127) (bsq 13 1087) rfl rfl rfl rfl (by kernel_rfl) (by decide) (by decide) (fun K hK=>?_) (fun K hK=>?_)
     ·skip
      refine goes_ Try.func31 (by kernel_rfl) rfl #[.agg (cellsF C.F S.S),.int .i64 (v:Int),.bool b0] (by rfl) rfl rfl (by simp only [List.map_toArray,List.map_cons,List.map_nil];rfl) ?_
      with_reducible refine (NSET _ (HV.out.f.below (bws B10.out (hHeld.2)))).mono ?_
      rintro e wrr ⟨S1,rfl,ho,hr⟩
      refine ⟨_,rfl,?_⟩
      have HR_:=amk hr
      have HO:=amk (ho.weaken (hHeld.2).size)
      clear hr ho
      refine hK.out _ _ ⟨(bkb hHeld.1 HR_.out),bws hHeld.2 HR_.out⟩ (fun hHeld=>?_)
      clear hK K
      refine norm_ (a':=?_) ?_ ?_
      rotate_left
      ·show Act.put _ (some 65) _=_
       simp only [Act.put,bq1,bq2,bq3,i64_w,i32_w]
       rfl
      refine pure_ (i:=7) (N:=some 58) (v:=?_) (a':=?_) (bsq 13 255) rfl rfl (by kernel_rfl) (fun _ _ _ h=>h) (Or.inl ⟨by rfl,?_⟩) ?_ ?_
      rotate_left
      ·intro w'
       go_simp
       with_reducible rfl
      rotate_left
      ·simp only [Act.put,bq1,bq2,bq3,i64_w,i32_w]
       rfl
      refine pure_ (i:=8) (N:=some 66) (v:=?_) (a':=?_) (bsq 13 511) rfl rfl (by kernel_rfl) (fun _ _ _ h=>h) (Or.inl ⟨by rfl,?_⟩) ?_ ?_
      rotate_left
      ·intro w'
       go_simp
       with_reducible rfl
      rotate_left
      ·simp only [Act.put,bq1,bq2,bq3,i64_w,i32_w]
       rfl
      refine pure_ (i:=9) (N:=some 67) (v:=?_) (a':=?_) (bsq 13 1023) rfl rfl (by kernel_rfl) (fun _ _ _ h=>h) (Or.inl ⟨by rfl,?_⟩) ?_ ?_
      rotate_left
      ·intro w'
       go_simp
       with_reducible rfl
      rotate_left
      ·simp only [Act.put,bq1,bq2,bq3,i64_w,i32_w]
       rfl
      refine one_ (i:=10) (N:=some 11) (bsq 13 2047) rfl rfl (by kernel_rfl) (by decide) (fun K hK=>?_)
      refine value_ (w1:=?_) (v:=?_) (by rfl) rfl ?_ ?_
      rotate_left 2
      ·go_simp
       constructor
       ·rfl
       ·rfl
      have KA:=amk (blk_new (wrr) (.cells #[.string ⟨#[]⟩,.bool false,.bool false,.bool false,.bool false,.bool false,.bool false,.slice none 0 0,.slice none 0 0,.bool false,.slice none 0 0] 25))
      have hga:w_9.heap.size≤(wrr).heap.size:=(hHeld.2).size
      have GA:=amk hga
      clear hga
      refine hK.out _ _ ⟨(bkb hHeld.1 (bwa (Below.refl _ _) (.cells #[.string ⟨#[]⟩,.bool false,.bool false,.bool false,.bool false,.bool false,.bool false,.slice none 0 0,.slice none 0 0,.bool false,.slice none 0 0] 25))),bws hHeld.2 (bwa (Below.refl _ _) (.cells #[.string ⟨#[]⟩,.bool false,.bool false,.bool false,.bool false,.bool false,.bool false,.slice none 0 0,.slice none 0 0,.bool false,.slice none 0 0] 25))⟩ (fun hHeld=>?_)
      clear hK K
      refine norm_ (a':=?_) ?_ ?_
      rotate_left
      ·show Act.put _ (some 11) _=_
       simp only [Act.put,bq1,bq2,bq3,i64_w,i32_w]
       rfl
      exact norm_ (by simp only [putAll,Act.put,List.setIfInBounds_toArray,List.set_cons_zero,List.set_cons_succ]) (hCont (S1,(wrr).heap.size) _ ⟨hHeld.1,hHeld.2,(HO.out.below (bwa (Below.refl _ _) (.cells #[.string ⟨#[]⟩,.bool false,.bool false,.bool false,.bool false,.bool false,.bool false,.slice none 0 0,.slice none 0 0,.bool false,.slice none 0 0] 25))),KA.out,GA.out,trivial⟩)
     ·skip
      refine value_ (w1:=?_) (v:=?_) (by rfl) rfl ?_ ?_
      rotate_left 2
      ·go_simp
       constructor
       ·rfl
       ·rfl
      have KA:=amk (blk_new (wcc) (.cells #[.string ⟨#[]⟩,.bool false,.bool false,.bool false,.bool false,.bool false,.bool false,.slice none 0 0,.slice none 0 0,.bool false,.slice none 0 0] 25))
      have hga:w_9.heap.size≤(wcc).heap.size:=(hHeld.2).size
      have GA:=amk hga
      clear hga
      refine hK.out _ _ ⟨(bkb hHeld.1 (bwa (Below.refl _ _) (.cells #[.string ⟨#[]⟩,.bool false,.bool false,.bool false,.bool false,.bool false,.bool false,.slice none 0 0,.slice none 0 0,.bool false,.slice none 0 0] 25))),bws hHeld.2 (bwa (Below.refl _ _) (.cells #[.string ⟨#[]⟩,.bool false,.bool false,.bool false,.bool false,.bool false,.bool false,.slice none 0 0,.slice none 0 0,.bool false,.slice none 0 0] 25))⟩ (fun hHeld=>?_)
      clear hK K
      refine norm_ (a':=?_) ?_ ?_
      rotate_left
      ·show Act.put _ (some 11) _=_
       simp only [Act.put,bq1,bq2,bq3,i64_w,i32_w]
       rfl
      refine one_ (i:=6) (N:=some 65) (bsq 13 1151) rfl rfl (by kernel_rfl) (by decide) (fun K hK=>?_)
      refine goes_ Try.func31 (by kernel_rfl) rfl #[.agg (cellsF C.F S.S),.int .i64 (v:Int),.bool b0] (by rfl) rfl rfl (by simp only [List.map_toArray,List.map_cons,List.map_nil];rfl) ?_
      with_reducible refine (NSET _ (HV.out.f.below (bws B10.out (hHeld.2)))).mono ?_
      rintro e wrr ⟨S1,rfl,ho,hr⟩
      refine ⟨_,rfl,?_⟩
      have HR_:=amk hr
      have HO:=amk (ho.weaken (hHeld.2).size)
      clear hr ho
      have KB:=amk (bkb KA.out HR_.out)
      clear KA
      have KA:=KB
      clear KB
      refine hK.out _ _ ⟨(bkb hHeld.1 HR_.out),bws hHeld.2 HR_.out⟩ (fun hHeld=>?_)
      clear hK K
      refine norm_ (a':=?_) ?_ ?_
      rotate_left
      ·show Act.put _ (some 65) _=_
       simp only [Act.put,bq1,bq2,bq3,i64_w,i32_w]
       rfl
      refine pure_ (i:=7) (N:=some 58) (v:=?_) (a':=?_) (bsq 13 1279) rfl rfl (by kernel_rfl) (fun _ _ _ h=>h) (Or.inl ⟨by rfl,?_⟩) ?_ ?_
      rotate_left
      ·intro w'
       go_simp
       with_reducible rfl
      rotate_left
      ·simp only [Act.put,bq1,bq2,bq3,i64_w,i32_w]
       rfl
      refine pure_ (i:=8) (N:=some 66) (v:=?_) (a':=?_) (bsq 13 1535) rfl rfl (by kernel_rfl) (fun _ _ _ h=>h) (Or.inl ⟨by rfl,?_⟩) ?_ ?_
      rotate_left
      ·intro w'
       go_simp
       with_reducible rfl
      rotate_left
      ·simp only [Act.put,bq1,bq2,bq3,i64_w,i32_w]
       rfl
      refine pure_ (i:=9) (N:=some 67) (v:=?_) (a':=?_) (bsq 13 2047) rfl rfl (by kernel_rfl) (fun _ _ _ h=>h) (Or.inl ⟨by rfl,?_⟩) ?_ ?_
      rotate_left
      ·intro w'
       go_simp
       with_reducible rfl
      rotate_left
      ·simp only [Act.put,bq1,bq2,bq3,i64_w,i32_w]
       rfl
      exact norm_ (by simp only [putAll,Act.put,List.setIfInBounds_toArray,List.set_cons_zero,List.set_cons_succ]) (hCont (S1,(wcc).heap.size) _ ⟨hHeld.1,hHeld.2,HO.out,KA.out,GA.out,trivial⟩)
    ·skip
     refine value_ (w1:=?_) (v:=?_) (by rfl) rfl ?_ ?_
     rotate_left 2
     ·go_simp
      constructor
      ·rfl
      ·rfl
     have KA:=amk (blk_new (w_9.drew) (.cells #[.string ⟨#[]⟩,.bool false,.bool false,.bool false,.bool false,.bool false,.bool false,.slice none 0 0,.slice none 0 0,.bool false,.slice none 0 0] 25))
     have hga:w_9.heap.size≤(w_9.drew).heap.size:=(hHeld.2).size
     have GA:=amk hga
     clear hga
     refine hK.out _ _ ⟨(bkb hHeld.1 (bwa (Below.refl _ _) (.cells #[.string ⟨#[]⟩,.bool false,.bool false,.bool false,.bool false,.bool false,.bool false,.slice none 0 0,.slice none 0 0,.bool false,.slice none 0 0] 25))),bws hHeld.2 (bwa (Below.refl _ _) (.cells #[.string ⟨#[]⟩,.bool false,.bool false,.bool false,.bool false,.bool false,.bool false,.slice none 0 0,.slice none 0 0,.bool false,.slice none 0 0] 25))⟩ (fun hHeld=>?_)
     clear hK K
     refine norm_ (a':=?_) ?_ ?_
     rotate_left
     ·show Act.put _ (some 11) _=_
      simp only [Act.put,bq1,bq2,bq3,i64_w,i32_w]
      rfl
     refine one_ (i:=3) (N:=some 62) (bsq 13 1087) rfl rfl (by kernel_rfl) (by decide) (fun K hK=>?_)
     refine goes_ Try.func32 (by kernel_rfl) rfl #[.string t,.int .i64 0,.int .i64 2] (by rfl) rfl rfl (by simp only [List.map_toArray,List.map_cons,List.map_nil];rfl) ?_
     with_reducible refine (NV _).mono ?_
     rintro e wcc ⟨rfl,hc⟩
     refine ⟨_,rfl,?_⟩
     have HC:=amk hc
     clear hc
     have KB:=amk (bkb KA.out HC.out)
     clear KA
     have KA:=KB
     clear KB
     refine hK.out _ _ ⟨(bkb hHeld.1 HC.out),bws hHeld.2 HC.out⟩ (fun hHeld=>?_)
     clear hK K
     refine norm_ (a':=?_) ?_ ?_
     rotate_left
     ·show Act.put _ (some 62) _=_
      simp only [Act.put,bq1,bq2,bq3,i64_w,i32_w]
      rfl
     refine one_ (i:=6) (N:=some 65) (bsq 13 1151) rfl rfl (by kernel_rfl) (by decide) (fun K hK=>?_)
     refine goes_ Try.func31 (by kernel_rfl) rfl #[.agg (cellsF C.F S.S),.int .i64 (v:Int),.bool b0] (by rfl) rfl rfl (by simp only [List.map_toArray,List.map_cons,List.map_nil];rfl) ?_
     with_reducible refine (NSET _ (HV.out.f.below (bws B10.out (hHeld.2)))).mono ?_
     rintro e wrr ⟨S1,rfl,ho,hr⟩
     refine ⟨_,rfl,?_⟩
     have HR_:=amk hr
     have HO:=amk (ho.weaken (hHeld.2).size)
     clear hr ho
     have KB:=amk (bkb KA.out HR_.out)
     clear KA
     have KA:=KB
     clear KB
     refine hK.out _ _ ⟨(bkb hHeld.1 HR_.out),bws hHeld.2 HR_.out⟩ (fun hHeld=>?_)
     clear hK K
     refine norm_ (a':=?_) ?_ ?_
     rotate_left
     ·show Act.put _ (some 65) _=_
      simp only [Act.put,bq1,bq2,bq3,i64_w,i32_w]
      rfl
     refine pure_ (i:=7) (N:=some 58) (v:=?_) (a':=?_) (bsq 13 1279) rfl rfl (by kernel_rfl) (fun _ _ _ h=>h) (Or.inl ⟨by rfl,?_⟩) ?_ ?_
     rotate_left
     ·intro w'
      go_simp
      with_reducible rfl
     rotate_left
     ·simp only [Act.put,bq1,bq2,bq3,i64_w,i32_w]
      rfl
     refine pure_ (i:=8) (N:=some 66) (v:=?_) (a':=?_) (bsq 13 1535) rfl rfl (by kernel_rfl) (fun _ _ _ h=>h) (Or.inl ⟨by rfl,?_⟩) ?_ ?_
     rotate_left
     ·intro w'
      go_simp
      with_reducible rfl
     rotate_left
     ·simp only [Act.put,bq1,bq2,bq3,i64_w,i32_w]
      rfl
     refine pure_ (i:=9) (N:=some 67) (v:=?_) (a':=?_) (bsq 13 2047) rfl rfl (by kernel_rfl) (fun _ _ _ h=>h) (Or.inl ⟨by rfl,?_⟩) ?_ ?_
     rotate_left
     ·intro w'
      go_simp
      with_reducible rfl
     rotate_left
     ·simp only [Act.put,bq1,bq2,bq3,i64_w,i32_w]
      rfl
     exact norm_ (by simp only [putAll,Act.put,List.setIfInBounds_toArray,List.set_cons_zero,List.set_cons_succ]) (hCont (S1,(w_9).heap.size) _ ⟨hHeld.1,hHeld.2,HO.out,KA.out,GA.out,trivial⟩)
   rintro ⟨S2,gf⟩ wj ⟨h0,h1,hOC,hBlk,hGe,_⟩
   have hHeld:wj.heap[gc]?=some (.cells (cellsC C S) 29 (0,0))∧Below w_9.heap.size w_9 wj:=⟨h0,h1⟩
   have HBL:=amk h1
   have HOC:=amk hOC
   have HBK:=amk hBlk
   have HGE:=amk hGe
   clear hOC hBlk hGe h0 h1
   refine norm_ (a':=?_) ?_ ?_
   rotate_left
   ·simp only [putAll,Act.put,List.setIfInBounds_toArray,List.set_cons_zero,List.set_cons_succ]
    rfl
   refine last_ (i:=11) (N:=none) (bsq 13 4095) rfl rfl (by kernel_rfl) (by decide) (fun K hK=>?_)
   refine skip_ (w1:=?_) (by rfl) rfl ?_ ?_
   rotate_left
   ·refine exec_store_part 25 (.tmp 11) (.tmp 66) ?_ gf 0 (cellsF F2 S2) ?_ ?_ 25 _ (cellsF F2 S2) HBK.out (by kernel_rfl) (Nat.le_of_ble_eq_true rfl) (by kernel_rfl) rfl
    ·rfl
    ·rfl
    ·rfl
   refine hK.out _ _ ?_
   clear hK K
   refine pure_ (i:=12) (N:=some 12) (v:=?_) (a':=?_) (bsq 13 8191) rfl rfl (by kernel_rfl) (fun _ _ _ h=>h) (Or.inl ⟨by rfl,?_⟩) ?_ ?_
   rotate_left
   ·intro w'
    go_simp
    with_reducible rfl
   rotate_left
   ·simp only [Act.put,bq1,bq2,bq3,i64_w,i32_w]
    rfl
   refine done_ (by kernel_rfl) ?_
   have hb_:=HBL.out
   have hblk_:=HBK.out
   have hge_:=HGE.out
   have OV_f:=amk (HOC.out.weaken (B10.out).size)
   clear HBL HBK HGE HOC
   have E_gc_gf:=amk (Nat.lt_of_lt_of_le (blk_lt K10_gc.out) hge_)
   have E_gr_gf:=amk (Nat.lt_of_lt_of_le (blk_lt K10_gr.out) hge_)
   have E_gd_gf:=amk (Nat.lt_of_lt_of_le (blk_lt K10_gd.out) hge_)
   have G_gf:=amk (Nat.le_trans (B10.out).size hge_)
   have BX_gf:=amk hblk_
   have B17:=amk (bws B10.out hb_)
   have K17_gc:=amk (bkb K10_gc.out hb_)
   have K17_gr:=amk (bkb K10_gr.out hb_)
   have K17_gd:=amk (bkb K10_gd.out hb_)
   clear hb_ B10 K10_gc K10_gr K10_gd
   clear hblk_ hge_
   obtain ⟨w_18,hw_⟩:∃ w_,wj.setRow gf #[.string F2.m,.bool F2.b1,.bool F2.b2,.bool F2.b3,.bool F2.b4,.bool F2.b5,.bool F2.b6,.slice S2.A7 F2.us.length S2.c7,.slice S2.A8 F2.ms.length S2.c8,.bool F2.b9,.slice S2.A10 F2.vs.length S2.c10]=w_:=⟨_,rfl⟩
   have hu_:Upd wj w_18 (fun k=>k=gf):=by rw [← hw_];exact Upd.setRow (Upd.refl wj (fun k=>k=gf)) (.inl rfl) _
   have kf_:w_18.heap[gf]?=some (.cells #[.string F2.m,.bool F2.b1,.bool F2.b2,.bool F2.b3,.bool F2.b4,.bool F2.b5,.bool F2.b6,.slice S2.A7 F2.us.length S2.c7,.slice S2.A8 F2.ms.length S2.c8,.bool F2.b9,.slice S2.A10 F2.vs.length S2.c10] 25 (0,0)):=by rw [← hw_];exact setRow_heap wj gf _ #[.string F2.m,.bool F2.b1,.bool F2.b2,.bool F2.b3,.bool F2.b4,.bool F2.b5,.bool F2.b6,.slice S2.A7 F2.us.length S2.c7,.slice S2.A8 F2.ms.length S2.c8,.bool F2.b9,.slice S2.A10 F2.vs.length S2.c10] 25 (0,0) BX_gf.out
   rw [hw_]
   clear hw_
   have K19_gf:=amk (kf_)
   have B19:=amk (B17.out.trans (hu_.toBelow (B:=w.heap.size) (fun k hk=>by rw [hk];exact G_gf.out) (B17.out).size))
   have K19_gc:=amk (hu_.blk K17_gc.out (by have:=E_gc_gf.out;omega))
   have K19_gr:=amk (hu_.blk K17_gr.out (by have:=E_gr_gf.out;omega))
   have K19_gd:=amk (hu_.blk K17_gd.out (by have:=E_gd_gf.out;omega))
   have O19_f:=amk (OV_f.out.boxT BX_gf.out (by decide) (by decide) hu_)
   clear hu_ B17 K17_gc K17_gr K17_gd OV_f BX_gf
   clear kf_
   clear z1 z2 z3 NV NSET hb0
   go_upto_region 14 with (first | (refine wpList_load_row rfl 25 (.tmp 11) rfl gf rfl 25 #[.string F2.m,.bool F2.b1,.bool F2.b2,.bool F2.b3,.bool F2.b4,.bool F2.b5,.bool F2.b6,.slice S2.A7 F2.us.length S2.c7,.slice S2.A8 F2.ms.length S2.c8,.bool F2.b9,.slice S2.A10 F2.vs.length S2.c10] (0,0) _ K19_gf.out Try.underlying25 rfl (by kernel_rfl) ?_) | (refine wpList_store_part (by rfl) 25 (.tmp 69) (.tmp 68) rfl gd 0 (cellsF F2 S2) rfl rfl 29 (cellsC C S) (cellsC { C with F:=F2 } ⟨S2,S.A,S.c⟩) K19_gd.out (by kernel_rfl) (Nat.le_of_ble_eq_true rfl) (by kernel_rfl) rfl ?_))
   obtain ⟨w_20,hw_⟩:∃ w_,w_18.setRow gd #[.string F2.m,.bool F2.b1,.bool F2.b2,.bool F2.b3,.bool F2.b4,.bool F2.b5,.bool F2.b6,.slice S2.A7 F2.us.length S2.c7,.slice S2.A8 F2.ms.length S2.c8,.bool F2.b9,.slice S2.A10 F2.vs.length S2.c10,.int .i64 C.p,.int .i64 C.mx,.bool C.on,.int .i64 C.kn,.slice S.A C.tab.length S.c,.string C.key,.int .i64 C.df]=w_:=⟨_,rfl⟩
   have hu_:Upd w_18 w_20 (fun k=>k=gd):=by rw [← hw_];exact Upd.setRow (Upd.refl w_18 (fun k=>k=gd)) (.inl rfl) _
   have kf_:w_20.heap[gd]?=some (.cells #[.string F2.m,.bool F2.b1,.bool F2.b2,.bool F2.b3,.bool F2.b4,.bool F2.b5,.bool F2.b6,.slice S2.A7 F2.us.length S2.c7,.slice S2.A8 F2.ms.length S2.c8,.bool F2.b9,.slice S2.A10 F2.vs.length S2.c10,.int .i64 C.p,.int .i64 C.mx,.bool C.on,.int .i64 C.kn,.slice S.A C.tab.length S.c,.string C.key,.int .i64 C.df] 29 (0,0)):=by rw [← hw_];exact setRow_heap w_18 gd _ #[.string F2.m,.bool F2.b1,.bool F2.b2,.bool F2.b3,.bool F2.b4,.bool F2.b5,.bool F2.b6,.slice S2.A7 F2.us.length S2.c7,.slice S2.A8 F2.ms.length S2.c8,.bool F2.b9,.slice S2.A10 F2.vs.length S2.c10,.int .i64 C.p,.int .i64 C.mx,.bool C.on,.int .i64 C.kn,.slice S.A C.tab.length S.c,.string C.key,.int .i64 C.df] 29 (0,0) K19_gd.out
   rw [hw_]
   clear hw_
   have K21_gd:=amk (kf_)
   have B21:=amk (B19.out.trans (hu_.toBelow (B:=w.heap.size) (fun k hk=>by rw [hk];exact G_gd.out) (B19.out).size))
   have K21_gc:=amk (hu_.blk K19_gc.out (by have:=E_gc_gd.out;omega))
   have K21_gr:=amk (hu_.blk K19_gr.out (by have:=E_gr_gd.out;omega))
   have K21_gf:=amk (hu_.blk K19_gf.out (by have:=E_gd_gf.out;omega))
   have O21_f:=amk (O19_f.out.boxT K19_gd.out (by decide) (by decide) hu_)
   clear hu_ B19 K19_gc K19_gr K19_gf O19_f K19_gd
   clear kf_
   by_cases ce:e2=0
   ·subst ce
    go_wp2_with fail
    go_meet
    case rel=>exact ⟨OutP.of ⟨{ C with F:=F2 },⟨S2,S.A,S.c⟩,true,rfl,K21_gd.out,fun _=>⟨(HY2.out (by first | rfl | trivial)).1,⟨O21_f.out,.inl ⟨rfl,rfl,rfl⟩⟩,(HY2.out (by first | rfl | trivial)).2⟩,fun e=>by (cases e)⟩,K21_gc,K21_gr,B21⟩
   ·have de:(e2 == 0)=false:=beq_eq_false_iff_ne.2 ce
    have CE:=amk ce
    clear ce
    go_wp2_with fail
    go_meet
    case rel=>exact ⟨OutP.of ⟨{ C with F:=F2 },⟨S2,S.A,S.c⟩,false,rfl,K21_gd.out,fun e=>by (cases e),fun _=>HN2.out CE.out⟩,K21_gc,K21_gr,B21⟩
  have d2:(cl == 2)=false:=beq_eq_false_iff_ne.2 k2
  have K2:=amk k2
  clear k2
  by_cases k4:cl=4
  ·have d4:(cl == 4)=true:=beq_iff_eq.2 k4
   have K4:=amk k4
   clear k4
   go_wp2_with (refine wpList_load_row rfl 29 (.tmp 2) rfl gc rfl 29 (cellsC C S) (0,0) _ K10_gc.out Try.underlying29 rfl (by kernel_rfl) ?_)
   refine (rpr_c C S cmd t _ (HV.out.below B10.out) (by have:=HT.out;omega)).mono ?_
   rintro e w5 ⟨D,SD,ok,rfl,hy,hn,hb_⟩
   have HY5:Aside0 (ok=true→rpS C cmd t=some D∧CX w.heap.size C S w5 D SD):=⟨fun e=>⟨(hy e).1,(hy e).2.weaken (B10.out).size⟩⟩
   have HN5:=amk hn
   clear hy hn
   have B22:=amk (bws B10.out hb_)
   have K22_gc:=amk (bkb K10_gc.out hb_)
   have K22_gr:=amk (bkb K10_gr.out hb_)
   have K22_gd:=amk (bkb K10_gd.out hb_)
   clear hb_ B10 K10_gc K10_gr K10_gd
   go_wp2_with (refine wpList_store_row rfl 29 (.tmp 6) (.tmp 79) rfl gd (cellsC D SD) rfl rfl 29 (cellsC C S) K22_gd.out (by kernel_rfl) rfl (by kernel_rfl) ?_)
   have HX5:Aside0 (ok=true→CX w.heap.size C S (w5.setRow gd (cellsC D SD)) D SD):=⟨fun e=>(HY5.out e).2.boxT K22_gd.out (by decide) (by decide) (Upd.setRow (Upd.refl w5 (fun k=>k=gd)) (.inl rfl) _)⟩
   have HX6:=HX5
   clear HX5
   revert HX6
   obtain ⟨w_23,hw_⟩:∃ w_,w5.setRow gd (cellsC D SD)=w_:=⟨_,rfl⟩
   have hu_:Upd w5 w_23 (fun k=>k=gd):=by rw [← hw_];exact Upd.setRow (Upd.refl w5 (fun k=>k=gd)) (.inl rfl) _
   have kf_:w_23.heap[gd]?=some (.cells (cellsC D SD) 29 (0,0)):=by rw [← hw_];exact setRow_heap w5 gd _ (cellsC D SD) 29 (0,0) K22_gd.out
   rw [hw_]
   clear hw_
   have K24_gd:=amk (kf_)
   have B24:=amk (B22.out.trans (hu_.toBelow (B:=w.heap.size) (fun k hk=>by rw [hk];exact G_gd.out) (B22.out).size))
   have K24_gc:=amk (hu_.blk K22_gc.out (by have:=E_gc_gd.out;omega))
   have K24_gr:=amk (hu_.blk K22_gr.out (by have:=E_gr_gd.out;omega))
   clear hu_ B22 K22_gc K22_gr K22_gd
   clear kf_
   intro HX6
   go_meet
   case rel=>exact ⟨OutP.of ⟨D,SD,ok,rfl,K24_gd.out,fun e=>⟨by rw [← HQ.out];unfold outS;rw [if_neg K0.out,if_neg K1.out,if_neg K2.out,if_pos K4.out];exact (HY5.out e).1,HX6.out e,by rw [rpS_F (HY5.out e).1];exact HS.out.1⟩,fun e=>by rw [← HQ.out];unfold outS;rw [if_neg K0.out,if_neg K1.out,if_neg K2.out,if_pos K4.out];exact HN5.out e⟩,K24_gc,K24_gr,B24⟩
  have d4:(cl == 4)=false:=beq_eq_false_iff_ne.2 k4
  have K4:=amk k4
  clear k4
  go_wp2_with fail
  go_meet
  case rel=>exact ⟨OutP.of ⟨C,S,false,rfl,K10_gd.out,fun e=>by (cases e),fun _=>by rw [← HQ.out];unfold outS;rw [if_neg K0.out,if_neg K1.out,if_neg K2.out,if_neg K4.out]⟩,K10_gc,K10_gr,B10⟩
 case rest =>
  revert wc
  intro wq hcut
  obtain ⟨⟨D,SD,ok,rfl,hd,hy,hno⟩,LC,LR,LB⟩:=hcut
  have LD:=amk hd
  have HY:=amk hy
  have HN:=amk hno
  clear hd hy hno
  cases ok
  ·go_wp2_with (first | (refine wpList_load_row rfl 29 (.tmp 2) rfl gc rfl 29 (cellsC C S) (0,0) _ LC.out Try.underlying29 rfl (by kernel_rfl) ?_) | (refine wpList_store_row rfl 29 (.tmp 4) (.tmp 89) rfl gr (cellsC C S) rfl rfl 29 zeroC LR.out (by kernel_rfl) rfl (by kernel_rfl) ?_))
   obtain ⟨w_1,hw_⟩:∃ w_,wq.setRow gr (cellsC C S)=w_:=⟨_,rfl⟩
   have hu_:Upd wq w_1 (fun k=>k=gr):=by rw [← hw_];exact Upd.setRow (Upd.refl wq (fun k=>k=gr)) (.inl rfl) _
   have kf_:w_1.heap[gr]?=some (.cells (cellsC C S) 29 (0,0)):=by rw [← hw_];exact setRow_heap wq gr _ (cellsC C S) 29 (0,0) LR.out
   rw [hw_]
   clear hw_
   have K2_gr:=amk (kf_)
   have B2:=amk (LB.out.trans (hu_.toBelow (B:=w.heap.size) (fun k hk=>by rw [hk];exact G_gr.out) (LB.out).size))
   have K2_gc:=amk (hu_.blk LC.out (by have:=E_gc_gr.out;omega))
   have K2_gd:=amk (hu_.blk LD.out (by have:=E_gr_gd.out;omega))
   clear hu_ LB LC LD LR
   clear kf_
   have er:R=(C,1):=by rw [← HR.out];rw [HR.out,HRQ.out,HN.out (by first | rfl | trivial)];rfl
   subst er
   exact bodyPost_ret (res10 _ _ gr _ _ _ _ _ _ _ _ _ _ _ _ _ _ _ _ _ _ _ rfl rfl K2_gr.out) rfl ⟨S,rfl,HV.out.below B2.out,B2.out⟩
  obtain ⟨hq,hcv,hsm⟩:=HY.out (by first | rfl | trivial)
  have HQD:=amk hq
  have HCV:=amk hcv
  obtain ⟨z,hz⟩:∃ z,chkF D.F=z:=⟨_,rfl⟩
  have HZZ:=amk hz
  have N34:∀ w',FV w' D.F SD.S→Calls Try.prog 34 #[.agg (cellsF D.F SD.S)] w' fun e w''=>e=.returned (.int .i64 z)∧Below w'.heap.size w' w'':=fun w' h1=>by
   rw [← hz]
   exact rcheck_f D.F SD.S w' h1 hsm
  clear hq hcv hsm hz HY HN
  go_wp2_with (refine wpList_load_part_g (by rfl) 25 (.tmp 84) rfl gd 0 rfl 29 (cellsC D SD) (cellsF D.F SD.S) (0,0) _ LD.out Try.underlying25 rfl (by kernel_rfl) rfl ?_)
  refine (N34 _ (HCV.out.cv HV.out LB.out).f).mono ?_
  rintro e w7 ⟨rfl,hb_⟩
  have HCV2:=amk (HCV.out.below hb_)
  clear N34 HCV
  have B3:=amk (bws LB.out hb_)
  have K3_gc:=amk (bkb LC.out hb_)
  have K3_gr:=amk (bkb LR.out hb_)
  have K3_gd:=amk (bkb LD.out hb_)
  clear hb_ LB LC LR LD
  by_cases cz:z=0
  ·subst cz
   have hb0:=Below.refl w7.heap.size w7
   clear hb0
   go_wp2_with (first | (refine wpList_load_row rfl 29 (.tmp 6) rfl gd rfl 29 (cellsC D SD) (0,0) _ K3_gd.out Try.underlying29 rfl (by kernel_rfl) ?_) | (refine wpList_store_row rfl 29 (.tmp 4) (.tmp 90) rfl gr (cellsC D SD) rfl rfl 29 zeroC K3_gr.out (by kernel_rfl) rfl (by kernel_rfl) ?_))
   skip
   have HX5:=amk (HCV2.out.boxT K3_gr.out (by decide) (by decide) (Upd.setRow (Upd.refl w7 (fun k=>k=gr)) (.inl rfl) (cellsC D SD)))
   revert HX5
   obtain ⟨w_4,hw_⟩:∃ w_,w7.setRow gr (cellsC D SD)=w_:=⟨_,rfl⟩
   have hu_:Upd w7 w_4 (fun k=>k=gr):=by rw [← hw_];exact Upd.setRow (Upd.refl w7 (fun k=>k=gr)) (.inl rfl) _
   have kf_:w_4.heap[gr]?=some (.cells (cellsC D SD) 29 (0,0)):=by rw [← hw_];exact setRow_heap w7 gr _ (cellsC D SD) 29 (0,0) K3_gr.out
   rw [hw_]
   clear hw_
   have K5_gr:=amk (kf_)
   have B5:=amk (B3.out.trans (hu_.toBelow (B:=w.heap.size) (fun k hk=>by rw [hk];exact G_gr.out) (B3.out).size))
   have K5_gc:=amk (hu_.blk K3_gc.out (by have:=E_gc_gr.out;omega))
   have K5_gd:=amk (hu_.blk K3_gd.out (by have:=E_gr_gd.out;omega))
   clear hu_ B3 K3_gc K3_gd K3_gr
   clear kf_
   intro HX5
   have er:R=(D,0):=by rw [HRQ.out,HQD.out];exact if_pos HZZ.out
   subst er
   exact bodyPost_ret (res10 _ _ gr _ _ _ _ _ _ _ _ _ _ _ _ _ _ _ _ _ _ _ rfl rfl K5_gr.out) rfl ⟨SD,rfl,HX5.out.cv HV.out B5.out,B5.out⟩
  ·have dz:(z == 0)=false:=beq_eq_false_iff_ne.2 cz
   go_wp2_with (first | (refine wpList_load_row rfl 29 (.tmp 2) rfl gc rfl 29 (cellsC C S) (0,0) _ K3_gc.out Try.underlying29 rfl (by kernel_rfl) ?_) | (refine wpList_store_row rfl 29 (.tmp 4) (.tmp 89) rfl gr (cellsC C S) rfl rfl 29 zeroC K3_gr.out (by kernel_rfl) rfl (by kernel_rfl) ?_))
   obtain ⟨w_6,hw_⟩:∃ w_,w7.setRow gr (cellsC C S)=w_:=⟨_,rfl⟩
   have hu_:Upd w7 w_6 (fun k=>k=gr):=by rw [← hw_];exact Upd.setRow (Upd.refl w7 (fun k=>k=gr)) (.inl rfl) _
   have kf_:w_6.heap[gr]?=some (.cells (cellsC C S) 29 (0,0)):=by rw [← hw_];exact setRow_heap w7 gr _ (cellsC C S) 29 (0,0) K3_gr.out
   rw [hw_]
   clear hw_
   have K7_gr:=amk (kf_)
   have B7:=amk (B3.out.trans (hu_.toBelow (B:=w.heap.size) (fun k hk=>by rw [hk];exact G_gr.out) (B3.out).size))
   have K7_gc:=amk (hu_.blk K3_gc.out (by have:=E_gc_gr.out;omega))
   have K7_gd:=amk (hu_.blk K3_gd.out (by have:=E_gr_gd.out;omega))
   clear hu_ B3 K3_gc K3_gd K3_gr
   clear kf_
   have er:R=(C,1):=by rw [← HR.out];rw [HR.out,HRQ.out,HQD.out];exact if_neg (fun q=>cz (by rw [← HZZ.out];exact q))
   subst er
   exact bodyPost_ret (res10 _ _ gr _ _ _ _ _ _ _ _ _ _ _ _ _ _ _ _ _ _ _ rfl rfl K7_gr.out) rfl ⟨S,rfl,HV.out.below B7.out,B7.out⟩
end Go.Proofs.Ytkgbhlcbjflnlaa.Fl
