/- Commands and settings: contracts by hand, and the laws over them. -/
import Derived.Test.YtkgbhlcbjflnlaaZOwn
import Derived.Test.YtkgbhlcbjflnlaaZCm
import Derived.Test.YtkgbhlcbjflnlaaZPl4
import Derived.Test.YtkgbhlcbjflnlaaZFN
import Derived.Deep.DeepCutAuto
import Derived.Deep.CutBlock
import Derived.Test.YtkgbhlcbjflnlaaZBs
namespace Go.Proofs.Ytkgbhlcbjflnlaa.Fl
open Go Go.RowKit Go.Proofs.YtkgbhlcbjflnlaaW.PrintWords Go.Proofs.YtkgbhlcbjflnlaaW.PrintLast Go.Proofs.YtkgbhlcbjflnlaaW.PrintMore Go.Proofs.Ytkgbhlcbjflnlaa.Mth Go.Proofs.Ytkgbhlcbjflnlaa.P Go.Proofs.Ytkgbhlcbjflnlaa.Own Go.Proofs
set_option linter.unusedVariables false
set_option linter.unusedSimpArgs false
/-! ### ControlSets -/
/-- What the i-th command leaves. -/
structure QS (C:Cfg) (us ms:List ByteArray) (m:ByteArray) (v p:Nat) (on:Bool) (i:Nat) (D:Cfg):Prop where
 lo:i < 4→D.p=C.p∧D.on=C.on
 q1:i=1→D.F.us.length=us.length∧D.F.ms.length=ms.length
 q2:i=2→D.F.m=m
 q3:i=3→D.F.vs.contains (v:Int)=on
 q4:i=4→D.p=(p:Int)∧D.on=false∧D.F=C.F
theorem SetP.imp {C D:Cfg} {n:Int} {s:ByteArray} {Q R:Cfg→Prop} (h:SetP C D n s Q) (f:Q D→R D):SetP C D n s R:=⟨h.once,h.twice,h.ack,h.chk,h.left,fun e=>f (h.said e)⟩
theorem sets_all (C:Cfg) (us ms:List ByteArray) (m:ByteArray) (n v p:Nat) (on:Bool) (hv:v < 65536) (hp:p < 65536) (hu:∀ u∈us,u.size=6) (hm:∀ u∈ms,u.size=6) (hc:chkF C.F=0) (i:Nat) (hi:i < 5) :
  ∃ D k,SetP C D k ([rxB n on,tableB us ms,macB m,vlanB v on,pairsB p].getD i ⟨#[]⟩) (QS C us ms m v p on i):=by
 match i,hi with
 | 0,_=>obtain ⟨D,k,h⟩:=set_rx C n on hc;exact ⟨D,k,h.imp fun q=>⟨fun _=>q,fun e=>absurd e (by decide),fun e=>absurd e (by decide),fun e=>absurd e (by decide),fun e=>absurd e (by decide)⟩⟩
 | 1,_=>obtain ⟨D,k,h⟩:=set_table C us ms hu hm hc;exact ⟨D,k,h.imp fun q=>⟨fun _=>q.2.2,fun _=>⟨q.1,q.2.1⟩,fun e=>absurd e (by decide),fun e=>absurd e (by decide),fun e=>absurd e (by decide)⟩⟩
 | 2,_=>obtain ⟨D,k,h⟩:=set_mac C m hc;exact ⟨D,k,h.imp fun q=>⟨fun _=>q.2,fun e=>absurd e (by decide),fun _=>q.1,fun e=>absurd e (by decide),fun e=>absurd e (by decide)⟩⟩
 | 3,_=>obtain ⟨D,k,h⟩:=set_vlan C v on hv hc;exact ⟨D,k,h.imp fun q=>⟨fun _=>q.2,fun e=>absurd e (by decide),fun e=>absurd e (by decide),fun _=>q.1,fun e=>absurd e (by decide)⟩⟩
 | 4,_=>obtain ⟨D,k,h⟩:=set_pairs C p hp hc;exact ⟨D,k,h.imp fun q=>⟨fun e=>absurd e (by decide),fun e=>absurd e (by decide),fun e=>absurd e (by decide),fun e=>absurd e (by decide),fun _=>q⟩⟩
set_option maxHeartbeats 200000000 in
set_option maxRecDepth 100000 in
theorem sets_c (C0:Cfg) (S:SlC) (O:Cm) (T:SlM) (w:World) (h:CV w C0 S) (ho:MV w O T) (lu:O.us.length≤8796093021952) (lm:O.ms.length≤8796093021952) (lmac:O.m.size≤140737488351232):Calls Try.prog 6 #[.agg (cellsC C0 S),.agg (cellsM O T)] w fun e w'=>e=.returned (.bool true)∧Below w.heap.size w w':=by
 obtain ⟨C,hC⟩:∃ x,boundC C0=x:=⟨_,rfl⟩
 have NB:∀ w,CV w C0 S→Calls Try.prog 9 #[.agg (cellsC C0 S)] w fun e w'=>e=.returned (.agg (cellsC C S))∧Below w.heap.size w w':=fun w h=>by
  rw [← hC]
  exact bound_c C0 S w h
 have HV0:=amk h
 have HV:Aside0 (CV w C S):=⟨by rw [← hC];exact h.bound⟩
 have HS:Aside0 (SmallC C):=⟨by rw [← hC];exact boundC_small C0⟩
 have HL60:Aside0 (C.F.vs.length≤60):=⟨by rw [← hC];show (C0.F.vs.take 60).length≤60;rw [List.length_take];omega⟩
 have HO:=amk ho
 have LUM:=amk (And.intro lu (And.intro lm lmac))
 obtain ⟨z,hz⟩:∃ z,chkF C.F=z:=⟨_,rfl⟩
 have HZ:=amk hz
 have N18:∀ w',FV w' C.F S.S→Calls Try.prog 18 #[.agg (cellsF C.F S.S)] w' fun e w''=>e=.returned (.int .i64 z)∧Below w'.heap.size w' w'':=fun w' h1=>by
  rw [← hz]
  exact check_f C.F S.S w' h1
 clear h ho lu lm lmac hC hz
 have hu25:=Try.underlying25
 have hu27:=Try.underlying27
 have hu29:=Try.underlying29
 go_enter Try.func6,Try.ntmps6
 have hu37:=Try.underlying37
 have hu22:=Try.underlying22
 have hu23:=Try.underlying23
 go_upto_region 1 with (fail)
 obtain ⟨w_1,hw_gc⟩:∃ w_,w.alloc (.cells (cellsC C0 S) 29)=w_:=⟨_,rfl⟩
 rw [hw_gc]
 obtain ⟨w_2,hw_go⟩:∃ w_,w_1.alloc (.cells #[.int .i64 O.n,.int .i64 O.v,.int .i64 O.p,.bool O.on,.slice T.A4 O.us.length T.c4,.slice T.A5 O.ms.length T.c5,.string O.m,.int .i64 O.kn,.slice T.A8 O.tab.length T.c8,.string O.key,.int .i64 O.df] 37)=w_:=⟨_,rfl⟩
 rw [hw_go]
 have z_gc:w_1.heap.size=w.heap.size+1:=by rw [← hw_gc];simp
 have ha_:Below w.heap.size w w_1:=by rw [← hw_gc];exact bwa (Below.refl _ _) _
 have BX1:Aside0 (w_1.heap[w.heap.size]?=some (.cells (cellsC C0 S) 29 (0,0))):=⟨by rw [← hw_gc];exact blk_new w _⟩
 have hgB:w.heap.size≤w.heap.size:=((Below.refl w.heap.size w)).size
 clear hw_gc
 obtain ⟨gc,hg_⟩:∃ g_,w.heap.size=g_:=⟨_,rfl⟩
 have G_gc:Aside0 (w.heap.size≤gc):=⟨Nat.le_trans hgB (Nat.le_of_eq hg_)⟩
 rw [hg_] at BX1 z_gc
 (try rw [hg_])
 clear hgB
 clear hg_
 have B3:=amk (bws (Below.refl w.heap.size w) ha_)
 clear ha_ 
 have z_go:w_2.heap.size=w_1.heap.size+1:=by rw [← hw_go];simp
 have ha_:Below w_1.heap.size w_1 w_2:=by rw [← hw_go];exact bwa (Below.refl _ _) _
 have BX2:Aside0 (w_2.heap[w_1.heap.size]?=some (.cells #[.int .i64 O.n,.int .i64 O.v,.int .i64 O.p,.bool O.on,.slice T.A4 O.us.length T.c4,.slice T.A5 O.ms.length T.c5,.string O.m,.int .i64 O.kn,.slice T.A8 O.tab.length T.c8,.string O.key,.int .i64 O.df] 37 (0,0))):=⟨by rw [← hw_go];exact blk_new w_1 _⟩
 have hgB:w.heap.size≤w_1.heap.size:=(B3.out).size
 have hl_gc:gc < w_1.heap.size:=blk_lt BX1.out
 clear hw_go
 obtain ⟨go,hg_⟩:∃ g_,w_1.heap.size=g_:=⟨_,rfl⟩
 have G_go:Aside0 (w.heap.size≤go):=⟨Nat.le_trans hgB (Nat.le_of_eq hg_)⟩
 rw [hg_] at BX2 z_go hl_gc
 have E_gc_go:=amk hl_gc
 clear hl_gc
 (try rw [hg_])
 clear hgB
 have zz_:gc+1=go:=by omega
 (try rw [zz_])
 clear zz_
 clear hg_
 have B4:=amk (bws B3.out ha_)
 have K4_gc:=amk (bkb BX1.out ha_)
 clear ha_ B3 BX1
 clear z_gc z_go
 go_wp2_with (refine wpList_load_row rfl 29 (.tmp 2) rfl gc rfl 29 (cellsC C0 S) (0,0) _ K4_gc.out Try.underlying29 rfl (by kernel_rfl) ?_)
 refine (NB _ (HV0.out.below B4.out)).mono ?_
 rintro e wb ⟨rfl,hb_⟩
 have B5:=amk (bws B4.out hb_)
 have K5_gc:=amk (bkb K4_gc.out hb_)
 have K5_go:=amk (bkb BX2.out hb_)
 clear hb_ B4 K4_gc BX2
 go_upto_region 2 with (refine wpList_store_row rfl 29 (.tmp 2) (.tmp 12) rfl gc (cellsC C S) rfl rfl 29 (cellsC C0 S) K5_gc.out (by kernel_rfl) rfl (by kernel_rfl) ?_)
 obtain ⟨w_6,hw_⟩:∃ w_,wb.setRow gc (cellsC C S)=w_:=⟨_,rfl⟩
 have hu_:Upd wb w_6 (fun k=>k=gc):=by rw [← hw_];exact Upd.setRow (Upd.refl wb (fun k=>k=gc)) (.inl rfl) _
 have kf_:w_6.heap[gc]?=some (.cells (cellsC C S) 29 (0,0)):=by rw [← hw_];exact setRow_heap wb gc _ (cellsC C S) 29 (0,0) K5_gc.out
 rw [hw_]
 clear hw_
 have K7_gc:=amk (kf_)
 have B7:=amk (B5.out.trans (hu_.toBelow (B:=w.heap.size) (fun k hk=>by rw [hk];exact G_gc.out) (B5.out).size))
 have K7_go:=amk (hu_.blk K5_go.out (by have:=E_gc_go.out;omega))
 clear hu_ B5 K5_go K5_gc
 clear kf_
 go_wp2_with (refine wpList_load_part (by rfl) 25 (.tmp 13) rfl gc 0 rfl 29 (cellsC C S) (cellsF C.F S.S) (0,0) _ K7_gc.out Try.underlying25 rfl (by kernel_rfl) rfl ?_)
 refine (N18 _ (HV.out.f.below B7.out)).mono ?_
 rintro e wk ⟨rfl,hb_⟩
 have B8:=amk (bws B7.out hb_)
 have K8_gc:=amk (bkb K7_gc.out hb_)
 have K8_go:=amk (bkb K7_go.out hb_)
 clear hb_ B7 K7_gc K7_go
 have pc12:wk.cell? ⟨gc,12,none⟩=some (.int .i64 C.mx):=(bkc K8_gc.out 12).trans rfl
 have pf12:=bkf K8_gc.out 12
 by_cases cz:z=0
 rotate_left
 ·have dz:(z == 0)=false:=beq_eq_false_iff_ne.2 cz
  go_wp2_with fail
  refine (fixed_c _).mono ?_
  rintro e w_9 ⟨rfl,hb_⟩
  go_wp2_with fail
  go_ret
  exact ⟨rfl,bws B8.out hb_⟩
 subst cz
 cases d1:decide (C.mx < 1)
 rotate_left
 ·go_wp2_with fail
  refine (fixed_c _).mono ?_
  rintro e w_10 ⟨rfl,hb_⟩
  go_wp2_with fail
  go_ret
  exact ⟨rfl,bws B8.out hb_⟩
 cases d2:decide (C.mx > 8)
 rotate_left
 ·go_wp2_with fail
  refine (fixed_c _).mono ?_
  rintro e w_11 ⟨rfl,hb_⟩
  go_wp2_with fail
  go_ret
  exact ⟨rfl,bws B8.out hb_⟩
 go_upto_region 4 with fail
 clear d1 d2 pc12 pf12 N18
 obtain ⟨b1,hb1⟩:∃ b,sixS O.us=b:=⟨_,rfl⟩
 obtain ⟨b2,hb2⟩:∃ b,sixS O.ms=b:=⟨_,rfl⟩
 have NU:∀ w',MV w' O T→Calls Try.prog 19 #[.slice T.A4 O.us.length T.c4] w' fun e w''=>e=.returned (.bool b1)∧Below w'.heap.size w' w'':=fun w' h1=>by
  rw [← hb1]
  exact six_c T.A4 T.c4 O.us w' h1.r4 h1.l4 (by have:=LUM.out;omega)
 have NM:∀ w',MV w' O T→Calls Try.prog 19 #[.slice T.A5 O.ms.length T.c5] w' fun e w''=>e=.returned (.bool b2)∧Below w'.heap.size w' w'':=fun w' h1=>by
  rw [← hb2]
  exact six_c T.A5 T.c5 O.ms w' h1.r5 h1.l5 (by have:=LUM.out;omega)
 have HB1:=amk hb1
 have HB2:=amk hb2
 clear hb1 hb2
 have qc4:wk.cell? ⟨go,4,none⟩=some (.slice T.A4 O.us.length T.c4):=(bkc K8_go.out 4).trans rfl
 have qf4:=bkf K8_go.out 4
 have qc5:wk.cell? ⟨go,5,none⟩=some (.slice T.A5 O.ms.length T.c5):=(bkc K8_go.out 5).trans rfl
 have qf5:=bkf K8_go.out 5
 go_cut [37] (fun v w'=>v=.bool (!(b1 && b2))∧Aside0 (w'.heap[gc]?=some (.cells (cellsC C S) 29 (0,0)))∧Aside0 (w'.heap[go]?=some (.cells #[.int .i64 O.n,.int .i64 O.v,.int .i64 O.p,.bool O.on,.slice T.A4 O.us.length T.c4,.slice T.A5 O.ms.length T.c5,.string O.m,.int .i64 O.kn,.slice T.A8 O.tab.length T.c8,.string O.key,.int .i64 O.df] 37 (0,0)))∧Aside0 (Below w.heap.size w w'))
 case first =>
  go_wp2_with fail
  refine (NU _ (HO.out.below B8.out)).mono ?_
  rintro e wu ⟨rfl,hb_⟩
  clear qc4 qc5 qf4 qf5
  have B12:=amk (bws B8.out hb_)
  have K12_gc:=amk (bkb K8_gc.out hb_)
  have K12_go:=amk (bkb K8_go.out hb_)
  clear hb_ B8 K8_gc K8_go
  have qc4:wu.cell? ⟨go,4,none⟩=some (.slice T.A4 O.us.length T.c4):=(bkc K12_go.out 4).trans rfl
  have qf4:=bkf K12_go.out 4
  have qc5:wu.cell? ⟨go,5,none⟩=some (.slice T.A5 O.ms.length T.c5):=(bkc K12_go.out 5).trans rfl
  have qf5:=bkf K12_go.out 5
  cases b1
  ·go_wp2_with fail
   go_meet
   case rel=>exact ⟨rfl,K12_gc,K12_go,B12⟩
  ·go_wp2_with fail
   refine (NM _ (HO.out.below B12.out)).mono ?_
   rintro e wm ⟨rfl,hb_⟩
   have B13:=amk (bws B12.out hb_)
   have K13_gc:=amk (bkb K12_gc.out hb_)
   have K13_go:=amk (bkb K12_go.out hb_)
   clear hb_ B12 K12_gc K12_go
   cases b2
   ·go_wp2_with fail
    go_meet
    case rel=>exact ⟨rfl,K13_gc,K13_go,B13⟩
   ·go_wp2_with fail
    go_meet
    case rel=>exact ⟨rfl,K13_gc,K13_go,B13⟩
 case rest =>
  obtain ⟨rfl,LC,LG,LB⟩:=hcut
  clear qc4 qc5 qf4 qf5 NU NM
  go_upto_if 37 with fail
  go_cut [] (fun w'=>∃ (Au:Option Addr) (us:List ByteArray) (cu:Nat) (Am:Option Addr) (ms:List ByteArray) (cm:Nat),Aside0 (w'.heap[gc]?=some (.cells (cellsC C S) 29 (0,0)))∧Aside0 (w'.heap[go]?=some (.cells #[.int .i64 O.n,.int .i64 O.v,.int .i64 O.p,.bool O.on,.slice Au us.length cu,.slice Am ms.length cm,.string O.m,.int .i64 O.kn,.slice T.A8 O.tab.length T.c8,.string O.key,.int .i64 O.df] 37 (0,0)))∧Aside0 (ReadsOf Value.string ByteArray.empty w' Au us.length us∧us.length≤cu∧(∀ u∈us,u.size=6)∧us.length≤8796093021952)∧Aside0 (ReadsOf Value.string ByteArray.empty w' Am ms.length ms∧ms.length≤cm∧(∀ u∈ms,u.size=6)∧ms.length≤8796093021952)∧Aside0 (Below w.heap.size w w'))
  case first =>
   have qc4:wc.cell? ⟨go,4,none⟩=some (.slice T.A4 O.us.length T.c4):=(bkc LG.out 4).trans rfl
   have qf4:=bkf LG.out 4
   have qc5:wc.cell? ⟨go,5,none⟩=some (.slice T.A5 O.ms.length T.c5):=(bkc LG.out 5).trans rfl
   have qf5:=bkf LG.out 5
   cases hbb:(b1 && b2)
   ·rw [hbb] at *
    go_upto_region 6 with fail
    clear qc4 qf4 qc5 qf5
    obtain ⟨w_1,hw_⟩:∃ w_,(wc.setCell ⟨go,4,none⟩ (.slice none 0 0))=w_:=⟨_,rfl⟩
    have hu_:Upd wc w_1 (fun k=>k=go):=by rw [← hw_];exact (Upd.refl wc (fun k=>k=go)).set (p:=⟨go,4,none⟩) (.inl rfl) _
    have kf_:w_1.heap[go]?=some (.cells #[.int .i64 O.n,.int .i64 O.v,.int .i64 O.p,.bool O.on,.slice none 0 0,.slice T.A5 O.ms.length T.c5,.string O.m,.int .i64 O.kn,.slice T.A8 O.tab.length T.c8,.string O.key,.int .i64 O.df] 37 (0,0)):=by rw [← hw_];exact (blk_put (cs:=#[.int .i64 O.n,.int .i64 O.v,.int .i64 O.p,.bool O.on,.slice T.A4 O.us.length T.c4,.slice T.A5 O.ms.length T.c5,.string O.m,.int .i64 O.kn,.slice T.A8 O.tab.length T.c8,.string O.key,.int .i64 O.df]) LG.out 4 _ rfl)
    rw [hw_]
    clear hw_
    have K2_go:=amk (kf_)
    have B2:=amk (LB.out.trans (hu_.toBelow (B:=w.heap.size) (fun k hk=>by rw [hk];exact G_go.out) (LB.out).size))
    have K2_gc:=amk (hu_.blk LC.out (by have:=E_gc_go.out;omega))
    clear hu_ LB LC LG
    clear kf_
    have qc5:w_1.cell? ⟨go,5,none⟩=some (.slice T.A5 O.ms.length T.c5):=(bkc K2_go.out 5).trans rfl
    have qf5:=bkf K2_go.out 5
    go_wp2_with fail
    clear qc5 qf5
    obtain ⟨w_3,hw_⟩:∃ w_,(w_1.setCell ⟨go,5,none⟩ (.slice none 0 0))=w_:=⟨_,rfl⟩
    have hu_:Upd w_1 w_3 (fun k=>k=go):=by rw [← hw_];exact (Upd.refl w_1 (fun k=>k=go)).set (p:=⟨go,5,none⟩) (.inl rfl) _
    have kf_:w_3.heap[go]?=some (.cells #[.int .i64 O.n,.int .i64 O.v,.int .i64 O.p,.bool O.on,.slice none 0 0,.slice none 0 0,.string O.m,.int .i64 O.kn,.slice T.A8 O.tab.length T.c8,.string O.key,.int .i64 O.df] 37 (0,0)):=by rw [← hw_];exact (blk_put (cs:=#[.int .i64 O.n,.int .i64 O.v,.int .i64 O.p,.bool O.on,.slice none 0 0,.slice T.A5 O.ms.length T.c5,.string O.m,.int .i64 O.kn,.slice T.A8 O.tab.length T.c8,.string O.key,.int .i64 O.df]) K2_go.out 5 _ rfl)
    rw [hw_]
    clear hw_
    have K4_go:=amk (kf_)
    have B4:=amk (B2.out.trans (hu_.toBelow (B:=w.heap.size) (fun k hk=>by rw [hk];exact G_go.out) (B2.out).size))
    have K4_gc:=amk (hu_.blk K2_gc.out (by have:=E_gc_go.out;omega))
    clear hu_ B2 K2_gc K2_go
    clear kf_
    go_meet
    case rel=>exact ⟨none,[],0,none,[],0,K4_gc,K4_go,⟨⟨⟨rfl,by simp,fun h=>absurd h (by simp)⟩,Nat.zero_le _,fun u hu=>absurd hu (by simp),Nat.zero_le _⟩⟩,⟨⟨⟨rfl,by simp,fun h=>absurd h (by simp)⟩,Nat.zero_le _,fun u hu=>absurd hu (by simp),Nat.zero_le _⟩⟩,B4⟩
   ·obtain ⟨rfl,rfl⟩:b1=true∧b2=true:=by simpa using hbb
    go_wp2_with fail
    go_meet
    case rel=>exact ⟨T.A4,O.us,T.c4,T.A5,O.ms,T.c5,LC,LG,⟨⟨(HO.out.below LB.out).r4,HO.out.l4,sixS_all HB1.out,LUM.out.1⟩⟩,⟨⟨(HO.out.below LB.out).r5,HO.out.l5,sixS_all HB2.out,LUM.out.2.1⟩⟩,LB⟩
  case rest =>
   obtain ⟨Au,us,cu,Am,ms,cm,LC2,LG2,LU,LM,LB2⟩:=hcut
   clear HB1 HB2 LC LG LB
   obtain ⟨n7,hn,ln⟩:=and_nat O.n 3 (by decide)
   obtain ⟨v7,hv,lv⟩:=and_nat O.v 16 (by decide)
   obtain ⟨p7,hp,lp⟩:=and_nat O.p 16 (by decide)
   have ln:n7 < 8:=ln
   have lv:v7 < 65536:=lv
   have lp:p7 < 65536:=lp
   have hn':Go.bits .and .i64 O.n 7=(n7:Int):=hn
   have hv':Go.bits .and .i64 O.v 65535=(v7:Int):=hv
   have hp':Go.bits .and .i64 O.p 65535=(p7:Int):=hp
   have HVP:=amk (And.intro hv' hp')
   have NRX:∀ w,Calls Try.prog 14 #[.int .i64 (n7:Int),.bool O.on] w fun e w'=>e=.returned (.string (rxB n7 O.on))∧Below w.heap.size w w':=fun w=>rx_cmd n7 O.on w (by omega)
   have NVL:∀ w,Calls Try.prog 15 #[.int .i64 (v7:Int),.bool O.on] w fun e w'=>e=.returned (.string (vlanB v7 O.on))∧Below w.heap.size w w':=fun w=>vlan_cmd v7 O.on w (by omega)
   have NPR:∀ w,Calls Try.prog 17 #[.int .i64 (p7:Int)] w fun e w'=>e=.returned (.string (pairsB p7))∧Below w.heap.size w w':=fun w=>pairs_cmd p7 w (by omega)
   have NMC:∀ w,Calls Try.prog 21 #[.string O.m] w fun e w'=>e=.returned (.string (macB O.m))∧Below w.heap.size w w':=fun w=>mac_cmd O.m (by have:=LUM.out;omega) w
   have NTB:∀ w,Below wc.heap.size wc w→Calls Try.prog 20 #[.slice Au us.length cu,.slice Am ms.length cm] w fun e w'=>e=.returned (.string (tableB us ms))∧Below w.heap.size w w':=fun w hb=>by
    obtain ⟨r1,r2,r3,r4⟩:=LU.out
    obtain ⟨s1,s2,s3,s4⟩:=LM.out
    exact table_cmd Au cu us Am cm ms w (r1.below hb) r2 (s1.below hb) s2 (by rw [cat_size,cat_size,cat_six us r3,cat_six ms s3];omega) (by omega) (by omega)
   have SALL:=sets_all C us ms O.m n7 v7 p7 O.on lv lp LU.out.2.2.1 LM.out.2.2.1 HZ.out
   obtain ⟨s0,e0⟩:∃ x,rxB n7 O.on=x:=⟨_,rfl⟩
   obtain ⟨s1,e1⟩:∃ x,tableB us ms=x:=⟨_,rfl⟩
   obtain ⟨s2,e2⟩:∃ x,macB O.m=x:=⟨_,rfl⟩
   obtain ⟨s3,e3⟩:∃ x,vlanB v7 O.on=x:=⟨_,rfl⟩
   obtain ⟨s4,e4⟩:∃ x,pairsB p7=x:=⟨_,rfl⟩
   rw [e0,e1,e2,e3,e4] at SALL
   rw [e0] at NRX
   rw [e1] at NTB
   rw [e2] at NMC
   rw [e3] at NVL
   rw [e4] at NPR
   have HSALL:=amk SALL
   clear hn hv hp ln lv lp e0 e1 e2 e3 e4 SALL
   go_upto_region 7 with fail
   refine start_ (n:=26) (S:=fun w'=>w'.cell? ⟨go,0,none⟩=some (.int .i64 O.n)∧w'.cell? ⟨go,1,none⟩=some (.int .i64 O.v)∧w'.cell? ⟨go,2,none⟩=some (.int .i64 O.p)∧w'.cell? ⟨go,3,none⟩=some (.bool O.on)∧w'.cell? ⟨go,4,none⟩=some (.slice Au us.length cu)∧w'.cell? ⟨go,5,none⟩=some (.slice Am ms.length cm)∧w'.cell? ⟨go,6,none⟩=some (.string O.m)∧Below wc.heap.size wc w') (ds:=[]) (bsq 26 0) (by kernel_rfl) rfl rfl ⟨(bkc LG2.out 0).trans rfl,(bkc LG2.out 1).trans rfl,(bkc LG2.out 2).trans rfl,(bkc LG2.out 3).trans rfl,(bkc LG2.out 4).trans rfl,(bkc LG2.out 5).trans rfl,(bkc LG2.out 6).trans rfl,bwd (Below.refl _ _)⟩ (fun hHeld=>?_)
   refine pure_ (i:=0) (N:=some 40) (v:=?_) (a':=?_) (bsq 26 1) rfl rfl (by kernel_rfl) (fun _ _ _ h=>h) (Or.inl ⟨by rfl,?_⟩) ?_ ?_
   rotate_left
   ·intro w'
    go_simp
    with_reducible rfl
   rotate_left
   ·simp only [Act.put,bq1,bq2,bq3,i64_w,i32_w]
    rfl
   refine pure_ (i:=3) (N:=some 43) (v:=?_) (a':=?_) (bsq 26 9) rfl rfl (by kernel_rfl) (fun _ _ _ h=>h) (Or.inl ⟨by rfl,?_⟩) ?_ ?_
   rotate_left
   ·intro w'
    go_simp
    with_reducible rfl
   rotate_left
   ·simp only [Act.put,bq1,bq2,bq3,i64_w,i32_w]
    rfl
   refine pure_ (i:=6) (N:=some 46) (v:=?_) (a':=?_) (bsq 26 73) rfl rfl (by kernel_rfl) (fun _ _ _ h=>h) (Or.inl ⟨by rfl,?_⟩) ?_ ?_
   rotate_left
   ·intro w'
    go_simp
    with_reducible rfl
   rotate_left
   ·simp only [Act.put,bq1,bq2,bq3,i64_w,i32_w]
    rfl
   refine pure_ (i:=8) (N:=some 48) (v:=?_) (a':=?_) (bsq 26 329) rfl rfl (by kernel_rfl) (fun _ _ _ h=>h) (Or.inl ⟨by rfl,?_⟩) ?_ ?_
   rotate_left
   ·intro w'
    go_simp
    with_reducible rfl
   rotate_left
   ·simp only [Act.put,bq1,bq2,bq3,i64_w,i32_w]
    rfl
   refine pure_ (i:=11) (N:=some 51) (v:=?_) (a':=?_) (bsq 26 2377) rfl rfl (by kernel_rfl) (fun _ _ _ h=>h) (Or.inl ⟨by rfl,?_⟩) ?_ ?_
   rotate_left
   ·intro w'
    go_simp
    with_reducible rfl
   rotate_left
   ·simp only [Act.put,bq1,bq2,bq3,i64_w,i32_w]
    rfl
   refine pure_ (i:=14) (N:=some 54) (v:=?_) (a':=?_) (bsq 26 18761) rfl rfl (by kernel_rfl) (fun _ _ _ h=>h) (Or.inl ⟨by rfl,?_⟩) ?_ ?_
   rotate_left
   ·intro w'
    go_simp
    with_reducible rfl
   rotate_left
   ·simp only [Act.put,bq1,bq2,bq3,i64_w,i32_w]
    rfl
   refine pure_ (i:=17) (N:=some 57) (v:=?_) (a':=?_) (bsq 26 149833) rfl rfl (by kernel_rfl) (fun _ _ _ h=>h) (Or.inl ⟨by rfl,?_⟩) ?_ ?_
   rotate_left
   ·intro w'
    go_simp
    with_reducible rfl
   rotate_left
   ·simp only [Act.put,bq1,bq2,bq3,i64_w,i32_w]
    rfl
   refine pure_ (i:=20) (N:=some 60) (v:=?_) (a':=?_) (bsq 26 1198409) rfl rfl (by kernel_rfl) (fun _ _ _ h=>h) (Or.inl ⟨by rfl,?_⟩) ?_ ?_
   rotate_left
   ·intro w'
    go_simp
    with_reducible rfl
   rotate_left
   ·simp only [Act.put,bq1,bq2,bq3,i64_w,i32_w]
    rfl
   refine take_ (i:=1) (N:=some 41) (v:=?_) (a':=?_) (bsq 26 1198411) rfl rfl (by kernel_rfl) (fun _ _ _ h=>h) (Or.inl ⟨by rfl,?_⟩) hHeld ?_ ?_
   rotate_left
   ·rintro w' ⟨s0,s1,s2,s3,s4,s5,s6,s7⟩
    go_simp
    with_reducible rfl
   rotate_left
   ·simp only [Act.put,bq1,bq2,bq3,i64_w,i32_w]
    rfl
   refine pure_ (i:=2) (N:=some 42) (v:=?_) (a':=?_) (bsq 26 1198415) rfl rfl (by kernel_rfl) (fun _ _ _ h=>h) (Or.inl ⟨by rfl,?_⟩) ?_ ?_
   rotate_left
   ·intro w'
    go_simp
    with_reducible rfl
   rotate_left
   ·simp only [Act.put,bq1,bq2,bq3,i64_w,i32_w]
    rfl
   refine take_ (i:=4) (N:=some 44) (v:=?_) (a':=?_) (bsq 26 1198431) rfl rfl (by kernel_rfl) (fun _ _ _ h=>h) (Or.inl ⟨by rfl,?_⟩) hHeld ?_ ?_
   rotate_left
   ·rintro w' ⟨s0,s1,s2,s3,s4,s5,s6,s7⟩
    go_simp
    with_reducible rfl
   rotate_left
   ·simp only [Act.put,bq1,bq2,bq3,i64_w,i32_w]
    rfl
   refine take_ (i:=7) (N:=some 47) (v:=?_) (a':=?_) (bsq 26 1198559) rfl rfl (by kernel_rfl) (fun _ _ _ h=>h) (Or.inl ⟨by rfl,?_⟩) hHeld ?_ ?_
   rotate_left
   ·rintro w' ⟨s0,s1,s2,s3,s4,s5,s6,s7⟩
    go_simp
    with_reducible rfl
   rotate_left
   ·simp only [Act.put,bq1,bq2,bq3,i64_w,i32_w]
    rfl
   refine take_ (i:=9) (N:=some 49) (v:=?_) (a':=?_) (bsq 26 1199071) rfl rfl (by kernel_rfl) (fun _ _ _ h=>h) (Or.inl ⟨by rfl,?_⟩) hHeld ?_ ?_
   rotate_left
   ·rintro w' ⟨s0,s1,s2,s3,s4,s5,s6,s7⟩
    go_simp
    with_reducible rfl
   rotate_left
   ·simp only [Act.put,bq1,bq2,bq3,i64_w,i32_w]
    rfl
   refine take_ (i:=12) (N:=some 52) (v:=?_) (a':=?_) (bsq 26 1203167) rfl rfl (by kernel_rfl) (fun _ _ _ h=>h) (Or.inl ⟨by rfl,?_⟩) hHeld ?_ ?_
   rotate_left
   ·rintro w' ⟨s0,s1,s2,s3,s4,s5,s6,s7⟩
    go_simp
    with_reducible rfl
   rotate_left
   ·simp only [Act.put,bq1,bq2,bq3,i64_w,i32_w]
    rfl
   refine take_ (i:=15) (N:=some 55) (v:=?_) (a':=?_) (bsq 26 1235935) rfl rfl (by kernel_rfl) (fun _ _ _ h=>h) (Or.inl ⟨by rfl,?_⟩) hHeld ?_ ?_
   rotate_left
   ·rintro w' ⟨s0,s1,s2,s3,s4,s5,s6,s7⟩
    go_simp
    with_reducible rfl
   rotate_left
   ·simp only [Act.put,bq1,bq2,bq3,i64_w,i32_w]
    rfl
   refine pure_ (i:=16) (N:=some 56) (v:=?_) (a':=?_) (bsq 26 1301471) rfl rfl (by kernel_rfl) (fun _ _ _ h=>h) (Or.inl ⟨by rfl,?_⟩) ?_ ?_
   rotate_left
   ·intro w'
    go_simp
    with_reducible rfl
   rotate_left
   ·simp only [Act.put,bq1,bq2,bq3,i64_w,i32_w]
    rfl
   refine take_ (i:=18) (N:=some 58) (v:=?_) (a':=?_) (bsq 26 1563615) rfl rfl (by kernel_rfl) (fun _ _ _ h=>h) (Or.inl ⟨by rfl,?_⟩) hHeld ?_ ?_
   rotate_left
   ·rintro w' ⟨s0,s1,s2,s3,s4,s5,s6,s7⟩
    go_simp
    with_reducible rfl
   rotate_left
   ·simp only [Act.put,bq1,bq2,bq3,i64_w,i32_w]
    rfl
   refine take_ (i:=21) (N:=some 61) (v:=?_) (a':=?_) (bsq 26 3660767) rfl rfl (by kernel_rfl) (fun _ _ _ h=>h) (Or.inl ⟨by rfl,?_⟩) hHeld ?_ ?_
   rotate_left
   ·rintro w' ⟨s0,s1,s2,s3,s4,s5,s6,s7⟩
    go_simp
    with_reducible rfl
   rotate_left
   ·simp only [Act.put,bq1,bq2,bq3,i64_w,i32_w]
    rfl
   refine pure_ (i:=22) (N:=some 62) (v:=?_) (a':=?_) (bsq 26 7855071) rfl rfl (by kernel_rfl) (fun _ _ _ h=>h) (Or.inl ⟨by rfl,?_⟩) ?_ ?_
   rotate_left
   ·intro w'
    go_simp
    with_reducible rfl
   rotate_left
   ·simp only [Act.put,bq1,bq2,bq3,i64_w,i32_w]
    rfl
   refine one_ (i:=5) (N:=some 45) (bsq 26 7855103) rfl rfl (by kernel_rfl) (by decide) (fun K hK=>?_)
   refine goes_ Try.func14 (by kernel_rfl) rfl #[.int .i64 (n7:Int),.bool O.on] (by rfl) rfl rfl (by simp only [List.map_toArray,List.map_cons,List.map_nil];rfl) ?_
   with_reducible refine (NRX _).mono ?_
   rintro e w0_ ⟨rfl,hc⟩
   refine ⟨_,rfl,?_⟩
   have Hw0_:=amk hc
   clear hc
   refine hK.out _ _ ⟨pcb Hw0_.out hHeld.1,pcb Hw0_.out hHeld.2.1,pcb Hw0_.out hHeld.2.2.1,pcb Hw0_.out hHeld.2.2.2.1,pcb Hw0_.out hHeld.2.2.2.2.1,pcb Hw0_.out hHeld.2.2.2.2.2.1,pcb Hw0_.out hHeld.2.2.2.2.2.2.1,bws hHeld.2.2.2.2.2.2.2 Hw0_.out⟩ (fun hHeld=>?_)
   clear hK K
   refine norm_ (a':=?_) ?_ ?_
   rotate_left
   ·show Act.put _ (some 45) _=_
    simp only [Act.put,bq1,bq2,bq3,i64_w,i32_w]
    rfl
   refine one_ (i:=10) (N:=some 50) (bsq 26 7856127) rfl rfl (by kernel_rfl) (by decide) (fun K hK=>?_)
   refine goes_ Try.func20 (by kernel_rfl) rfl #[.slice Au us.length cu,.slice Am ms.length cm] (by rfl) rfl rfl (by simp only [List.map_toArray,List.map_cons,List.map_nil];rfl) ?_
   with_reducible refine (NTB _ (hHeld.2.2.2.2.2.2.2)).mono ?_
   rintro e w1_ ⟨rfl,hc⟩
   refine ⟨_,rfl,?_⟩
   have Hw1_:=amk hc
   clear hc
   refine hK.out _ _ ⟨pcb Hw1_.out hHeld.1,pcb Hw1_.out hHeld.2.1,pcb Hw1_.out hHeld.2.2.1,pcb Hw1_.out hHeld.2.2.2.1,pcb Hw1_.out hHeld.2.2.2.2.1,pcb Hw1_.out hHeld.2.2.2.2.2.1,pcb Hw1_.out hHeld.2.2.2.2.2.2.1,bws hHeld.2.2.2.2.2.2.2 Hw1_.out⟩ (fun hHeld=>?_)
   clear hK K
   refine norm_ (a':=?_) ?_ ?_
   rotate_left
   ·show Act.put _ (some 50) _=_
    simp only [Act.put,bq1,bq2,bq3,i64_w,i32_w]
    rfl
   refine one_ (i:=13) (N:=some 53) (bsq 26 7864319) rfl rfl (by kernel_rfl) (by decide) (fun K hK=>?_)
   refine goes_ Try.func21 (by kernel_rfl) rfl #[.string O.m] (by rfl) rfl rfl (by simp only [List.map_toArray,List.map_cons,List.map_nil];rfl) ?_
   with_reducible refine (NMC _).mono ?_
   rintro e w2_ ⟨rfl,hc⟩
   refine ⟨_,rfl,?_⟩
   have Hw2_:=amk hc
   clear hc
   refine hK.out _ _ ⟨pcb Hw2_.out hHeld.1,pcb Hw2_.out hHeld.2.1,pcb Hw2_.out hHeld.2.2.1,pcb Hw2_.out hHeld.2.2.2.1,pcb Hw2_.out hHeld.2.2.2.2.1,pcb Hw2_.out hHeld.2.2.2.2.2.1,pcb Hw2_.out hHeld.2.2.2.2.2.2.1,bws hHeld.2.2.2.2.2.2.2 Hw2_.out⟩ (fun hHeld=>?_)
   clear hK K
   refine norm_ (a':=?_) ?_ ?_
   rotate_left
   ·show Act.put _ (some 53) _=_
    simp only [Act.put,bq1,bq2,bq3,i64_w,i32_w]
    rfl
   refine one_ (i:=19) (N:=some 59) (bsq 26 8388607) rfl rfl (by kernel_rfl) (by decide) (fun K hK=>?_)
   refine goes_ Try.func15 (by kernel_rfl) rfl #[.int .i64 (v7:Int),.bool O.on] (by rfl) rfl rfl (by simp only [List.map_toArray,List.map_cons,List.map_nil];rfl) ?_
   with_reducible refine (NVL _).mono ?_
   rintro e w3_ ⟨rfl,hc⟩
   refine ⟨_,rfl,?_⟩
   have Hw3_:=amk hc
   clear hc
   refine hK.out _ _ ⟨pcb Hw3_.out hHeld.1,pcb Hw3_.out hHeld.2.1,pcb Hw3_.out hHeld.2.2.1,pcb Hw3_.out hHeld.2.2.2.1,pcb Hw3_.out hHeld.2.2.2.2.1,pcb Hw3_.out hHeld.2.2.2.2.2.1,pcb Hw3_.out hHeld.2.2.2.2.2.2.1,bws hHeld.2.2.2.2.2.2.2 Hw3_.out⟩ (fun hHeld=>?_)
   clear hK K
   refine norm_ (a':=?_) ?_ ?_
   rotate_left
   ·show Act.put _ (some 59) _=_
    simp only [Act.put,bq1,bq2,bq3,i64_w,i32_w]
    rfl
   refine one_ (i:=23) (N:=some 63) (bsq 26 16777215) rfl rfl (by kernel_rfl) (by decide) (fun K hK=>?_)
   refine goes_ Try.func17 (by kernel_rfl) rfl #[.int .i64 (p7:Int)] (by rfl) rfl rfl (by simp only [List.map_toArray,List.map_cons,List.map_nil];rfl) ?_
   with_reducible refine (NPR _).mono ?_
   rintro e wp ⟨rfl,hc⟩
   refine ⟨_,rfl,?_⟩
   have Hwp:=amk hc
   clear hc
   refine hK.out _ _ ⟨pcb Hwp.out hHeld.1,pcb Hwp.out hHeld.2.1,pcb Hwp.out hHeld.2.2.1,pcb Hwp.out hHeld.2.2.2.1,pcb Hwp.out hHeld.2.2.2.2.1,pcb Hwp.out hHeld.2.2.2.2.2.1,pcb Hwp.out hHeld.2.2.2.2.2.2.1,bws hHeld.2.2.2.2.2.2.2 Hwp.out⟩ (fun hHeld=>?_)
   clear hK K
   refine norm_ (a':=?_) ?_ ?_
   rotate_left
   ·show Act.put _ (some 63) _=_
    simp only [Act.put,bq1,bq2,bq3,i64_w,i32_w]
    rfl
   refine one_ (i:=24) (N:=some 64) (bsq 26 33554431) rfl rfl (by kernel_rfl) (by decide) (fun K hK=>?_)
   refine value_ (w1:=?_) (v:=?_) (by rfl) rfl ?_ ?_
   rotate_left 2
   ·go_simp
    constructor
    ·rfl
    ·rfl
   have HBP:=amk (hHeld.2.2.2.2.2.2.2)
   refine hK.out _ _ ⟨pcb (bwa (Below.refl _ _) (.cells #[.string s0,.string s1,.string s2,.string s3,.string s4] 9)) hHeld.1,pcb (bwa (Below.refl _ _) (.cells #[.string s0,.string s1,.string s2,.string s3,.string s4] 9)) hHeld.2.1,pcb (bwa (Below.refl _ _) (.cells #[.string s0,.string s1,.string s2,.string s3,.string s4] 9)) hHeld.2.2.1,pcb (bwa (Below.refl _ _) (.cells #[.string s0,.string s1,.string s2,.string s3,.string s4] 9)) hHeld.2.2.2.1,pcb (bwa (Below.refl _ _) (.cells #[.string s0,.string s1,.string s2,.string s3,.string s4] 9)) hHeld.2.2.2.2.1,pcb (bwa (Below.refl _ _) (.cells #[.string s0,.string s1,.string s2,.string s3,.string s4] 9)) hHeld.2.2.2.2.2.1,pcb (bwa (Below.refl _ _) (.cells #[.string s0,.string s1,.string s2,.string s3,.string s4] 9)) hHeld.2.2.2.2.2.2.1,bws hHeld.2.2.2.2.2.2.2 (bwa (Below.refl _ _) (.cells #[.string s0,.string s1,.string s2,.string s3,.string s4] 9))⟩ (fun hHeld=>?_)
   clear hK K
   refine norm_ (a':=?_) ?_ ?_
   rotate_left
   ·show Act.put _ (some 64) _=_
    simp only [Act.put,bq1,bq2,bq3,i64_w,i32_w]
    rfl
   refine pure_ (i:=25) (N:=some 5) (v:=?_) (a':=?_) (bsq 26 67108863) rfl rfl (by kernel_rfl) (fun _ _ _ h=>h) (Or.inl ⟨by rfl,?_⟩) ?_ ?_
   rotate_left
   ·intro w'
    go_simp
    with_reducible rfl
   rotate_left
   ·simp only [Act.put,bq1,bq2,bq3,i64_w,i32_w]
    rfl
   refine done_ (by kernel_rfl) ?_
   clear Hw0_ Hw1_ Hw2_ Hw3_ Hwp
   have hb_:=bws HBP.out (bwa (Below.refl _ _) (.cells #[.string s0,.string s1,.string s2,.string s3,.string s4] 9))
   have hge_:=HBP.out.size
   have hblk_:=blk_new wp (.cells #[.string s0,.string s1,.string s2,.string s3,.string s4] 9)
   obtain ⟨wl,hw_⟩:∃ x,wp.alloc (.cells #[.string s0,.string s1,.string s2,.string s3,.string s4] 9)=x:=⟨_,rfl⟩
   rw [hw_] at hb_ hblk_ ⊢
   clear hw_
   obtain ⟨gl,hg_⟩:∃ x,wp.heap.size=x:=⟨_,rfl⟩
   rw [hg_] at hge_ hblk_ ⊢
   clear hg_ HBP hn' hv' hp'
   clear NRX NVL NPR NTB NMC
   have E_gc_gl:=amk (Nat.lt_of_lt_of_le (blk_lt LC2.out) hge_)
   have E_go_gl:=amk (Nat.lt_of_lt_of_le (blk_lt LG2.out) hge_)
   have G_gl:=amk (Nat.le_trans (LB2.out).size hge_)
   have BX_gl:=amk hblk_
   have B1:=amk (bws LB2.out hb_)
   have K1_gc:=amk (bkb LC2.out hb_)
   have K1_go:=amk (bkb LG2.out hb_)
   clear hb_ LB2 LC2 LG2
   clear hblk_ hge_
   obtain ⟨ad,had⟩:∃ x,x=(⟨gl,0,none⟩:Addr):=⟨_,rfl⟩
   rw [← had]
   have NEX:∀ i:Nat,i < 5→∃ s D k,SetP C D k s (QS C us ms O.m v7 p7 O.on i)∧∀ w',Below wl.heap.size wl w'→w'.cell? (ad.add i)=some (.string s):=by
    intro i hi
    have hc:∀ w',Below wl.heap.size wl w'→∀ j,w'.cell? ⟨gl,j,none⟩=#[(.string s0:Value),.string s1,.string s2,.string s3,.string s4][j]?:=fun w' hb j=>bkc (bkb BX_gl.out hb) j
    have e:∀ i,ad.add i=⟨gl,i,none⟩:=fun i=>by rw [had,addr_add,Nat.zero_add]
    obtain ⟨D,k,hP⟩:=HSALL.out i hi
    refine ⟨_,D,k,hP,fun w' hb=>?_⟩
    rw [e,hc w' hb i]
    match i,hi with
    | 0,_=>rfl
    | 1,_=>rfl
    | 2,_=>rfl
    | 3,_=>rfl
    | 4,_=>rfl
   clear had
   go_wp2_with fail
   have HVL:=amk (HV.out.below B1.out)
   go_loopg [6] 5 (fun gk v6 w'=>∃ i:Nat,v6=.int .i64 (i:Int)∧Aside0 (i+gk=5)∧Aside0 (Below wl.heap.size wl w'))
   case atStart=>exact ⟨0,rfl,⟨rfl⟩,⟨Below.refl _ _⟩⟩
   case round =>
    obtain ⟨i,rfl,hk,hL⟩:=hrel
    have hkk:=hk.out
    have BW:=amk (bws B1.out hL.out)
    have KC:=amk (bkb K1_gc.out hL.out)
    have KG:=amk (bkb K1_go.out hL.out)
    have wi:IntKind.i64.wrap ((i:Int)+1)=((i+1:Nat):Int):=by rw [IntKind.wrap_i64];omega
    by_cases hc:i < 5
    rotate_left
    ·have c1:decide ((i:Int) < 5)=false:=decide_eq_false (by omega)
     go_wp2_with fail
     refine (fixed_c _).mono ?_
     rintro e wf ⟨rfl,hb_⟩
     go_wp2_with fail
     go_ret
     exact ⟨rfl,bws BW.out hb_⟩
    have c1:decide ((i:Int) < 5)=true:=decide_eq_true (by omega)
    have c2:decide (0≤(i:Int))=true:=decide_eq_true (by omega)
    have c3:(0≤(i:Int))=True:=eq_true (by omega)
    have c4:((i:Int) < 5)=True:=eq_true (by omega)
    have c5:(i < 5)=True:=eq_true hc
    obtain ⟨ki,rfl⟩:∃ m,gk=m+1:=⟨gk - 1,by omega⟩
    obtain ⟨s,D,k,hP,hcl⟩:=NEX i hc
    have HP:=amk hP
    have SMD:=amk (hP.small HS.out HL60.out)
    have HCL:=amk hcl
    have HI5:=amk hc
    have hcl0:=hcl wr hL.out
    clear hP hcl hkk hc
    (try clear NEX);(try clear HSALL);(try clear NB);(try clear HV0);(try clear HV);(try clear HL60);(try clear HO);(try clear LUM);(try clear HZ);(try clear LU);(try clear LM);(try clear LC2);(try clear LG2);(try clear LB2);(try clear BW);(try clear K1_gc);(try clear K1_go);(try clear B1)
    go_upto_region 11 with fail
    refine start_ (n:=12) (S:=fun w'=>w'.heap[gc]?=some (.cells (cellsC C S) 29 (0,0))∧w'.cell? (ad.add i)=some (.string s)∧Below wr.heap.size wr w') (ds:=[10]) (bsq 12 0) (by kernel_rfl) rfl rfl ⟨(bkb KC.out (bwd (Below.refl _ _))),hcl0,bwd (Below.refl _ _)⟩ (fun hHeld=>?_)
    refine pure_ (i:=1) (N:=some 73) (v:=?_) (a':=?_) (bsq 12 2) rfl rfl (by kernel_rfl) (fun _ _ _ h=>h) (Or.inl ⟨by rfl,?_⟩) ?_ ?_
    rotate_left
    ·intro w'
     go_simp
     with_reducible rfl
    rotate_left
    ·simp only [Act.put,bq1,bq2,bq3,i64_w,i32_w]
     rfl
    refine pure_ (i:=2) (N:=some 74) (v:=?_) (a':=?_) (bsq 12 6) rfl rfl (by kernel_rfl) (fun _ _ _ h=>h) (Or.inl ⟨by rfl,?_⟩) ?_ ?_
    rotate_left
    ·intro w'
     go_simp
     with_reducible rfl
    rotate_left
    ·simp only [Act.put,bq1,bq2,bq3,i64_w,i32_w]
     rfl
    refine pure_ (i:=3) (N:=some 75) (v:=?_) (a':=?_) (bsq 12 14) rfl rfl (by kernel_rfl) (fun _ _ _ h=>h) (Or.inl ⟨by rfl,?_⟩) ?_ ?_
    rotate_left
    ·intro w'
     go_simp
     with_reducible rfl
    rotate_left
    ·simp only [Act.put,bq1,bq2,bq3,i64_w,i32_w]
     rfl
    refine take_ (i:=0) (N:=some 72) (v:=?_) (a':=?_) (bsq 12 15) rfl rfl (by kernel_rfl) (fun _ _ _ h=>h) (Or.inl ⟨by rfl,?_⟩) hHeld ?_ ?_
    rotate_left
    ·rintro w' ⟨s0,s1,s2⟩
     refine exec_load_part 29 (.tmp 2) ?_ gc 0 ?_ 29 (cellsC C S) (cellsC C S) (0,0) _ s0 Try.underlying29 rfl (by kernel_rfl) rfl
     ·rfl
     ·rfl
    rotate_left
    ·simp only [Act.put,bq1,bq2,bq3,i64_w,i32_w]
     rfl
    refine take_ (i:=4) (N:=some 76) (v:=?_) (a':=?_) (bsq 12 31) rfl rfl (by kernel_rfl) (fun _ _ _ h=>h) (Or.inl ⟨by rfl,?_⟩) hHeld ?_ ?_
    rotate_left
    ·rintro w' ⟨s0,s1,s2⟩
     go_simp
     with_reducible rfl
    rotate_left
    ·simp only [Act.put,bq1,bq2,bq3,i64_w,i32_w]
     rfl
    refine join_ (σ:=SlC × Nat) 2 (bsq 12 1023) (fun sg=>[(77,.tuple #[.agg (cellsC D sg.1),.int .i64 k]),(71,.tuple #[.agg (cellsC D sg.1),.int .i64 k]),(78,.agg (cellsC D sg.1)),(79,.int .i64 k),(7,.pointer (some ⟨sg.2,0,none⟩))]) (fun sg w'=>w'.heap[gc]?=some (.cells (cellsC C S) 29 (0,0))∧w'.cell? (ad.add i)=some (.string s)∧Below wr.heap.size wr w'∧OC wr.heap.size w' D sg.1∧w'.heap[sg.2]?=some (.cells zeroC 29 (0,0))∧wr.heap.size≤sg.2∧True) ?_ ?_
    rotate_left
    ·intro hCont
     refine two_ (i:=5) (j:=9) (Ni:=some 77) (Nj:=some 7) (bsq 12 63) (bsq 12 543) rfl rfl rfl rfl (by kernel_rfl) (by decide) (by decide) (fun K hK=>?_) (fun K hK=>?_)
     ·skip
      refine goes_ Try.func11 (by kernel_rfl) rfl #[.agg (cellsC C S),.string s] (by rfl) rfl rfl (by simp only [List.map_toArray,List.map_cons,List.map_nil];rfl) ?_
      with_reducible refine (apply2_c C D S s k HP.out.once _ (HVL.out.below (bws hL.out (hHeld.2.2))) HS.out).mono ?_
      rintro e wrr ⟨S1,rfl,ho,hr⟩
      refine ⟨_,rfl,?_⟩
      have HR:=amk hr
      have HO:=amk (ho.weaken (hHeld.2.2).size)
      clear hr ho
      refine hK.out _ _ ⟨(bkb hHeld.1 HR.out),pcb HR.out hHeld.2.1,bws hHeld.2.2 HR.out⟩ (fun hHeld=>?_)
      clear hK K
      refine norm_ (a':=?_) ?_ ?_
      rotate_left
      ·show Act.put _ (some 77) _=_
       simp only [Act.put,bq1,bq2,bq3,i64_w,i32_w]
       rfl
      refine pure_ (i:=6) (N:=some 71) (v:=?_) (a':=?_) (bsq 12 127) rfl rfl (by kernel_rfl) (fun _ _ _ h=>h) (Or.inl ⟨by rfl,?_⟩) ?_ ?_
      rotate_left
      ·intro w'
       go_simp
       with_reducible rfl
      rotate_left
      ·simp only [Act.put,bq1,bq2,bq3,i64_w,i32_w]
       rfl
      refine pure_ (i:=7) (N:=some 78) (v:=?_) (a':=?_) (bsq 12 255) rfl rfl (by kernel_rfl) (fun _ _ _ h=>h) (Or.inl ⟨by rfl,?_⟩) ?_ ?_
      rotate_left
      ·intro w'
       go_simp
       with_reducible rfl
      rotate_left
      ·simp only [Act.put,bq1,bq2,bq3,i64_w,i32_w]
       rfl
      refine pure_ (i:=8) (N:=some 79) (v:=?_) (a':=?_) (bsq 12 511) rfl rfl (by kernel_rfl) (fun _ _ _ h=>h) (Or.inl ⟨by rfl,?_⟩) ?_ ?_
      rotate_left
      ·intro w'
       go_simp
       with_reducible rfl
      rotate_left
      ·simp only [Act.put,bq1,bq2,bq3,i64_w,i32_w]
       rfl
      refine one_ (i:=9) (N:=some 7) (bsq 12 1023) rfl rfl (by kernel_rfl) (by decide) (fun K hK=>?_)
      refine value_ (w1:=?_) (v:=?_) (by rfl) rfl ?_ ?_
      rotate_left 2
      ·go_simp
       constructor
       ·rfl
       ·rfl
      have KA:=amk (blk_new (wrr) (.cells zeroC 29))
      have hga:wr.heap.size≤(wrr).heap.size:=(hHeld.2.2).size
      have GA:=amk hga
      clear hga
      refine hK.out _ _ ⟨(bkb hHeld.1 (bwa (Below.refl _ _) (.cells zeroC 29))),pcb (bwa (Below.refl _ _) (.cells zeroC 29)) hHeld.2.1,bws hHeld.2.2 (bwa (Below.refl _ _) (.cells zeroC 29))⟩ (fun hHeld=>?_)
      clear hK K
      refine norm_ (a':=?_) ?_ ?_
      rotate_left
      ·show Act.put _ (some 7) _=_
       simp only [Act.put,bq1,bq2,bq3,i64_w,i32_w]
       rfl
      exact norm_ (by simp only [putAll,Act.put,List.setIfInBounds_toArray,List.set_cons_zero,List.set_cons_succ]) (hCont (S1,(wrr).heap.size) _ ⟨hHeld.1,hHeld.2.1,hHeld.2.2,(HO.out.below (bwa (Below.refl _ _) (.cells zeroC 29))),KA.out,GA.out,trivial⟩)
     ·skip
      refine value_ (w1:=?_) (v:=?_) (by rfl) rfl ?_ ?_
      rotate_left 2
      ·go_simp
       constructor
       ·rfl
       ·rfl
      have KA:=amk (blk_new (wr.drew) (.cells zeroC 29))
      have hga:wr.heap.size≤(wr.drew).heap.size:=(hHeld.2.2).size
      have GA:=amk hga
      clear hga
      refine hK.out _ _ ⟨(bkb hHeld.1 (bwa (Below.refl _ _) (.cells zeroC 29))),pcb (bwa (Below.refl _ _) (.cells zeroC 29)) hHeld.2.1,bws hHeld.2.2 (bwa (Below.refl _ _) (.cells zeroC 29))⟩ (fun hHeld=>?_)
      clear hK K
      refine norm_ (a':=?_) ?_ ?_
      rotate_left
      ·show Act.put _ (some 7) _=_
       simp only [Act.put,bq1,bq2,bq3,i64_w,i32_w]
       rfl
      refine one_ (i:=5) (N:=some 77) (bsq 12 575) rfl rfl (by kernel_rfl) (by decide) (fun K hK=>?_)
      refine goes_ Try.func11 (by kernel_rfl) rfl #[.agg (cellsC C S),.string s] (by rfl) rfl rfl (by simp only [List.map_toArray,List.map_cons,List.map_nil];rfl) ?_
      with_reducible refine (apply2_c C D S s k HP.out.once _ (HVL.out.below (bws hL.out (hHeld.2.2))) HS.out).mono ?_
      rintro e wrr ⟨S1,rfl,ho,hr⟩
      refine ⟨_,rfl,?_⟩
      have HR:=amk hr
      have HO:=amk (ho.weaken (hHeld.2.2).size)
      clear hr ho
      have KB:=amk (bkb KA.out HR.out)
      clear KA
      have KA:=KB
      clear KB
      refine hK.out _ _ ⟨(bkb hHeld.1 HR.out),pcb HR.out hHeld.2.1,bws hHeld.2.2 HR.out⟩ (fun hHeld=>?_)
      clear hK K
      refine norm_ (a':=?_) ?_ ?_
      rotate_left
      ·show Act.put _ (some 77) _=_
       simp only [Act.put,bq1,bq2,bq3,i64_w,i32_w]
       rfl
      refine pure_ (i:=6) (N:=some 71) (v:=?_) (a':=?_) (bsq 12 639) rfl rfl (by kernel_rfl) (fun _ _ _ h=>h) (Or.inl ⟨by rfl,?_⟩) ?_ ?_
      rotate_left
      ·intro w'
       go_simp
       with_reducible rfl
      rotate_left
      ·simp only [Act.put,bq1,bq2,bq3,i64_w,i32_w]
       rfl
      refine pure_ (i:=7) (N:=some 78) (v:=?_) (a':=?_) (bsq 12 767) rfl rfl (by kernel_rfl) (fun _ _ _ h=>h) (Or.inl ⟨by rfl,?_⟩) ?_ ?_
      rotate_left
      ·intro w'
       go_simp
       with_reducible rfl
      rotate_left
      ·simp only [Act.put,bq1,bq2,bq3,i64_w,i32_w]
       rfl
      refine pure_ (i:=8) (N:=some 79) (v:=?_) (a':=?_) (bsq 12 1023) rfl rfl (by kernel_rfl) (fun _ _ _ h=>h) (Or.inl ⟨by rfl,?_⟩) ?_ ?_
      rotate_left
      ·intro w'
       go_simp
       with_reducible rfl
      rotate_left
      ·simp only [Act.put,bq1,bq2,bq3,i64_w,i32_w]
       rfl
      exact norm_ (by simp only [putAll,Act.put,List.setIfInBounds_toArray,List.set_cons_zero,List.set_cons_succ]) (hCont (S1,(wr).heap.size) _ ⟨hHeld.1,hHeld.2.1,hHeld.2.2,HO.out,KA.out,GA.out,trivial⟩)
    rintro ⟨SD,gd⟩ wj ⟨h0,h1,h2,hOC,hBlk,hGe,_⟩
    have hHeld:wj.heap[gc]?=some (.cells (cellsC C S) 29 (0,0))∧wj.cell? (ad.add i)=some (.string s)∧Below wr.heap.size wr wj:=⟨h0,h1,h2⟩
    have HBL:=amk h2
    have HOC:=amk hOC
    have HBK:=amk hBlk
    have HGE:=amk hGe
    clear hOC hBlk hGe h0 h1 h2
    refine norm_ (a':=?_) ?_ ?_
    rotate_left
    ·simp only [putAll,Act.put,List.setIfInBounds_toArray,List.set_cons_zero,List.set_cons_succ]
     rfl
    refine last_ (i:=10) (N:=none) (bsq 12 2047) rfl rfl (by kernel_rfl) (by decide) (fun K hK=>?_)
    refine skip_ (w1:=?_) (by rfl) rfl ?_ ?_
    rotate_left
    ·refine exec_store_part 29 (.tmp 7) (.tmp 78) ?_ gd 0 (cellsC D SD) ?_ ?_ 29 _ (cellsC D SD) HBK.out (by kernel_rfl) (Nat.le_of_ble_eq_true rfl) (by kernel_rfl) rfl
     ·rfl
     ·rfl
     ·rfl
    refine hK.out _ _ ?_
    clear hK K
    refine pure_ (i:=11) (N:=some 8) (v:=?_) (a':=?_) (bsq 12 4095) rfl rfl (by kernel_rfl) (fun _ _ _ h=>h) (Or.inl ⟨by rfl,?_⟩) ?_ ?_
    rotate_left
    ·intro w'
     go_simp
     with_reducible rfl
    rotate_left
    ·simp only [Act.put,bq1,bq2,bq3,i64_w,i32_w]
     rfl
    refine done_ (by kernel_rfl) ?_
    have hb_:=HBL.out
    have hblk_:=HBK.out
    have hge_:=HGE.out
    have OV_SD:Aside0 (OC wl.heap.size wj D SD):=⟨HOC.out.weaken (hL.out).size⟩
    clear HBL HBK HGE HOC
    have E_gc_gd:=amk (Nat.lt_of_lt_of_le (blk_lt KC.out) hge_)
    have E_go_gd:=amk (Nat.lt_of_lt_of_le (blk_lt KG.out) hge_)
    have G_gd:=amk (Nat.le_trans (hL.out).size hge_)
    have BX_gd:=amk hblk_
    have B2:=amk (bws hL.out hb_)
    have K2_gc:=amk (bkb KC.out hb_)
    have K2_go:=amk (bkb KG.out hb_)
    clear hb_ hL KC KG
    clear hblk_ hge_
    obtain ⟨w_3,hw_⟩:∃ w_,wj.setRow gd (cellsC D SD)=w_:=⟨_,rfl⟩
    have hu_:Upd wj w_3 (fun k=>k=gd):=by rw [← hw_];exact Upd.setRow (Upd.refl wj (fun k=>k=gd)) (.inl rfl) _
    have kf_:w_3.heap[gd]?=some (.cells (cellsC D SD) 29 (0,0)):=by rw [← hw_];exact setRow_heap wj gd _ (cellsC D SD) 29 (0,0) BX_gd.out
    rw [hw_]
    clear hw_
    have K4_gd:=amk (kf_)
    have B4:=amk (B2.out.trans (hu_.toBelow (B:=wl.heap.size) (fun k hk=>by rw [hk];exact G_gd.out) (B2.out).size))
    have K4_gc:=amk (hu_.blk K2_gc.out (by have:=E_gc_gd.out;omega))
    have K4_go:=amk (hu_.blk K2_go.out (by have:=E_go_gd.out;omega))
    have O4_SD:=amk (OV_SD.out.boxT BX_gd.out (by decide) (by decide) hu_)
    clear hu_ B2 K2_gc K2_go OV_SD BX_gd
    clear kf_
    clear hcl0
    as_aux_lemma =>
     go_upto_region 12 with fail
     have hcl0:=HCL.out _ B4.out
     refine start_ (n:=12) (S:=fun w'=>w'.heap[gd]?=some (.cells (cellsC D SD) 29 (0,0))∧w'.cell? (ad.add i)=some (.string s)∧Below w_3.heap.size w_3 w') (ds:=[10]) (bsq 12 0) (by kernel_rfl) rfl rfl ⟨(bkb K4_gd.out (bwd (Below.refl _ _))),hcl0,bwd (Below.refl _ _)⟩ (fun hHeld=>?_)
     refine pure_ (i:=1) (N:=some 82) (v:=?_) (a':=?_) (bsq 12 2) rfl rfl (by kernel_rfl) (fun _ _ _ h=>h) (Or.inl ⟨by rfl,?_⟩) ?_ ?_
     rotate_left
     ·intro w'
      go_simp
      with_reducible rfl
     rotate_left
     ·simp only [Act.put,bq1,bq2,bq3,i64_w,i32_w]
      rfl
     refine pure_ (i:=2) (N:=some 83) (v:=?_) (a':=?_) (bsq 12 6) rfl rfl (by kernel_rfl) (fun _ _ _ h=>h) (Or.inl ⟨by rfl,?_⟩) ?_ ?_
     rotate_left
     ·intro w'
      go_simp
      with_reducible rfl
     rotate_left
     ·simp only [Act.put,bq1,bq2,bq3,i64_w,i32_w]
      rfl
     refine pure_ (i:=3) (N:=some 84) (v:=?_) (a':=?_) (bsq 12 14) rfl rfl (by kernel_rfl) (fun _ _ _ h=>h) (Or.inl ⟨by rfl,?_⟩) ?_ ?_
     rotate_left
     ·intro w'
      go_simp
      with_reducible rfl
     rotate_left
     ·simp only [Act.put,bq1,bq2,bq3,i64_w,i32_w]
      rfl
     refine take_ (i:=0) (N:=some 81) (v:=?_) (a':=?_) (bsq 12 15) rfl rfl (by kernel_rfl) (fun _ _ _ h=>h) (Or.inl ⟨by rfl,?_⟩) hHeld ?_ ?_
     rotate_left
     ·rintro w' ⟨s0,s1,s2⟩
      refine exec_load_part 29 (.tmp 7) ?_ gd 0 ?_ 29 (cellsC D SD) (cellsC D SD) (0,0) _ s0 Try.underlying29 rfl (by kernel_rfl) rfl
      ·rfl
      ·rfl
     rotate_left
     ·simp only [Act.put,bq1,bq2,bq3,i64_w,i32_w]
      rfl
     refine take_ (i:=4) (N:=some 85) (v:=?_) (a':=?_) (bsq 12 31) rfl rfl (by kernel_rfl) (fun _ _ _ h=>h) (Or.inl ⟨by rfl,?_⟩) hHeld ?_ ?_
     rotate_left
     ·rintro w' ⟨s0,s1,s2⟩
      go_simp
      with_reducible rfl
     rotate_left
     ·simp only [Act.put,bq1,bq2,bq3,i64_w,i32_w]
      rfl
     refine join_ (σ:=SlC × Nat) 2 (bsq 12 1023) (fun sg=>[(86,.tuple #[.agg (cellsC D sg.1),.int .i64 k]),(80,.tuple #[.agg (cellsC D sg.1),.int .i64 k]),(87,.agg (cellsC D sg.1)),(88,.int .i64 k),(9,.pointer (some ⟨sg.2,0,none⟩))]) (fun sg w'=>w'.heap[gd]?=some (.cells (cellsC D SD) 29 (0,0))∧w'.cell? (ad.add i)=some (.string s)∧Below w_3.heap.size w_3 w'∧OC w_3.heap.size w' D sg.1∧w'.heap[sg.2]?=some (.cells zeroC 29 (0,0))∧w_3.heap.size≤sg.2∧True) ?_ ?_
     rotate_left
     ·intro hCont
      refine two_ (i:=5) (j:=9) (Ni:=some 86) (Nj:=some 9) (bsq 12 63) (bsq 12 543) rfl rfl rfl rfl (by kernel_rfl) (by decide) (by decide) (fun K hK=>?_) (fun K hK=>?_)
      ·skip
       refine goes_ Try.func11 (by kernel_rfl) rfl #[.agg (cellsC D SD),.string s] (by rfl) rfl rfl (by simp only [List.map_toArray,List.map_cons,List.map_nil];rfl) ?_
       with_reducible refine (apply2_c D D SD s k HP.out.twice _ (O4_SD.out.cv.below (hHeld.2.2)) SMD.out).mono ?_
       rintro e wrr ⟨S1,rfl,ho,hr⟩
       refine ⟨_,rfl,?_⟩
       have HR:=amk hr
       have HO:=amk (ho.weaken (hHeld.2.2).size)
       clear hr ho
       refine hK.out _ _ ⟨(bkb hHeld.1 HR.out),pcb HR.out hHeld.2.1,bws hHeld.2.2 HR.out⟩ (fun hHeld=>?_)
       clear hK K
       refine norm_ (a':=?_) ?_ ?_
       rotate_left
       ·show Act.put _ (some 86) _=_
        simp only [Act.put,bq1,bq2,bq3,i64_w,i32_w]
        rfl
       refine pure_ (i:=6) (N:=some 80) (v:=?_) (a':=?_) (bsq 12 127) rfl rfl (by kernel_rfl) (fun _ _ _ h=>h) (Or.inl ⟨by rfl,?_⟩) ?_ ?_
       rotate_left
       ·intro w'
        go_simp
        with_reducible rfl
       rotate_left
       ·simp only [Act.put,bq1,bq2,bq3,i64_w,i32_w]
        rfl
       refine pure_ (i:=7) (N:=some 87) (v:=?_) (a':=?_) (bsq 12 255) rfl rfl (by kernel_rfl) (fun _ _ _ h=>h) (Or.inl ⟨by rfl,?_⟩) ?_ ?_
       rotate_left
       ·intro w'
        go_simp
        with_reducible rfl
       rotate_left
       ·simp only [Act.put,bq1,bq2,bq3,i64_w,i32_w]
        rfl
       refine pure_ (i:=8) (N:=some 88) (v:=?_) (a':=?_) (bsq 12 511) rfl rfl (by kernel_rfl) (fun _ _ _ h=>h) (Or.inl ⟨by rfl,?_⟩) ?_ ?_
       rotate_left
       ·intro w'
        go_simp
        with_reducible rfl
       rotate_left
       ·simp only [Act.put,bq1,bq2,bq3,i64_w,i32_w]
        rfl
       refine one_ (i:=9) (N:=some 9) (bsq 12 1023) rfl rfl (by kernel_rfl) (by decide) (fun K hK=>?_)
       refine value_ (w1:=?_) (v:=?_) (by rfl) rfl ?_ ?_
       rotate_left 2
       ·go_simp
        constructor
        ·rfl
        ·rfl
       have KA:=amk (blk_new (wrr) (.cells zeroC 29))
       have hga:w_3.heap.size≤(wrr).heap.size:=(hHeld.2.2).size
       have GA:=amk hga
       clear hga
       refine hK.out _ _ ⟨(bkb hHeld.1 (bwa (Below.refl _ _) (.cells zeroC 29))),pcb (bwa (Below.refl _ _) (.cells zeroC 29)) hHeld.2.1,bws hHeld.2.2 (bwa (Below.refl _ _) (.cells zeroC 29))⟩ (fun hHeld=>?_)
       clear hK K
       refine norm_ (a':=?_) ?_ ?_
       rotate_left
       ·show Act.put _ (some 9) _=_
        simp only [Act.put,bq1,bq2,bq3,i64_w,i32_w]
        rfl
       exact norm_ (by simp only [putAll,Act.put,List.setIfInBounds_toArray,List.set_cons_zero,List.set_cons_succ]) (hCont (S1,(wrr).heap.size) _ ⟨hHeld.1,hHeld.2.1,hHeld.2.2,(HO.out.below (bwa (Below.refl _ _) (.cells zeroC 29))),KA.out,GA.out,trivial⟩)
      ·skip
       refine value_ (w1:=?_) (v:=?_) (by rfl) rfl ?_ ?_
       rotate_left 2
       ·go_simp
        constructor
        ·rfl
        ·rfl
       have KA:=amk (blk_new (w_3.drew) (.cells zeroC 29))
       have hga:w_3.heap.size≤(w_3.drew).heap.size:=(hHeld.2.2).size
       have GA:=amk hga
       clear hga
       refine hK.out _ _ ⟨(bkb hHeld.1 (bwa (Below.refl _ _) (.cells zeroC 29))),pcb (bwa (Below.refl _ _) (.cells zeroC 29)) hHeld.2.1,bws hHeld.2.2 (bwa (Below.refl _ _) (.cells zeroC 29))⟩ (fun hHeld=>?_)
       clear hK K
       refine norm_ (a':=?_) ?_ ?_
       rotate_left
       ·show Act.put _ (some 9) _=_
        simp only [Act.put,bq1,bq2,bq3,i64_w,i32_w]
        rfl
       refine one_ (i:=5) (N:=some 86) (bsq 12 575) rfl rfl (by kernel_rfl) (by decide) (fun K hK=>?_)
       refine goes_ Try.func11 (by kernel_rfl) rfl #[.agg (cellsC D SD),.string s] (by rfl) rfl rfl (by simp only [List.map_toArray,List.map_cons,List.map_nil];rfl) ?_
       with_reducible refine (apply2_c D D SD s k HP.out.twice _ (O4_SD.out.cv.below (hHeld.2.2)) SMD.out).mono ?_
       rintro e wrr ⟨S1,rfl,ho,hr⟩
       refine ⟨_,rfl,?_⟩
       have HR:=amk hr
       have HO:=amk (ho.weaken (hHeld.2.2).size)
       clear hr ho
       have KB:=amk (bkb KA.out HR.out)
       clear KA
       have KA:=KB
       clear KB
       refine hK.out _ _ ⟨(bkb hHeld.1 HR.out),pcb HR.out hHeld.2.1,bws hHeld.2.2 HR.out⟩ (fun hHeld=>?_)
       clear hK K
       refine norm_ (a':=?_) ?_ ?_
       rotate_left
       ·show Act.put _ (some 86) _=_
        simp only [Act.put,bq1,bq2,bq3,i64_w,i32_w]
        rfl
       refine pure_ (i:=6) (N:=some 80) (v:=?_) (a':=?_) (bsq 12 639) rfl rfl (by kernel_rfl) (fun _ _ _ h=>h) (Or.inl ⟨by rfl,?_⟩) ?_ ?_
       rotate_left
       ·intro w'
        go_simp
        with_reducible rfl
       rotate_left
       ·simp only [Act.put,bq1,bq2,bq3,i64_w,i32_w]
        rfl
       refine pure_ (i:=7) (N:=some 87) (v:=?_) (a':=?_) (bsq 12 767) rfl rfl (by kernel_rfl) (fun _ _ _ h=>h) (Or.inl ⟨by rfl,?_⟩) ?_ ?_
       rotate_left
       ·intro w'
        go_simp
        with_reducible rfl
       rotate_left
       ·simp only [Act.put,bq1,bq2,bq3,i64_w,i32_w]
        rfl
       refine pure_ (i:=8) (N:=some 88) (v:=?_) (a':=?_) (bsq 12 1023) rfl rfl (by kernel_rfl) (fun _ _ _ h=>h) (Or.inl ⟨by rfl,?_⟩) ?_ ?_
       rotate_left
       ·intro w'
        go_simp
        with_reducible rfl
       rotate_left
       ·simp only [Act.put,bq1,bq2,bq3,i64_w,i32_w]
        rfl
       exact norm_ (by simp only [putAll,Act.put,List.setIfInBounds_toArray,List.set_cons_zero,List.set_cons_succ]) (hCont (S1,(w_3).heap.size) _ ⟨hHeld.1,hHeld.2.1,hHeld.2.2,HO.out,KA.out,GA.out,trivial⟩)
     rintro ⟨SE,ge⟩ wj ⟨h0,h1,h2,hOC,hBlk,hGe,_⟩
     have hHeld:wj.heap[gd]?=some (.cells (cellsC D SD) 29 (0,0))∧wj.cell? (ad.add i)=some (.string s)∧Below w_3.heap.size w_3 wj:=⟨h0,h1,h2⟩
     have HBL:=amk h2
     have HOC:=amk hOC
     have HBK:=amk hBlk
     have HGE:=amk hGe
     clear hOC hBlk hGe h0 h1 h2
     refine norm_ (a':=?_) ?_ ?_
     rotate_left
     ·simp only [putAll,Act.put,List.setIfInBounds_toArray,List.set_cons_zero,List.set_cons_succ]
      rfl
     refine last_ (i:=10) (N:=none) (bsq 12 2047) rfl rfl (by kernel_rfl) (by decide) (fun K hK=>?_)
     refine skip_ (w1:=?_) (by rfl) rfl ?_ ?_
     rotate_left
     ·refine exec_store_part 29 (.tmp 9) (.tmp 87) ?_ ge 0 (cellsC D SE) ?_ ?_ 29 _ (cellsC D SE) HBK.out (by kernel_rfl) (Nat.le_of_ble_eq_true rfl) (by kernel_rfl) rfl
      ·rfl
      ·rfl
      ·rfl
     refine hK.out _ _ ?_
     clear hK K
     refine pure_ (i:=11) (N:=some 10) (v:=?_) (a':=?_) (bsq 12 4095) rfl rfl (by kernel_rfl) (fun _ _ _ h=>h) (Or.inl ⟨by rfl,?_⟩) ?_ ?_
     rotate_left
     ·intro w'
      go_simp
      with_reducible rfl
     rotate_left
     ·simp only [Act.put,bq1,bq2,bq3,i64_w,i32_w]
      rfl
     refine done_ (by kernel_rfl) ?_
     have hb_:=HBL.out
     have hblk_:=HBK.out
     have hge_:=HGE.out
     have OV_SE:Aside0 (OC wl.heap.size wj D SE):=⟨HOC.out.weaken (B4.out).size⟩
     clear HBL HBK HGE HOC
     have E_gc_ge:=amk (Nat.lt_of_lt_of_le (blk_lt K4_gc.out) hge_)
     have E_go_ge:=amk (Nat.lt_of_lt_of_le (blk_lt K4_go.out) hge_)
     have E_gd_ge:=amk (Nat.lt_of_lt_of_le (blk_lt K4_gd.out) hge_)
     have G_ge:=amk (Nat.le_trans (B4.out).size hge_)
     have BX_ge:=amk hblk_
     have B6:=amk (bws B4.out hb_)
     have K6_gc:=amk (bkb K4_gc.out hb_)
     have K6_go:=amk (bkb K4_go.out hb_)
     have K6_gd:=amk (bkb K4_gd.out hb_)
     have O6_SD:=amk (O4_SD.out.below hb_)
     clear hb_ B4 K4_gc K4_go K4_gd O4_SD
     clear hblk_ hge_
     obtain ⟨w_7,hw_⟩:∃ w_,wj.setRow ge (cellsC D SE)=w_:=⟨_,rfl⟩
     have hu_:Upd wj w_7 (fun k=>k=ge):=by rw [← hw_];exact Upd.setRow (Upd.refl wj (fun k=>k=ge)) (.inl rfl) _
     have kf_:w_7.heap[ge]?=some (.cells (cellsC D SE) 29 (0,0)):=by rw [← hw_];exact setRow_heap wj ge _ (cellsC D SE) 29 (0,0) BX_ge.out
     rw [hw_]
     clear hw_
     have K8_ge:=amk (kf_)
     have B8:=amk (B6.out.trans (hu_.toBelow (B:=wl.heap.size) (fun k hk=>by rw [hk];exact G_ge.out) (B6.out).size))
     have K8_gc:=amk (hu_.blk K6_gc.out (by have:=E_gc_ge.out;omega))
     have K8_go:=amk (hu_.blk K6_go.out (by have:=E_go_ge.out;omega))
     have K8_gd:=amk (hu_.blk K6_gd.out (by have:=E_gd_ge.out;omega))
     have O8_SD:=amk (O6_SD.out.boxT BX_ge.out (by decide) (by decide) hu_)
     have O8_SE:=amk (OV_SE.out.boxT BX_ge.out (by decide) (by decide) hu_)
     clear hu_ B6 K6_gc K6_go K6_gd O6_SD OV_SE BX_ge
     clear kf_
     clear hcl0
     go_upto_region 13 with fail
     as_aux_lemma =>
      have NCH:∀ w',FV w' D.F SD.S→Calls Try.prog 18 #[.agg (cellsF D.F SD.S)] w' fun e w''=>e=.returned (.int .i64 0)∧Below w'.heap.size w' w'':=fun w' h1=>by
       have q:=check_f D.F SD.S w' h1
       rw [show checkS D.F.m D.F.us D.F.ms D.F.vs=0 from HP.out.chk] at q
       exact q
      have EMX:=amk HP.out.left.mx
      rcases HP.out.ack with h0 | ⟨h1,hD⟩
      rotate_left
      ·subst h1
       have N12:∀ w',CV w' C S→CV w' D SD→Calls Try.prog 12 #[.agg (cellsC C S),.agg (cellsC D SD)] w' fun e w''=>e=.returned (.bool true)∧Below w'.heap.size w' w'':=fun w' h1 h2=>by
        have hs:=HS.out
        rw [hD] at h2 ⊢
        exact rsame_c C S SD w' h1 h2 hs
       clear hD
       go_wp2_with (first | (refine wpList_load_part_g (by rfl) 29 (.tmp 2) rfl gc 0 rfl 29 (cellsC C S) (cellsC C S) (0,0) _ K8_gc.out Try.underlying29 rfl (by kernel_rfl) rfl ?_) | (refine wpList_load_part_g (by rfl) 29 (.tmp 7) rfl gd 0 rfl 29 (cellsC D SD) (cellsC D SD) (0,0) _ K8_gd.out Try.underlying29 rfl (by kernel_rfl) rfl ?_))
       refine (N12 _ (HVL.out.below B8.out) O8_SD.out.cv).mono ?_
       rintro e w_9 ⟨rfl,hb_⟩
       clear N12
       have B10:=amk (bws B8.out hb_)
       have K10_gc:=amk (bkb K8_gc.out hb_)
       have K10_go:=amk (bkb K8_go.out hb_)
       have K10_gd:=amk (bkb K8_gd.out hb_)
       have K10_ge:=amk (bkb K8_ge.out hb_)
       have O10_SD:=amk (O8_SD.out.below hb_)
       have O10_SE:=amk (O8_SE.out.below hb_)
       clear hb_ B8 K8_gc K8_go K8_gd K8_ge O8_SD O8_SE
       go_wp2_with (first | (refine wpList_load_part_g (by rfl) 29 (.tmp 7) rfl gd 0 rfl 29 (cellsC D SD) (cellsC D SD) (0,0) _ K10_gd.out Try.underlying29 rfl (by kernel_rfl) rfl ?_) | (refine wpList_load_part_g (by rfl) 29 (.tmp 9) rfl ge 0 rfl 29 (cellsC D SE) (cellsC D SE) (0,0) _ K10_ge.out Try.underlying29 rfl (by kernel_rfl) rfl ?_))
       refine (rsame_c D SD SE _ O10_SD.out.cv O10_SE.out.cv SMD.out).mono ?_
       rintro e w_11 ⟨rfl,hb_⟩
       have B12:=amk (bws B10.out hb_)
       have K12_gc:=amk (bkb K10_gc.out hb_)
       have K12_go:=amk (bkb K10_go.out hb_)
       have K12_gd:=amk (bkb K10_gd.out hb_)
       have K12_ge:=amk (bkb K10_ge.out hb_)
       have O12_SD:=amk (O10_SD.out.below hb_)
       have O12_SE:=amk (O10_SE.out.below hb_)
       clear hb_ B10 K10_gc K10_go K10_gd K10_ge O10_SD O10_SE
       go_wp2_with (refine wpList_load_part_g (by rfl) 25 (.tmp 113) rfl gd 0 rfl 29 (cellsC D SD) (cellsF D.F SD.S) (0,0) _ K12_gd.out Try.underlying25 rfl (by kernel_rfl) rfl ?_)
       refine (NCH _ O12_SD.out.cv.f).mono ?_
       rintro e w_13 ⟨rfl,hb_⟩
       clear NCH
       have B14:=amk (bws B12.out hb_)
       have K14_gc:=amk (bkb K12_gc.out hb_)
       have K14_go:=amk (bkb K12_go.out hb_)
       have K14_gd:=amk (bkb K12_gd.out hb_)
       have K14_ge:=amk (bkb K12_ge.out hb_)
       have O14_SD:=amk (O12_SD.out.below hb_)
       have O14_SE:=amk (O12_SE.out.below hb_)
       clear hb_ B12 K12_gc K12_go K12_gd K12_ge O12_SD O12_SE
       have pc12:w_13.cell? ⟨gd,12,none⟩=some (.int .i64 D.mx):=(bkc K14_gd.out 12).trans rfl
       have pf12:=bkf K14_gd.out 12
       have qc12:w_13.cell? ⟨gc,12,none⟩=some (.int .i64 C.mx):=(bkc K14_gc.out 12).trans rfl
       have qf12:=bkf K14_gc.out 12
       have emx:=EMX.out
       rw [emx] at pc12
       clear emx
       go_wp2_with fail
       try rw [wi]
       go_roundg ki
       case measure=>omega
       case rel=>exact ⟨i+1,rfl,⟨by have:=hk.out;omega⟩,B14⟩
      subst h0
      go_wp2_with (first | (refine wpList_load_part_g (by rfl) 29 (.tmp 7) rfl gd 0 rfl 29 (cellsC D SD) (cellsC D SD) (0,0) _ K8_gd.out Try.underlying29 rfl (by kernel_rfl) rfl ?_) | (refine wpList_load_part_g (by rfl) 29 (.tmp 9) rfl ge 0 rfl 29 (cellsC D SE) (cellsC D SE) (0,0) _ K8_ge.out Try.underlying29 rfl (by kernel_rfl) rfl ?_))
      refine (rsame_c D SD SE _ O8_SD.out.cv O8_SE.out.cv SMD.out).mono ?_
      rintro e w_15 ⟨rfl,hb_⟩
      have B16:=amk (bws B8.out hb_)
      have K16_gc:=amk (bkb K8_gc.out hb_)
      have K16_go:=amk (bkb K8_go.out hb_)
      have K16_gd:=amk (bkb K8_gd.out hb_)
      have K16_ge:=amk (bkb K8_ge.out hb_)
      have O16_SD:=amk (O8_SD.out.below hb_)
      have O16_SE:=amk (O8_SE.out.below hb_)
      clear hb_ B8 K8_gc K8_go K8_gd K8_ge O8_SD O8_SE
      go_wp2_with (refine wpList_load_part_g (by rfl) 25 (.tmp 113) rfl gd 0 rfl 29 (cellsC D SD) (cellsF D.F SD.S) (0,0) _ K16_gd.out Try.underlying25 rfl (by kernel_rfl) rfl ?_)
      refine (NCH _ O16_SD.out.cv.f).mono ?_
      rintro e w_17 ⟨rfl,hb_⟩
      clear NCH
      have B18:=amk (bws B16.out hb_)
      have K18_gc:=amk (bkb K16_gc.out hb_)
      have K18_go:=amk (bkb K16_go.out hb_)
      have K18_gd:=amk (bkb K16_gd.out hb_)
      have K18_ge:=amk (bkb K16_ge.out hb_)
      have O18_SD:=amk (O16_SD.out.below hb_)
      have O18_SE:=amk (O16_SE.out.below hb_)
      clear hb_ B16 K16_gc K16_go K16_gd K16_ge O16_SD O16_SE
      have pc12:w_17.cell? ⟨gd,12,none⟩=some (.int .i64 D.mx):=(bkc K18_gd.out 12).trans rfl
      have pf12:=bkf K18_gd.out 12
      have qc12:w_17.cell? ⟨gc,12,none⟩=some (.int .i64 C.mx):=(bkc K18_gc.out 12).trans rfl
      have qf12:=bkf K18_gc.out 12
      have emx:=EMX.out
      rw [emx] at pc12
      clear emx
      as_aux_lemma =>
       go_upto_region 16 with fail
       clear pc12 pf12 qc12 qf12
       have HQ:=amk (HP.out.said rfl)
       (try clear c1);(try clear c2);(try clear c3);(try clear c4);(try clear c5)
       (try clear HCL);(try clear EMX)
       have HWI:=amk wi
       clear wi
       rcases (show i=0∨i=1∨i=2∨i=3∨i=4 by have:=HI5.out;omega) with hi | hi | hi | hi | hi
       ·have i1:((i:Int) == 1)=false:=beq_eq_false_iff_ne.2 (by omega)
        have i2:((i:Int) == 2)=false:=beq_eq_false_iff_ne.2 (by omega)
        have i3:((i:Int) == 3)=false:=beq_eq_false_iff_ne.2 (by omega)
        have i4:((i:Int) == 4)=false:=beq_eq_false_iff_ne.2 (by omega)
        have i5:decide ((i:Int) < 4)=true:=decide_eq_true (by omega)
        have i6:decide ((i:Int) > 3)=false:=decide_eq_false (by omega)
        have HI:=amk hi
        clear hi
        as_aux_lemma =>
         refine start_ (n:=66) (S:=fun w'=>Below w_17.heap.size w_17 w') (ds:=[]) (bsq 66 0) (by kernel_rfl) rfl rfl (bwd (Below.refl _ _)) (fun hHeld=>?_)
         refine pure_ (i:=0) (N:=some 127) (v:=?_) (a':=?_) (bsq 66 1) rfl rfl (by kernel_rfl) (fun _ _ _ h=>h) (Or.inl ⟨by rfl,?_⟩) ?_ ?_
         rotate_left
         ·intro w'
          go_simp
          with_reducible rfl
         rotate_left
         ·simp only [Act.put,bq1,bq2,bq3,i64_w,i32_w]
          rfl
         refine pure_ (i:=1) (N:=some 128) (v:=?_) (a':=?_) (bsq 66 3) rfl rfl (by kernel_rfl) (fun _ _ _ h=>h) (Or.inl ⟨by rfl,?_⟩) ?_ ?_
         rotate_left
         ·intro w'
          go_simp
          with_reducible rfl
         rotate_left
         ·simp only [Act.put,bq1,bq2,bq3,i64_w,i32_w]
          rfl
         refine pure_ (i:=2) (N:=some 129) (v:=?_) (a':=?_) (bsq 66 7) rfl rfl (by kernel_rfl) (fun _ _ _ h=>h) (Or.inl ⟨by rfl,?_⟩) ?_ ?_
         rotate_left
         ·intro w'
          go_simp
          with_reducible rfl
         rotate_left
         ·simp only [Act.put,bq1,bq2,bq3,i64_w,i32_w]
          rfl
         refine pure_ (i:=3) (N:=some 130) (v:=undef) (a':=?_) (bsq 66 15) rfl rfl (by kernel_rfl) (fun _ _ _ h=>h) (Or.inr ⟨by rfl,rfl⟩) ?_ ?_
         rotate_left
         ·simp only [Act.put,bq1,bq2,bq3,i64_w,i32_w]
          rfl
         refine pure_ (i:=4) (N:=some 131) (v:=undef) (a':=?_) (bsq 66 31) rfl rfl (by kernel_rfl) (fun _ _ _ h=>h) (Or.inr ⟨by rfl,rfl⟩) ?_ ?_
         rotate_left
         ·simp only [Act.put,bq1,bq2,bq3,i64_w,i32_w]
          rfl
         refine pure_ (i:=5) (N:=some 132) (v:=undef) (a':=?_) (bsq 66 63) rfl rfl (by kernel_rfl) (fun _ _ _ h=>h) (Or.inr ⟨by rfl,rfl⟩) ?_ ?_
         rotate_left
         ·simp only [Act.put,bq1,bq2,bq3,i64_w,i32_w]
          rfl
         refine pure_ (i:=6) (N:=some 133) (v:=undef) (a':=?_) (bsq 66 127) rfl rfl (by kernel_rfl) (fun _ _ _ h=>h) (Or.inr ⟨by rfl,rfl⟩) ?_ ?_
         rotate_left
         ·simp only [Act.put,bq1,bq2,bq3,i64_w,i32_w]
          rfl
         refine pure_ (i:=7) (N:=some 134) (v:=undef) (a':=?_) (bsq 66 255) rfl rfl (by kernel_rfl) (fun _ _ _ h=>h) (Or.inr ⟨by rfl,rfl⟩) ?_ ?_
         rotate_left
         ·simp only [Act.put,bq1,bq2,bq3,i64_w,i32_w]
          rfl
         refine pure_ (i:=8) (N:=some 135) (v:=undef) (a':=?_) (bsq 66 511) rfl rfl (by kernel_rfl) (fun _ _ _ h=>h) (Or.inr ⟨by rfl,rfl⟩) ?_ ?_
         rotate_left
         ·simp only [Act.put,bq1,bq2,bq3,i64_w,i32_w]
          rfl
         refine pure_ (i:=9) (N:=some 136) (v:=undef) (a':=?_) (bsq 66 1023) rfl rfl (by kernel_rfl) (fun _ _ _ h=>h) (Or.inr ⟨by rfl,rfl⟩) ?_ ?_
         rotate_left
         ·simp only [Act.put,bq1,bq2,bq3,i64_w,i32_w]
          rfl
         refine pure_ (i:=10) (N:=some 137) (v:=undef) (a':=?_) (bsq 66 2047) rfl rfl (by kernel_rfl) (fun _ _ _ h=>h) (Or.inr ⟨by rfl,rfl⟩) ?_ ?_
         rotate_left
         ·simp only [Act.put,bq1,bq2,bq3,i64_w,i32_w]
          rfl
         refine pure_ (i:=11) (N:=some 138) (v:=undef) (a':=?_) (bsq 66 4095) rfl rfl (by kernel_rfl) (fun _ _ _ h=>h) (Or.inr ⟨by rfl,rfl⟩) ?_ ?_
         rotate_left
         ·simp only [Act.put,bq1,bq2,bq3,i64_w,i32_w]
          rfl
         refine pure_ (i:=12) (N:=some 139) (v:=undef) (a':=?_) (bsq 66 8191) rfl rfl (by kernel_rfl) (fun _ _ _ h=>h) (Or.inr ⟨by rfl,rfl⟩) ?_ ?_
         rotate_left
         ·simp only [Act.put,bq1,bq2,bq3,i64_w,i32_w]
          rfl
         as_aux_lemma =>
          refine pure_ (i:=13) (N:=some 140) (v:=undef) (a':=?_) (bsq 66 16383) rfl rfl (by kernel_rfl) (fun _ _ _ h=>h) (Or.inr ⟨by rfl,rfl⟩) ?_ ?_
          rotate_left
          ·simp only [Act.put,bq1,bq2,bq3,i64_w,i32_w]
           rfl
          refine pure_ (i:=14) (N:=some 141) (v:=undef) (a':=?_) (bsq 66 32767) rfl rfl (by kernel_rfl) (fun _ _ _ h=>h) (Or.inr ⟨by rfl,rfl⟩) ?_ ?_
          rotate_left
          ·simp only [Act.put,bq1,bq2,bq3,i64_w,i32_w]
           rfl
          refine pure_ (i:=15) (N:=some 142) (v:=undef) (a':=?_) (bsq 66 65535) rfl rfl (by kernel_rfl) (fun _ _ _ h=>h) (Or.inr ⟨by rfl,rfl⟩) ?_ ?_
          rotate_left
          ·simp only [Act.put,bq1,bq2,bq3,i64_w,i32_w]
           rfl
          refine pure_ (i:=16) (N:=some 143) (v:=undef) (a':=?_) (bsq 66 131071) rfl rfl (by kernel_rfl) (fun _ _ _ h=>h) (Or.inr ⟨by rfl,rfl⟩) ?_ ?_
          rotate_left
          ·simp only [Act.put,bq1,bq2,bq3,i64_w,i32_w]
           rfl
          refine pure_ (i:=17) (N:=some 144) (v:=undef) (a':=?_) (bsq 66 262143) rfl rfl (by kernel_rfl) (fun _ _ _ h=>h) (Or.inr ⟨by rfl,rfl⟩) ?_ ?_
          rotate_left
          ·simp only [Act.put,bq1,bq2,bq3,i64_w,i32_w]
           rfl
          refine pure_ (i:=18) (N:=some 145) (v:=undef) (a':=?_) (bsq 66 524287) rfl rfl (by kernel_rfl) (fun _ _ _ h=>h) (Or.inr ⟨by rfl,rfl⟩) ?_ ?_
          rotate_left
          ·simp only [Act.put,bq1,bq2,bq3,i64_w,i32_w]
           rfl
          refine pure_ (i:=19) (N:=some 146) (v:=undef) (a':=?_) (bsq 66 1048575) rfl rfl (by kernel_rfl) (fun _ _ _ h=>h) (Or.inr ⟨by rfl,rfl⟩) ?_ ?_
          rotate_left
          ·simp only [Act.put,bq1,bq2,bq3,i64_w,i32_w]
           rfl
          refine pure_ (i:=20) (N:=some 147) (v:=undef) (a':=?_) (bsq 66 2097151) rfl rfl (by kernel_rfl) (fun _ _ _ h=>h) (Or.inr ⟨by rfl,rfl⟩) ?_ ?_
          rotate_left
          ·simp only [Act.put,bq1,bq2,bq3,i64_w,i32_w]
           rfl
          refine pure_ (i:=21) (N:=some 148) (v:=?_) (a':=?_) (bsq 66 4194303) rfl rfl (by kernel_rfl) (fun _ _ _ h=>h) (Or.inl ⟨by rfl,?_⟩) ?_ ?_
          rotate_left
          ·intro w'
           go_simp
           with_reducible rfl
          rotate_left
          ·simp only [Act.put,bq1,bq2,bq3,i64_w,i32_w]
           rfl
          refine pure_ (i:=22) (N:=some 149) (v:=?_) (a':=?_) (bsq 66 8388607) rfl rfl (by kernel_rfl) (fun _ _ _ h=>h) (Or.inl ⟨by rfl,?_⟩) ?_ ?_
          rotate_left
          ·intro w'
           go_simp
           with_reducible rfl
          rotate_left
          ·simp only [Act.put,bq1,bq2,bq3,i64_w,i32_w]
           rfl
          refine pure_ (i:=23) (N:=some 150) (v:=?_) (a':=?_) (bsq 66 16777215) rfl rfl (by kernel_rfl) (fun _ _ _ h=>h) (Or.inl ⟨by rfl,?_⟩) ?_ ?_
          rotate_left
          ·intro w'
           go_simp
           with_reducible rfl
          rotate_left
          ·simp only [Act.put,bq1,bq2,bq3,i64_w,i32_w]
           rfl
          refine pure_ (i:=24) (N:=some 151) (v:=?_) (a':=?_) (bsq 66 33554431) rfl rfl (by kernel_rfl) (fun _ _ _ h=>h) (Or.inl ⟨by rfl,?_⟩) ?_ ?_
          rotate_left
          ·intro w'
           go_simp
           with_reducible rfl
          rotate_left
          ·simp only [Act.put,bq1,bq2,bq3,i64_w,i32_w]
           rfl
          refine pure_ (i:=25) (N:=some 152) (v:=?_) (a':=?_) (bsq 66 67108863) rfl rfl (by kernel_rfl) (fun _ _ _ h=>h) (Or.inl ⟨by rfl,?_⟩) ?_ ?_
          rotate_left
          ·intro w'
           go_simp
           with_reducible rfl
          rotate_left
          ·simp only [Act.put,bq1,bq2,bq3,i64_w,i32_w]
           rfl
          refine pure_ (i:=26) (N:=some 153) (v:=undef) (a':=?_) (bsq 66 134217727) rfl rfl (by kernel_rfl) (fun _ _ _ h=>h) (Or.inr ⟨by rfl,rfl⟩) ?_ ?_
          rotate_left
          ·simp only [Act.put,bq1,bq2,bq3,i64_w,i32_w]
           rfl
          as_aux_lemma =>
           refine pure_ (i:=27) (N:=some 154) (v:=undef) (a':=?_) (bsq 66 268435455) rfl rfl (by kernel_rfl) (fun _ _ _ h=>h) (Or.inr ⟨by rfl,rfl⟩) ?_ ?_
           rotate_left
           ·simp only [Act.put,bq1,bq2,bq3,i64_w,i32_w]
            rfl
           refine pure_ (i:=28) (N:=some 155) (v:=undef) (a':=?_) (bsq 66 536870911) rfl rfl (by kernel_rfl) (fun _ _ _ h=>h) (Or.inr ⟨by rfl,rfl⟩) ?_ ?_
           rotate_left
           ·simp only [Act.put,bq1,bq2,bq3,i64_w,i32_w]
            rfl
           refine pure_ (i:=29) (N:=some 156) (v:=undef) (a':=?_) (bsq 66 1073741823) rfl rfl (by kernel_rfl) (fun _ _ _ h=>h) (Or.inr ⟨by rfl,rfl⟩) ?_ ?_
           rotate_left
           ·simp only [Act.put,bq1,bq2,bq3,i64_w,i32_w]
            rfl
           refine pure_ (i:=30) (N:=some 157) (v:=undef) (a':=?_) (bsq 66 2147483647) rfl rfl (by kernel_rfl) (fun _ _ _ h=>h) (Or.inr ⟨by rfl,rfl⟩) ?_ ?_
           rotate_left
           ·simp only [Act.put,bq1,bq2,bq3,i64_w,i32_w]
            rfl
           refine pure_ (i:=31) (N:=some 158) (v:=undef) (a':=?_) (bsq 66 4294967295) rfl rfl (by kernel_rfl) (fun _ _ _ h=>h) (Or.inr ⟨by rfl,rfl⟩) ?_ ?_
           rotate_left
           ·simp only [Act.put,bq1,bq2,bq3,i64_w,i32_w]
            rfl
           refine pure_ (i:=32) (N:=some 159) (v:=?_) (a':=?_) (bsq 66 8589934591) rfl rfl (by kernel_rfl) (fun _ _ _ h=>h) (Or.inl ⟨by rfl,?_⟩) ?_ ?_
           rotate_left
           ·intro w'
            go_simp
            with_reducible rfl
           rotate_left
           ·simp only [Act.put,bq1,bq2,bq3,i64_w,i32_w]
            rfl
           refine pure_ (i:=33) (N:=some 160) (v:=?_) (a':=?_) (bsq 66 17179869183) rfl rfl (by kernel_rfl) (fun _ _ _ h=>h) (Or.inl ⟨by rfl,?_⟩) ?_ ?_
           rotate_left
           ·intro w'
            go_simp
            with_reducible rfl
           rotate_left
           ·simp only [Act.put,bq1,bq2,bq3,i64_w,i32_w]
            rfl
           refine pure_ (i:=34) (N:=some 161) (v:=?_) (a':=?_) (bsq 66 34359738367) rfl rfl (by kernel_rfl) (fun _ _ _ h=>h) (Or.inl ⟨by rfl,?_⟩) ?_ ?_
           rotate_left
           ·intro w'
            go_simp
            with_reducible rfl
           rotate_left
           ·simp only [Act.put,bq1,bq2,bq3,i64_w,i32_w]
            rfl
           refine pure_ (i:=35) (N:=some 162) (v:=?_) (a':=?_) (bsq 66 68719476735) rfl rfl (by kernel_rfl) (fun _ _ _ h=>h) (Or.inl ⟨by rfl,?_⟩) ?_ ?_
           rotate_left
           ·intro w'
            go_simp
            with_reducible rfl
           rotate_left
           ·simp only [Act.put,bq1,bq2,bq3,i64_w,i32_w]
            rfl
           refine pure_ (i:=36) (N:=some 163) (v:=?_) (a':=?_) (bsq 66 137438953471) rfl rfl (by kernel_rfl) (fun _ _ _ h=>h) (Or.inl ⟨by rfl,?_⟩) ?_ ?_
           rotate_left
           ·intro w'
            go_simp
            with_reducible rfl
           rotate_left
           ·simp only [Act.put,bq1,bq2,bq3,i64_w,i32_w]
            rfl
           refine pure_ (i:=37) (N:=some 164) (v:=?_) (a':=?_) (bsq 66 274877906943) rfl rfl (by kernel_rfl) (fun _ _ _ h=>h) (Or.inl ⟨by rfl,?_⟩) ?_ ?_
           rotate_left
           ·intro w'
            go_simp
            with_reducible rfl
           rotate_left
           ·simp only [Act.put,bq1,bq2,bq3,i64_w,i32_w]
            rfl
           refine pure_ (i:=38) (N:=some 165) (v:=undef) (a':=?_) (bsq 66 549755813887) rfl rfl (by kernel_rfl) (fun _ _ _ h=>h) (Or.inr ⟨by rfl,rfl⟩) ?_ ?_
           rotate_left
           ·simp only [Act.put,bq1,bq2,bq3,i64_w,i32_w]
            rfl
           refine pure_ (i:=39) (N:=some 166) (v:=undef) (a':=?_) (bsq 66 1099511627775) rfl rfl (by kernel_rfl) (fun _ _ _ h=>h) (Or.inr ⟨by rfl,rfl⟩) ?_ ?_
           rotate_left
           ·simp only [Act.put,bq1,bq2,bq3,i64_w,i32_w]
            rfl
           refine pure_ (i:=40) (N:=some 167) (v:=undef) (a':=?_) (bsq 66 2199023255551) rfl rfl (by kernel_rfl) (fun _ _ _ h=>h) (Or.inr ⟨by rfl,rfl⟩) ?_ ?_
           rotate_left
           ·simp only [Act.put,bq1,bq2,bq3,i64_w,i32_w]
            rfl
           as_aux_lemma =>
            refine pure_ (i:=41) (N:=some 168) (v:=undef) (a':=?_) (bsq 66 4398046511103) rfl rfl (by kernel_rfl) (fun _ _ _ h=>h) (Or.inr ⟨by rfl,rfl⟩) ?_ ?_
            rotate_left
            ·simp only [Act.put,bq1,bq2,bq3,i64_w,i32_w]
             rfl
            refine pure_ (i:=42) (N:=some 169) (v:=undef) (a':=?_) (bsq 66 8796093022207) rfl rfl (by kernel_rfl) (fun _ _ _ h=>h) (Or.inr ⟨by rfl,rfl⟩) ?_ ?_
            rotate_left
            ·simp only [Act.put,bq1,bq2,bq3,i64_w,i32_w]
             rfl
            refine pure_ (i:=43) (N:=some 170) (v:=undef) (a':=?_) (bsq 66 17592186044415) rfl rfl (by kernel_rfl) (fun _ _ _ h=>h) (Or.inr ⟨by rfl,rfl⟩) ?_ ?_
            rotate_left
            ·simp only [Act.put,bq1,bq2,bq3,i64_w,i32_w]
             rfl
            refine pure_ (i:=44) (N:=some 171) (v:=undef) (a':=?_) (bsq 66 35184372088831) rfl rfl (by kernel_rfl) (fun _ _ _ h=>h) (Or.inr ⟨by rfl,rfl⟩) ?_ ?_
            rotate_left
            ·simp only [Act.put,bq1,bq2,bq3,i64_w,i32_w]
             rfl
            refine pure_ (i:=45) (N:=some 172) (v:=undef) (a':=?_) (bsq 66 70368744177663) rfl rfl (by kernel_rfl) (fun _ _ _ h=>h) (Or.inr ⟨by rfl,rfl⟩) ?_ ?_
            rotate_left
            ·simp only [Act.put,bq1,bq2,bq3,i64_w,i32_w]
             rfl
            refine pure_ (i:=46) (N:=some 173) (v:=undef) (a':=?_) (bsq 66 140737488355327) rfl rfl (by kernel_rfl) (fun _ _ _ h=>h) (Or.inr ⟨by rfl,rfl⟩) ?_ ?_
            rotate_left
            ·simp only [Act.put,bq1,bq2,bq3,i64_w,i32_w]
             rfl
            refine pure_ (i:=47) (N:=some 174) (v:=undef) (a':=?_) (bsq 66 281474976710655) rfl rfl (by kernel_rfl) (fun _ _ _ h=>h) (Or.inr ⟨by rfl,rfl⟩) ?_ ?_
            rotate_left
            ·simp only [Act.put,bq1,bq2,bq3,i64_w,i32_w]
             rfl
            refine pure_ (i:=48) (N:=some 175) (v:=?_) (a':=?_) (bsq 66 562949953421311) rfl rfl (by kernel_rfl) (fun _ _ _ h=>h) (Or.inl ⟨by rfl,?_⟩) ?_ ?_
            rotate_left
            ·intro w'
             go_simp
             with_reducible rfl
            rotate_left
            ·simp only [Act.put,bq1,bq2,bq3,i64_w,i32_w]
             rfl
            refine pure_ (i:=49) (N:=some 176) (v:=?_) (a':=?_) (bsq 66 1125899906842623) rfl rfl (by kernel_rfl) (fun _ _ _ h=>h) (Or.inl ⟨by rfl,?_⟩) ?_ ?_
            rotate_left
            ·intro w'
             go_simp
             with_reducible rfl
            rotate_left
            ·simp only [Act.put,bq1,bq2,bq3,i64_w,i32_w]
             rfl
            refine pure_ (i:=50) (N:=some 177) (v:=?_) (a':=?_) (bsq 66 2251799813685247) rfl rfl (by kernel_rfl) (fun _ _ _ h=>h) (Or.inl ⟨by rfl,?_⟩) ?_ ?_
            rotate_left
            ·intro w'
             go_simp
             with_reducible rfl
            rotate_left
            ·simp only [Act.put,bq1,bq2,bq3,i64_w,i32_w]
             rfl
            refine pure_ (i:=51) (N:=some 178) (v:=?_) (a':=?_) (bsq 66 4503599627370495) rfl rfl (by kernel_rfl) (fun _ _ _ h=>h) (Or.inl ⟨by rfl,?_⟩) ?_ ?_
            rotate_left
            ·intro w'
             go_simp
             with_reducible rfl
            rotate_left
            ·simp only [Act.put,bq1,bq2,bq3,i64_w,i32_w]
             rfl
            refine pure_ (i:=52) (N:=some 179) (v:=?_) (a':=?_) (bsq 66 9007199254740991) rfl rfl (by kernel_rfl) (fun _ _ _ h=>h) (Or.inl ⟨by rfl,?_⟩) ?_ ?_
            rotate_left
            ·intro w'
             go_simp
             with_reducible rfl
            rotate_left
            ·simp only [Act.put,bq1,bq2,bq3,i64_w,i32_w]
             rfl
            refine pure_ (i:=53) (N:=some 180) (v:=?_) (a':=?_) (bsq 66 18014398509481983) rfl rfl (by kernel_rfl) (fun _ _ _ h=>h) (Or.inl ⟨by rfl,?_⟩) ?_ ?_
            rotate_left
            ·intro w'
             go_simp
             with_reducible rfl
            rotate_left
            ·simp only [Act.put,bq1,bq2,bq3,i64_w,i32_w]
             rfl
            refine pure_ (i:=54) (N:=some 181) (v:=undef) (a':=?_) (bsq 66 36028797018963967) rfl rfl (by kernel_rfl) (fun _ _ _ h=>h) (Or.inr ⟨by rfl,rfl⟩) ?_ ?_
            rotate_left
            ·simp only [Act.put,bq1,bq2,bq3,i64_w,i32_w]
             rfl
            as_aux_lemma =>
             refine pure_ (i:=55) (N:=some 182) (v:=undef) (a':=?_) (bsq 66 72057594037927935) rfl rfl (by kernel_rfl) (fun _ _ _ h=>h) (Or.inr ⟨by rfl,rfl⟩) ?_ ?_
             rotate_left
             ·simp only [Act.put,bq1,bq2,bq3,i64_w,i32_w]
              rfl
             refine pure_ (i:=56) (N:=some 183) (v:=undef) (a':=?_) (bsq 66 144115188075855871) rfl rfl (by kernel_rfl) (fun _ _ _ h=>h) (Or.inr ⟨by rfl,rfl⟩) ?_ ?_
             rotate_left
             ·simp only [Act.put,bq1,bq2,bq3,i64_w,i32_w]
              rfl
             refine pure_ (i:=57) (N:=some 184) (v:=undef) (a':=?_) (bsq 66 288230376151711743) rfl rfl (by kernel_rfl) (fun _ _ _ h=>h) (Or.inr ⟨by rfl,rfl⟩) ?_ ?_
             rotate_left
             ·simp only [Act.put,bq1,bq2,bq3,i64_w,i32_w]
              rfl
             refine pure_ (i:=58) (N:=some 185) (v:=undef) (a':=?_) (bsq 66 576460752303423487) rfl rfl (by kernel_rfl) (fun _ _ _ h=>h) (Or.inr ⟨by rfl,rfl⟩) ?_ ?_
             rotate_left
             ·simp only [Act.put,bq1,bq2,bq3,i64_w,i32_w]
              rfl
             refine pure_ (i:=59) (N:=some 186) (v:=undef) (a':=?_) (bsq 66 1152921504606846975) rfl rfl (by kernel_rfl) (fun _ _ _ h=>h) (Or.inr ⟨by rfl,rfl⟩) ?_ ?_
             rotate_left
             ·simp only [Act.put,bq1,bq2,bq3,i64_w,i32_w]
              rfl
             refine pure_ (i:=60) (N:=some 187) (v:=undef) (a':=?_) (bsq 66 2305843009213693951) rfl rfl (by kernel_rfl) (fun _ _ _ h=>h) (Or.inr ⟨by rfl,rfl⟩) ?_ ?_
             rotate_left
             ·simp only [Act.put,bq1,bq2,bq3,i64_w,i32_w]
              rfl
             refine pure_ (i:=61) (N:=some 188) (v:=undef) (a':=?_) (bsq 66 4611686018427387903) rfl rfl (by kernel_rfl) (fun _ _ _ h=>h) (Or.inr ⟨by rfl,rfl⟩) ?_ ?_
             rotate_left
             ·simp only [Act.put,bq1,bq2,bq3,i64_w,i32_w]
              rfl
             refine pure_ (i:=62) (N:=some 189) (v:=undef) (a':=?_) (bsq 66 9223372036854775807) rfl rfl (by kernel_rfl) (fun _ _ _ h=>h) (Or.inr ⟨by rfl,rfl⟩) ?_ ?_
             rotate_left
             ·simp only [Act.put,bq1,bq2,bq3,i64_w,i32_w]
              rfl
             refine pure_ (i:=63) (N:=some 190) (v:=undef) (a':=?_) (bsq 66 18446744073709551615) rfl rfl (by kernel_rfl) (fun _ _ _ h=>h) (Or.inr ⟨by rfl,rfl⟩) ?_ ?_
             rotate_left
             ·simp only [Act.put,bq1,bq2,bq3,i64_w,i32_w]
              rfl
             refine pure_ (i:=64) (N:=some 191) (v:=?_) (a':=?_) (bsq 66 36893488147419103231) rfl rfl (by kernel_rfl) (fun _ _ _ h=>h) (Or.inl ⟨by rfl,?_⟩) ?_ ?_
             rotate_left
             ·intro w'
              go_simp
              with_reducible rfl
             rotate_left
             ·simp only [Act.put,bq1,bq2,bq3,i64_w,i32_w]
              rfl
             refine pure_ (i:=65) (N:=some 192) (v:=?_) (a':=?_) (bsq 66 73786976294838206463) rfl rfl (by kernel_rfl) (fun _ _ _ h=>h) (Or.inl ⟨by rfl,?_⟩) ?_ ?_
             rotate_left
             ·intro w'
              go_simp
              with_reducible rfl
             rotate_left
             ·simp only [Act.put,bq1,bq2,bq3,i64_w,i32_w]
              rfl
             refine done_ (by kernel_rfl) ?_
             have hb_:=bwd (Below.refl w_17.heap.size w_17)
             obtain ⟨w_19,hw_⟩:∃ x,w_17.drew=x:=⟨_,rfl⟩
             rw [hw_] at hb_ ⊢
             clear hw_
             have B20:=amk (bws B18.out hb_)
             have K20_gc:=amk (bkb K18_gc.out hb_)
             have K20_go:=amk (bkb K18_go.out hb_)
             have K20_gd:=amk (bkb K18_gd.out hb_)
             have K20_ge:=amk (bkb K18_ge.out hb_)
             have O20_SD:=amk (O18_SD.out.below hb_)
             have O20_SE:=amk (O18_SE.out.below hb_)
             clear hb_ B18 K18_gc K18_go K18_gd K18_ge O18_SD O18_SE
             as_aux_lemma =>
              have pc11:w_19.cell? ⟨gd,11,none⟩=some (.int .i64 D.p):=(bkc K20_gd.out 11).trans rfl
              have pf11:=bkf K20_gd.out 11
              have pc13:w_19.cell? ⟨gd,13,none⟩=some (.bool D.on):=(bkc K20_gd.out 13).trans rfl
              have pf13:=bkf K20_gd.out 13
              have qc11:w_19.cell? ⟨gc,11,none⟩=some (.int .i64 C.p):=(bkc K20_gc.out 11).trans rfl
              have qf11:=bkf K20_gc.out 11
              have qc13:w_19.cell? ⟨gc,13,none⟩=some (.bool C.on):=(bkc K20_gc.out 13).trans rfl
              have qf13:=bkf K20_gc.out 13
              have q0_:=HQ.out.lo (by have:=HI.out;omega)
              rw [q0_.1] at pc11
              rw [q0_.2] at pc13
              clear q0_
              have wi:=HWI.out
              go_wp2_with fail
              try rw [wi]
              go_roundg ki
              case measure=>omega
              case rel=>exact ⟨i+1,rfl,⟨by have:=hk.out;omega⟩,B20⟩
       ·have i1:((i:Int) == 1)=true:=beq_iff_eq.2 (by omega)
        have i2:((i:Int) == 2)=false:=beq_eq_false_iff_ne.2 (by omega)
        have i3:((i:Int) == 3)=false:=beq_eq_false_iff_ne.2 (by omega)
        have i4:((i:Int) == 4)=false:=beq_eq_false_iff_ne.2 (by omega)
        have i5:decide ((i:Int) < 4)=true:=decide_eq_true (by omega)
        have i6:decide ((i:Int) > 3)=false:=decide_eq_false (by omega)
        have HI:=amk hi
        clear hi
        have e1:((D.F.us.length:Int) == (us.length:Int))=true:=beq_iff_eq.2 (by have:=(HQ.out.q1 HI.out).1;omega)
        have e2:((D.F.ms.length:Int) == (ms.length:Int))=true:=beq_iff_eq.2 (by have:=(HQ.out.q1 HI.out).2;omega)
        have ez1:=(HQ.out.q1 HI.out).1
        have ez2:=(HQ.out.q1 HI.out).2
        as_aux_lemma =>
         refine start_ (n:=66) (S:=fun w'=>w'.cell? ⟨gd,7,none⟩=some (.slice SD.S.A7 D.F.us.length SD.S.c7)∧w'.cell? ⟨gd,8,none⟩=some (.slice SD.S.A8 D.F.ms.length SD.S.c8)∧w'.cell? ⟨go,4,none⟩=some (.slice Au us.length cu)∧w'.cell? ⟨go,5,none⟩=some (.slice Am ms.length cm)∧Below w_17.heap.size w_17 w') (ds:=[]) (bsq 66 0) (by kernel_rfl) rfl rfl ⟨(bkc K18_gd.out 7).trans rfl,(bkc K18_gd.out 8).trans rfl,(bkc K18_go.out 4).trans rfl,(bkc K18_go.out 5).trans rfl,bwd (Below.refl _ _)⟩ (fun hHeld=>?_)
         refine pure_ (i:=0) (N:=some 127) (v:=?_) (a':=?_) (bsq 66 1) rfl rfl (by kernel_rfl) (fun _ _ _ h=>h) (Or.inl ⟨by rfl,?_⟩) ?_ ?_
         rotate_left
         ·intro w'
          go_simp
          with_reducible rfl
         rotate_left
         ·simp only [Act.put,bq1,bq2,bq3,i64_w,i32_w]
          rfl
         refine pure_ (i:=1) (N:=some 128) (v:=?_) (a':=?_) (bsq 66 3) rfl rfl (by kernel_rfl) (fun _ _ _ h=>h) (Or.inl ⟨by rfl,?_⟩) ?_ ?_
         rotate_left
         ·intro w'
          go_simp
          with_reducible rfl
         rotate_left
         ·simp only [Act.put,bq1,bq2,bq3,i64_w,i32_w]
          rfl
         refine pure_ (i:=2) (N:=some 129) (v:=?_) (a':=?_) (bsq 66 7) rfl rfl (by kernel_rfl) (fun _ _ _ h=>h) (Or.inl ⟨by rfl,?_⟩) ?_ ?_
         rotate_left
         ·intro w'
          go_simp
          with_reducible rfl
         rotate_left
         ·simp only [Act.put,bq1,bq2,bq3,i64_w,i32_w]
          rfl
         refine pure_ (i:=3) (N:=some 130) (v:=?_) (a':=?_) (bsq 66 15) rfl rfl (by kernel_rfl) (fun _ _ _ h=>h) (Or.inl ⟨by rfl,?_⟩) ?_ ?_
         rotate_left
         ·intro w'
          go_simp
          with_reducible rfl
         rotate_left
         ·simp only [Act.put,bq1,bq2,bq3,i64_w,i32_w]
          rfl
         refine pure_ (i:=4) (N:=some 131) (v:=?_) (a':=?_) (bsq 66 31) rfl rfl (by kernel_rfl) (fun _ _ _ h=>h) (Or.inl ⟨by rfl,?_⟩) ?_ ?_
         rotate_left
         ·intro w'
          go_simp
          with_reducible rfl
         rotate_left
         ·simp only [Act.put,bq1,bq2,bq3,i64_w,i32_w]
          rfl
         refine pure_ (i:=7) (N:=some 134) (v:=?_) (a':=?_) (bsq 66 159) rfl rfl (by kernel_rfl) (fun _ _ _ h=>h) (Or.inl ⟨by rfl,?_⟩) ?_ ?_
         rotate_left
         ·intro w'
          go_simp
          with_reducible rfl
         rotate_left
         ·simp only [Act.put,bq1,bq2,bq3,i64_w,i32_w]
          rfl
         refine take_ (i:=5) (N:=some 132) (v:=?_) (a':=?_) (bsq 66 191) rfl rfl (by kernel_rfl) (fun _ _ _ h=>h) (Or.inl ⟨by rfl,?_⟩) hHeld ?_ ?_
         rotate_left
         ·rintro w' ⟨s0,s1,s2,s3,s4⟩
          go_simp
          with_reducible rfl
         rotate_left
         ·simp only [Act.put,bq1,bq2,bq3,i64_w,i32_w]
          rfl
         refine pure_ (i:=6) (N:=some 133) (v:=?_) (a':=?_) (bsq 66 255) rfl rfl (by kernel_rfl) (fun _ _ _ h=>h) (Or.inl ⟨by rfl,?_⟩) ?_ ?_
         rotate_left
         ·intro w'
          go_simp
          with_reducible rfl
         rotate_left
         ·simp only [Act.put,bq1,bq2,bq3,i64_w,i32_w]
          rfl
         refine take_ (i:=8) (N:=some 135) (v:=?_) (a':=?_) (bsq 66 511) rfl rfl (by kernel_rfl) (fun _ _ _ h=>h) (Or.inl ⟨by rfl,?_⟩) hHeld ?_ ?_
         rotate_left
         ·rintro w' ⟨s0,s1,s2,s3,s4⟩
          go_simp
          with_reducible rfl
         rotate_left
         ·simp only [Act.put,bq1,bq2,bq3,i64_w,i32_w]
          rfl
         refine pure_ (i:=9) (N:=some 136) (v:=?_) (a':=?_) (bsq 66 1023) rfl rfl (by kernel_rfl) (fun _ _ _ h=>h) (Or.inl ⟨by rfl,?_⟩) ?_ ?_
         rotate_left
         ·intro w'
          go_simp
          with_reducible rfl
         rotate_left
         ·simp only [Act.put,bq1,bq2,bq3,i64_w,i32_w]
          rfl
         refine pure_ (i:=10) (N:=some 137) (v:=?_) (a':=?_) (bsq 66 2047) rfl rfl (by kernel_rfl) (fun _ _ _ h=>h) (Or.inl ⟨by rfl,?_⟩) ?_ ?_
         rotate_left
         ·intro w'
          go_simp
          with_reducible rfl
         rotate_left
         ·simp only [Act.put,bq1,bq2,bq3,i64_w,i32_w]
          rfl
         refine pure_ (i:=11) (N:=some 138) (v:=?_) (a':=?_) (bsq 66 4095) rfl rfl (by kernel_rfl) (fun _ _ _ h=>h) (Or.inl ⟨by rfl,?_⟩) ?_ ?_
         rotate_left
         ·intro w'
          go_simp
          with_reducible rfl
         rotate_left
         ·simp only [Act.put,bq1,bq2,bq3,i64_w,i32_w]
          rfl
         refine pure_ (i:=12) (N:=some 139) (v:=?_) (a':=?_) (bsq 66 8191) rfl rfl (by kernel_rfl) (fun _ _ _ h=>h) (Or.inl ⟨by rfl,?_⟩) ?_ ?_
         rotate_left
         ·intro w'
          go_simp
          with_reducible rfl
         rotate_left
         ·simp only [Act.put,bq1,bq2,bq3,i64_w,i32_w]
          rfl
         as_aux_lemma =>
          refine pure_ (i:=13) (N:=some 140) (v:=?_) (a':=?_) (bsq 66 16383) rfl rfl (by kernel_rfl) (fun _ _ _ h=>h) (Or.inl ⟨by rfl,?_⟩) ?_ ?_
          rotate_left
          ·intro w'
           go_simp
           with_reducible rfl
          rotate_left
          ·simp only [Act.put,bq1,bq2,bq3,i64_w,i32_w]
           rfl
          refine pure_ (i:=16) (N:=some 143) (v:=?_) (a':=?_) (bsq 66 81919) rfl rfl (by kernel_rfl) (fun _ _ _ h=>h) (Or.inl ⟨by rfl,?_⟩) ?_ ?_
          rotate_left
          ·intro w'
           go_simp
           with_reducible rfl
          rotate_left
          ·simp only [Act.put,bq1,bq2,bq3,i64_w,i32_w]
           rfl
          refine take_ (i:=14) (N:=some 141) (v:=?_) (a':=?_) (bsq 66 98303) rfl rfl (by kernel_rfl) (fun _ _ _ h=>h) (Or.inl ⟨by rfl,?_⟩) hHeld ?_ ?_
          rotate_left
          ·rintro w' ⟨s0,s1,s2,s3,s4⟩
           go_simp
           with_reducible rfl
          rotate_left
          ·simp only [Act.put,bq1,bq2,bq3,i64_w,i32_w]
           rfl
          refine pure_ (i:=15) (N:=some 142) (v:=?_) (a':=?_) (bsq 66 131071) rfl rfl (by kernel_rfl) (fun _ _ _ h=>h) (Or.inl ⟨by rfl,?_⟩) ?_ ?_
          rotate_left
          ·intro w'
           go_simp
           with_reducible rfl
          rotate_left
          ·simp only [Act.put,bq1,bq2,bq3,i64_w,i32_w]
           rfl
          refine take_ (i:=17) (N:=some 144) (v:=?_) (a':=?_) (bsq 66 262143) rfl rfl (by kernel_rfl) (fun _ _ _ h=>h) (Or.inl ⟨by rfl,?_⟩) hHeld ?_ ?_
          rotate_left
          ·rintro w' ⟨s0,s1,s2,s3,s4⟩
           go_simp
           with_reducible rfl
          rotate_left
          ·simp only [Act.put,bq1,bq2,bq3,i64_w,i32_w]
           rfl
          refine pure_ (i:=18) (N:=some 145) (v:=?_) (a':=?_) (bsq 66 524287) rfl rfl (by kernel_rfl) (fun _ _ _ h=>h) (Or.inl ⟨by rfl,?_⟩) ?_ ?_
          rotate_left
          ·intro w'
           go_simp
           with_reducible rfl
          rotate_left
          ·simp only [Act.put,bq1,bq2,bq3,i64_w,i32_w]
           rfl
          refine pure_ (i:=19) (N:=some 146) (v:=?_) (a':=?_) (bsq 66 1048575) rfl rfl (by kernel_rfl) (fun _ _ _ h=>h) (Or.inl ⟨by rfl,?_⟩) ?_ ?_
          rotate_left
          ·intro w'
           go_simp
           with_reducible rfl
          rotate_left
          ·simp only [Act.put,bq1,bq2,bq3,i64_w,i32_w]
           rfl
          refine pure_ (i:=20) (N:=some 147) (v:=?_) (a':=?_) (bsq 66 2097151) rfl rfl (by kernel_rfl) (fun _ _ _ h=>h) (Or.inl ⟨by rfl,?_⟩) ?_ ?_
          rotate_left
          ·intro w'
           go_simp
           with_reducible rfl
          rotate_left
          ·simp only [Act.put,bq1,bq2,bq3,i64_w,i32_w]
           rfl
          refine pure_ (i:=21) (N:=some 148) (v:=?_) (a':=?_) (bsq 66 4194303) rfl rfl (by kernel_rfl) (fun _ _ _ h=>h) (Or.inl ⟨by rfl,?_⟩) ?_ ?_
          rotate_left
          ·intro w'
           go_simp
           with_reducible rfl
          rotate_left
          ·simp only [Act.put,bq1,bq2,bq3,i64_w,i32_w]
           rfl
          refine pure_ (i:=22) (N:=some 149) (v:=?_) (a':=?_) (bsq 66 8388607) rfl rfl (by kernel_rfl) (fun _ _ _ h=>h) (Or.inl ⟨by rfl,?_⟩) ?_ ?_
          rotate_left
          ·intro w'
           go_simp
           with_reducible rfl
          rotate_left
          ·simp only [Act.put,bq1,bq2,bq3,i64_w,i32_w]
           rfl
          refine pure_ (i:=23) (N:=some 150) (v:=?_) (a':=?_) (bsq 66 16777215) rfl rfl (by kernel_rfl) (fun _ _ _ h=>h) (Or.inl ⟨by rfl,?_⟩) ?_ ?_
          rotate_left
          ·intro w'
           go_simp
           with_reducible rfl
          rotate_left
          ·simp only [Act.put,bq1,bq2,bq3,i64_w,i32_w]
           rfl
          refine pure_ (i:=24) (N:=some 151) (v:=?_) (a':=?_) (bsq 66 33554431) rfl rfl (by kernel_rfl) (fun _ _ _ h=>h) (Or.inl ⟨by rfl,?_⟩) ?_ ?_
          rotate_left
          ·intro w'
           go_simp
           with_reducible rfl
          rotate_left
          ·simp only [Act.put,bq1,bq2,bq3,i64_w,i32_w]
           rfl
          refine pure_ (i:=25) (N:=some 152) (v:=?_) (a':=?_) (bsq 66 67108863) rfl rfl (by kernel_rfl) (fun _ _ _ h=>h) (Or.inl ⟨by rfl,?_⟩) ?_ ?_
          rotate_left
          ·intro w'
           go_simp
           with_reducible rfl
          rotate_left
          ·simp only [Act.put,bq1,bq2,bq3,i64_w,i32_w]
           rfl
          refine pure_ (i:=26) (N:=some 153) (v:=undef) (a':=?_) (bsq 66 134217727) rfl rfl (by kernel_rfl) (fun _ _ _ h=>h) (Or.inr ⟨by rfl,rfl⟩) ?_ ?_
          rotate_left
          ·simp only [Act.put,bq1,bq2,bq3,i64_w,i32_w]
           rfl
          as_aux_lemma =>
           refine pure_ (i:=27) (N:=some 154) (v:=undef) (a':=?_) (bsq 66 268435455) rfl rfl (by kernel_rfl) (fun _ _ _ h=>h) (Or.inr ⟨by rfl,rfl⟩) ?_ ?_
           rotate_left
           ·simp only [Act.put,bq1,bq2,bq3,i64_w,i32_w]
            rfl
           refine pure_ (i:=28) (N:=some 155) (v:=undef) (a':=?_) (bsq 66 536870911) rfl rfl (by kernel_rfl) (fun _ _ _ h=>h) (Or.inr ⟨by rfl,rfl⟩) ?_ ?_
           rotate_left
           ·simp only [Act.put,bq1,bq2,bq3,i64_w,i32_w]
            rfl
           refine pure_ (i:=29) (N:=some 156) (v:=undef) (a':=?_) (bsq 66 1073741823) rfl rfl (by kernel_rfl) (fun _ _ _ h=>h) (Or.inr ⟨by rfl,rfl⟩) ?_ ?_
           rotate_left
           ·simp only [Act.put,bq1,bq2,bq3,i64_w,i32_w]
            rfl
           refine pure_ (i:=30) (N:=some 157) (v:=undef) (a':=?_) (bsq 66 2147483647) rfl rfl (by kernel_rfl) (fun _ _ _ h=>h) (Or.inr ⟨by rfl,rfl⟩) ?_ ?_
           rotate_left
           ·simp only [Act.put,bq1,bq2,bq3,i64_w,i32_w]
            rfl
           refine pure_ (i:=31) (N:=some 158) (v:=undef) (a':=?_) (bsq 66 4294967295) rfl rfl (by kernel_rfl) (fun _ _ _ h=>h) (Or.inr ⟨by rfl,rfl⟩) ?_ ?_
           rotate_left
           ·simp only [Act.put,bq1,bq2,bq3,i64_w,i32_w]
            rfl
           refine pure_ (i:=32) (N:=some 159) (v:=?_) (a':=?_) (bsq 66 8589934591) rfl rfl (by kernel_rfl) (fun _ _ _ h=>h) (Or.inl ⟨by rfl,?_⟩) ?_ ?_
           rotate_left
           ·intro w'
            go_simp
            with_reducible rfl
           rotate_left
           ·simp only [Act.put,bq1,bq2,bq3,i64_w,i32_w]
            rfl
           refine pure_ (i:=33) (N:=some 160) (v:=?_) (a':=?_) (bsq 66 17179869183) rfl rfl (by kernel_rfl) (fun _ _ _ h=>h) (Or.inl ⟨by rfl,?_⟩) ?_ ?_
           rotate_left
           ·intro w'
            go_simp
            with_reducible rfl
           rotate_left
           ·simp only [Act.put,bq1,bq2,bq3,i64_w,i32_w]
            rfl
           refine pure_ (i:=34) (N:=some 161) (v:=?_) (a':=?_) (bsq 66 34359738367) rfl rfl (by kernel_rfl) (fun _ _ _ h=>h) (Or.inl ⟨by rfl,?_⟩) ?_ ?_
           rotate_left
           ·intro w'
            go_simp
            with_reducible rfl
           rotate_left
           ·simp only [Act.put,bq1,bq2,bq3,i64_w,i32_w]
            rfl
           refine pure_ (i:=35) (N:=some 162) (v:=?_) (a':=?_) (bsq 66 68719476735) rfl rfl (by kernel_rfl) (fun _ _ _ h=>h) (Or.inl ⟨by rfl,?_⟩) ?_ ?_
           rotate_left
           ·intro w'
            go_simp
            with_reducible rfl
           rotate_left
           ·simp only [Act.put,bq1,bq2,bq3,i64_w,i32_w]
            rfl
           refine pure_ (i:=36) (N:=some 163) (v:=?_) (a':=?_) (bsq 66 137438953471) rfl rfl (by kernel_rfl) (fun _ _ _ h=>h) (Or.inl ⟨by rfl,?_⟩) ?_ ?_
           rotate_left
           ·intro w'
            go_simp
            with_reducible rfl
           rotate_left
           ·simp only [Act.put,bq1,bq2,bq3,i64_w,i32_w]
            rfl
           refine pure_ (i:=37) (N:=some 164) (v:=?_) (a':=?_) (bsq 66 274877906943) rfl rfl (by kernel_rfl) (fun _ _ _ h=>h) (Or.inl ⟨by rfl,?_⟩) ?_ ?_
           rotate_left
           ·intro w'
            go_simp
            with_reducible rfl
           rotate_left
           ·simp only [Act.put,bq1,bq2,bq3,i64_w,i32_w]
            rfl
           refine pure_ (i:=38) (N:=some 165) (v:=undef) (a':=?_) (bsq 66 549755813887) rfl rfl (by kernel_rfl) (fun _ _ _ h=>h) (Or.inr ⟨by rfl,rfl⟩) ?_ ?_
           rotate_left
           ·simp only [Act.put,bq1,bq2,bq3,i64_w,i32_w]
            rfl
           refine pure_ (i:=39) (N:=some 166) (v:=undef) (a':=?_) (bsq 66 1099511627775) rfl rfl (by kernel_rfl) (fun _ _ _ h=>h) (Or.inr ⟨by rfl,rfl⟩) ?_ ?_
           rotate_left
           ·simp only [Act.put,bq1,bq2,bq3,i64_w,i32_w]
            rfl
           refine pure_ (i:=40) (N:=some 167) (v:=undef) (a':=?_) (bsq 66 2199023255551) rfl rfl (by kernel_rfl) (fun _ _ _ h=>h) (Or.inr ⟨by rfl,rfl⟩) ?_ ?_
           rotate_left
           ·simp only [Act.put,bq1,bq2,bq3,i64_w,i32_w]
            rfl
           as_aux_lemma =>
            refine pure_ (i:=41) (N:=some 168) (v:=undef) (a':=?_) (bsq 66 4398046511103) rfl rfl (by kernel_rfl) (fun _ _ _ h=>h) (Or.inr ⟨by rfl,rfl⟩) ?_ ?_
            rotate_left
            ·simp only [Act.put,bq1,bq2,bq3,i64_w,i32_w]
             rfl
            refine pure_ (i:=42) (N:=some 169) (v:=undef) (a':=?_) (bsq 66 8796093022207) rfl rfl (by kernel_rfl) (fun _ _ _ h=>h) (Or.inr ⟨by rfl,rfl⟩) ?_ ?_
            rotate_left
            ·simp only [Act.put,bq1,bq2,bq3,i64_w,i32_w]
             rfl
            refine pure_ (i:=43) (N:=some 170) (v:=undef) (a':=?_) (bsq 66 17592186044415) rfl rfl (by kernel_rfl) (fun _ _ _ h=>h) (Or.inr ⟨by rfl,rfl⟩) ?_ ?_
            rotate_left
            ·simp only [Act.put,bq1,bq2,bq3,i64_w,i32_w]
             rfl
            refine pure_ (i:=44) (N:=some 171) (v:=undef) (a':=?_) (bsq 66 35184372088831) rfl rfl (by kernel_rfl) (fun _ _ _ h=>h) (Or.inr ⟨by rfl,rfl⟩) ?_ ?_
            rotate_left
            ·simp only [Act.put,bq1,bq2,bq3,i64_w,i32_w]
             rfl
            refine pure_ (i:=45) (N:=some 172) (v:=undef) (a':=?_) (bsq 66 70368744177663) rfl rfl (by kernel_rfl) (fun _ _ _ h=>h) (Or.inr ⟨by rfl,rfl⟩) ?_ ?_
            rotate_left
            ·simp only [Act.put,bq1,bq2,bq3,i64_w,i32_w]
             rfl
            refine pure_ (i:=46) (N:=some 173) (v:=undef) (a':=?_) (bsq 66 140737488355327) rfl rfl (by kernel_rfl) (fun _ _ _ h=>h) (Or.inr ⟨by rfl,rfl⟩) ?_ ?_
            rotate_left
            ·simp only [Act.put,bq1,bq2,bq3,i64_w,i32_w]
             rfl
            refine pure_ (i:=47) (N:=some 174) (v:=undef) (a':=?_) (bsq 66 281474976710655) rfl rfl (by kernel_rfl) (fun _ _ _ h=>h) (Or.inr ⟨by rfl,rfl⟩) ?_ ?_
            rotate_left
            ·simp only [Act.put,bq1,bq2,bq3,i64_w,i32_w]
             rfl
            refine pure_ (i:=48) (N:=some 175) (v:=?_) (a':=?_) (bsq 66 562949953421311) rfl rfl (by kernel_rfl) (fun _ _ _ h=>h) (Or.inl ⟨by rfl,?_⟩) ?_ ?_
            rotate_left
            ·intro w'
             go_simp
             with_reducible rfl
            rotate_left
            ·simp only [Act.put,bq1,bq2,bq3,i64_w,i32_w]
             rfl
            refine pure_ (i:=49) (N:=some 176) (v:=?_) (a':=?_) (bsq 66 1125899906842623) rfl rfl (by kernel_rfl) (fun _ _ _ h=>h) (Or.inl ⟨by rfl,?_⟩) ?_ ?_
            rotate_left
            ·intro w'
             go_simp
             with_reducible rfl
            rotate_left
            ·simp only [Act.put,bq1,bq2,bq3,i64_w,i32_w]
             rfl
            refine pure_ (i:=50) (N:=some 177) (v:=?_) (a':=?_) (bsq 66 2251799813685247) rfl rfl (by kernel_rfl) (fun _ _ _ h=>h) (Or.inl ⟨by rfl,?_⟩) ?_ ?_
            rotate_left
            ·intro w'
             go_simp
             with_reducible rfl
            rotate_left
            ·simp only [Act.put,bq1,bq2,bq3,i64_w,i32_w]
             rfl
            refine pure_ (i:=51) (N:=some 178) (v:=?_) (a':=?_) (bsq 66 4503599627370495) rfl rfl (by kernel_rfl) (fun _ _ _ h=>h) (Or.inl ⟨by rfl,?_⟩) ?_ ?_
            rotate_left
            ·intro w'
             go_simp
             with_reducible rfl
            rotate_left
            ·simp only [Act.put,bq1,bq2,bq3,i64_w,i32_w]
             rfl
            refine pure_ (i:=52) (N:=some 179) (v:=?_) (a':=?_) (bsq 66 9007199254740991) rfl rfl (by kernel_rfl) (fun _ _ _ h=>h) (Or.inl ⟨by rfl,?_⟩) ?_ ?_
            rotate_left
            ·intro w'
             go_simp
             with_reducible rfl
            rotate_left
            ·simp only [Act.put,bq1,bq2,bq3,i64_w,i32_w]
             rfl
            refine pure_ (i:=53) (N:=some 180) (v:=?_) (a':=?_) (bsq 66 18014398509481983) rfl rfl (by kernel_rfl) (fun _ _ _ h=>h) (Or.inl ⟨by rfl,?_⟩) ?_ ?_
            rotate_left
            ·intro w'
             go_simp
             with_reducible rfl
            rotate_left
            ·simp only [Act.put,bq1,bq2,bq3,i64_w,i32_w]
             rfl
            refine pure_ (i:=54) (N:=some 181) (v:=undef) (a':=?_) (bsq 66 36028797018963967) rfl rfl (by kernel_rfl) (fun _ _ _ h=>h) (Or.inr ⟨by rfl,rfl⟩) ?_ ?_
            rotate_left
            ·simp only [Act.put,bq1,bq2,bq3,i64_w,i32_w]
             rfl
            as_aux_lemma =>
             refine pure_ (i:=55) (N:=some 182) (v:=undef) (a':=?_) (bsq 66 72057594037927935) rfl rfl (by kernel_rfl) (fun _ _ _ h=>h) (Or.inr ⟨by rfl,rfl⟩) ?_ ?_
             rotate_left
             ·simp only [Act.put,bq1,bq2,bq3,i64_w,i32_w]
              rfl
             refine pure_ (i:=56) (N:=some 183) (v:=undef) (a':=?_) (bsq 66 144115188075855871) rfl rfl (by kernel_rfl) (fun _ _ _ h=>h) (Or.inr ⟨by rfl,rfl⟩) ?_ ?_
             rotate_left
             ·simp only [Act.put,bq1,bq2,bq3,i64_w,i32_w]
              rfl
             refine pure_ (i:=57) (N:=some 184) (v:=undef) (a':=?_) (bsq 66 288230376151711743) rfl rfl (by kernel_rfl) (fun _ _ _ h=>h) (Or.inr ⟨by rfl,rfl⟩) ?_ ?_
             rotate_left
             ·simp only [Act.put,bq1,bq2,bq3,i64_w,i32_w]
              rfl
             refine pure_ (i:=58) (N:=some 185) (v:=undef) (a':=?_) (bsq 66 576460752303423487) rfl rfl (by kernel_rfl) (fun _ _ _ h=>h) (Or.inr ⟨by rfl,rfl⟩) ?_ ?_
             rotate_left
             ·simp only [Act.put,bq1,bq2,bq3,i64_w,i32_w]
              rfl
             refine pure_ (i:=59) (N:=some 186) (v:=undef) (a':=?_) (bsq 66 1152921504606846975) rfl rfl (by kernel_rfl) (fun _ _ _ h=>h) (Or.inr ⟨by rfl,rfl⟩) ?_ ?_
             rotate_left
             ·simp only [Act.put,bq1,bq2,bq3,i64_w,i32_w]
              rfl
             refine pure_ (i:=60) (N:=some 187) (v:=undef) (a':=?_) (bsq 66 2305843009213693951) rfl rfl (by kernel_rfl) (fun _ _ _ h=>h) (Or.inr ⟨by rfl,rfl⟩) ?_ ?_
             rotate_left
             ·simp only [Act.put,bq1,bq2,bq3,i64_w,i32_w]
              rfl
             refine pure_ (i:=61) (N:=some 188) (v:=undef) (a':=?_) (bsq 66 4611686018427387903) rfl rfl (by kernel_rfl) (fun _ _ _ h=>h) (Or.inr ⟨by rfl,rfl⟩) ?_ ?_
             rotate_left
             ·simp only [Act.put,bq1,bq2,bq3,i64_w,i32_w]
              rfl
             refine pure_ (i:=62) (N:=some 189) (v:=undef) (a':=?_) (bsq 66 9223372036854775807) rfl rfl (by kernel_rfl) (fun _ _ _ h=>h) (Or.inr ⟨by rfl,rfl⟩) ?_ ?_
             rotate_left
             ·simp only [Act.put,bq1,bq2,bq3,i64_w,i32_w]
              rfl
             refine pure_ (i:=63) (N:=some 190) (v:=undef) (a':=?_) (bsq 66 18446744073709551615) rfl rfl (by kernel_rfl) (fun _ _ _ h=>h) (Or.inr ⟨by rfl,rfl⟩) ?_ ?_
             rotate_left
             ·simp only [Act.put,bq1,bq2,bq3,i64_w,i32_w]
              rfl
             refine pure_ (i:=64) (N:=some 191) (v:=?_) (a':=?_) (bsq 66 36893488147419103231) rfl rfl (by kernel_rfl) (fun _ _ _ h=>h) (Or.inl ⟨by rfl,?_⟩) ?_ ?_
             rotate_left
             ·intro w'
              go_simp
              with_reducible rfl
             rotate_left
             ·simp only [Act.put,bq1,bq2,bq3,i64_w,i32_w]
              rfl
             refine pure_ (i:=65) (N:=some 192) (v:=?_) (a':=?_) (bsq 66 73786976294838206463) rfl rfl (by kernel_rfl) (fun _ _ _ h=>h) (Or.inl ⟨by rfl,?_⟩) ?_ ?_
             rotate_left
             ·intro w'
              go_simp
              with_reducible rfl
             rotate_left
             ·simp only [Act.put,bq1,bq2,bq3,i64_w,i32_w]
              rfl
             refine done_ (by kernel_rfl) ?_
             have hb_:=bwd (Below.refl w_17.heap.size w_17)
             obtain ⟨w_21,hw_⟩:∃ x,w_17.drew=x:=⟨_,rfl⟩
             rw [hw_] at hb_ ⊢
             clear hw_
             have B22:=amk (bws B18.out hb_)
             have K22_gc:=amk (bkb K18_gc.out hb_)
             have K22_go:=amk (bkb K18_go.out hb_)
             have K22_gd:=amk (bkb K18_gd.out hb_)
             have K22_ge:=amk (bkb K18_ge.out hb_)
             have O22_SD:=amk (O18_SD.out.below hb_)
             have O22_SE:=amk (O18_SE.out.below hb_)
             clear hb_ B18 K18_gc K18_go K18_gd K18_ge O18_SD O18_SE
             as_aux_lemma =>
              have pc11:w_21.cell? ⟨gd,11,none⟩=some (.int .i64 D.p):=(bkc K22_gd.out 11).trans rfl
              have pf11:=bkf K22_gd.out 11
              have pc13:w_21.cell? ⟨gd,13,none⟩=some (.bool D.on):=(bkc K22_gd.out 13).trans rfl
              have pf13:=bkf K22_gd.out 13
              have qc11:w_21.cell? ⟨gc,11,none⟩=some (.int .i64 C.p):=(bkc K22_gc.out 11).trans rfl
              have qf11:=bkf K22_gc.out 11
              have qc13:w_21.cell? ⟨gc,13,none⟩=some (.bool C.on):=(bkc K22_gc.out 13).trans rfl
              have qf13:=bkf K22_gc.out 13
              have q0_:=HQ.out.lo (by have:=HI.out;omega)
              rw [q0_.1] at pc11
              rw [q0_.2] at pc13
              clear q0_
              clear e1 e2
              clear ez1 ez2
              have wi:=HWI.out
              go_wp2_with fail
              try rw [wi]
              go_roundg ki
              case measure=>omega
              case rel=>exact ⟨i+1,rfl,⟨by have:=hk.out;omega⟩,B22⟩
       ·have i1:((i:Int) == 1)=false:=beq_eq_false_iff_ne.2 (by omega)
        have i2:((i:Int) == 2)=true:=beq_iff_eq.2 (by omega)
        have i3:((i:Int) == 3)=false:=beq_eq_false_iff_ne.2 (by omega)
        have i4:((i:Int) == 4)=false:=beq_eq_false_iff_ne.2 (by omega)
        have i5:decide ((i:Int) < 4)=true:=decide_eq_true (by omega)
        have i6:decide ((i:Int) > 3)=false:=decide_eq_false (by omega)
        have HI:=amk hi
        clear hi
        have ez1:=HQ.out.q2 HI.out
        as_aux_lemma =>
         refine start_ (n:=66) (S:=fun w'=>w'.cell? ⟨gd,0,none⟩=some (.string D.F.m)∧w'.cell? ⟨go,6,none⟩=some (.string O.m)∧Below w_17.heap.size w_17 w') (ds:=[]) (bsq 66 0) (by kernel_rfl) rfl rfl ⟨(bkc K18_gd.out 0).trans rfl,(bkc K18_go.out 6).trans rfl,bwd (Below.refl _ _)⟩ (fun hHeld=>?_)
         refine pure_ (i:=0) (N:=some 127) (v:=?_) (a':=?_) (bsq 66 1) rfl rfl (by kernel_rfl) (fun _ _ _ h=>h) (Or.inl ⟨by rfl,?_⟩) ?_ ?_
         rotate_left
         ·intro w'
          go_simp
          with_reducible rfl
         rotate_left
         ·simp only [Act.put,bq1,bq2,bq3,i64_w,i32_w]
          rfl
         refine pure_ (i:=1) (N:=some 128) (v:=?_) (a':=?_) (bsq 66 3) rfl rfl (by kernel_rfl) (fun _ _ _ h=>h) (Or.inl ⟨by rfl,?_⟩) ?_ ?_
         rotate_left
         ·intro w'
          go_simp
          with_reducible rfl
         rotate_left
         ·simp only [Act.put,bq1,bq2,bq3,i64_w,i32_w]
          rfl
         refine pure_ (i:=2) (N:=some 129) (v:=?_) (a':=?_) (bsq 66 7) rfl rfl (by kernel_rfl) (fun _ _ _ h=>h) (Or.inl ⟨by rfl,?_⟩) ?_ ?_
         rotate_left
         ·intro w'
          go_simp
          with_reducible rfl
         rotate_left
         ·simp only [Act.put,bq1,bq2,bq3,i64_w,i32_w]
          rfl
         refine pure_ (i:=3) (N:=some 130) (v:=undef) (a':=?_) (bsq 66 15) rfl rfl (by kernel_rfl) (fun _ _ _ h=>h) (Or.inr ⟨by rfl,rfl⟩) ?_ ?_
         rotate_left
         ·simp only [Act.put,bq1,bq2,bq3,i64_w,i32_w]
          rfl
         refine pure_ (i:=4) (N:=some 131) (v:=undef) (a':=?_) (bsq 66 31) rfl rfl (by kernel_rfl) (fun _ _ _ h=>h) (Or.inr ⟨by rfl,rfl⟩) ?_ ?_
         rotate_left
         ·simp only [Act.put,bq1,bq2,bq3,i64_w,i32_w]
          rfl
         refine pure_ (i:=5) (N:=some 132) (v:=undef) (a':=?_) (bsq 66 63) rfl rfl (by kernel_rfl) (fun _ _ _ h=>h) (Or.inr ⟨by rfl,rfl⟩) ?_ ?_
         rotate_left
         ·simp only [Act.put,bq1,bq2,bq3,i64_w,i32_w]
          rfl
         refine pure_ (i:=6) (N:=some 133) (v:=undef) (a':=?_) (bsq 66 127) rfl rfl (by kernel_rfl) (fun _ _ _ h=>h) (Or.inr ⟨by rfl,rfl⟩) ?_ ?_
         rotate_left
         ·simp only [Act.put,bq1,bq2,bq3,i64_w,i32_w]
          rfl
         refine pure_ (i:=7) (N:=some 134) (v:=undef) (a':=?_) (bsq 66 255) rfl rfl (by kernel_rfl) (fun _ _ _ h=>h) (Or.inr ⟨by rfl,rfl⟩) ?_ ?_
         rotate_left
         ·simp only [Act.put,bq1,bq2,bq3,i64_w,i32_w]
          rfl
         refine pure_ (i:=8) (N:=some 135) (v:=undef) (a':=?_) (bsq 66 511) rfl rfl (by kernel_rfl) (fun _ _ _ h=>h) (Or.inr ⟨by rfl,rfl⟩) ?_ ?_
         rotate_left
         ·simp only [Act.put,bq1,bq2,bq3,i64_w,i32_w]
          rfl
         refine pure_ (i:=9) (N:=some 136) (v:=undef) (a':=?_) (bsq 66 1023) rfl rfl (by kernel_rfl) (fun _ _ _ h=>h) (Or.inr ⟨by rfl,rfl⟩) ?_ ?_
         rotate_left
         ·simp only [Act.put,bq1,bq2,bq3,i64_w,i32_w]
          rfl
         refine pure_ (i:=10) (N:=some 137) (v:=undef) (a':=?_) (bsq 66 2047) rfl rfl (by kernel_rfl) (fun _ _ _ h=>h) (Or.inr ⟨by rfl,rfl⟩) ?_ ?_
         rotate_left
         ·simp only [Act.put,bq1,bq2,bq3,i64_w,i32_w]
          rfl
         refine pure_ (i:=11) (N:=some 138) (v:=undef) (a':=?_) (bsq 66 4095) rfl rfl (by kernel_rfl) (fun _ _ _ h=>h) (Or.inr ⟨by rfl,rfl⟩) ?_ ?_
         rotate_left
         ·simp only [Act.put,bq1,bq2,bq3,i64_w,i32_w]
          rfl
         refine pure_ (i:=12) (N:=some 139) (v:=undef) (a':=?_) (bsq 66 8191) rfl rfl (by kernel_rfl) (fun _ _ _ h=>h) (Or.inr ⟨by rfl,rfl⟩) ?_ ?_
         rotate_left
         ·simp only [Act.put,bq1,bq2,bq3,i64_w,i32_w]
          rfl
         as_aux_lemma =>
          refine pure_ (i:=13) (N:=some 140) (v:=undef) (a':=?_) (bsq 66 16383) rfl rfl (by kernel_rfl) (fun _ _ _ h=>h) (Or.inr ⟨by rfl,rfl⟩) ?_ ?_
          rotate_left
          ·simp only [Act.put,bq1,bq2,bq3,i64_w,i32_w]
           rfl
          refine pure_ (i:=14) (N:=some 141) (v:=undef) (a':=?_) (bsq 66 32767) rfl rfl (by kernel_rfl) (fun _ _ _ h=>h) (Or.inr ⟨by rfl,rfl⟩) ?_ ?_
          rotate_left
          ·simp only [Act.put,bq1,bq2,bq3,i64_w,i32_w]
           rfl
          refine pure_ (i:=15) (N:=some 142) (v:=undef) (a':=?_) (bsq 66 65535) rfl rfl (by kernel_rfl) (fun _ _ _ h=>h) (Or.inr ⟨by rfl,rfl⟩) ?_ ?_
          rotate_left
          ·simp only [Act.put,bq1,bq2,bq3,i64_w,i32_w]
           rfl
          refine pure_ (i:=16) (N:=some 143) (v:=undef) (a':=?_) (bsq 66 131071) rfl rfl (by kernel_rfl) (fun _ _ _ h=>h) (Or.inr ⟨by rfl,rfl⟩) ?_ ?_
          rotate_left
          ·simp only [Act.put,bq1,bq2,bq3,i64_w,i32_w]
           rfl
          refine pure_ (i:=17) (N:=some 144) (v:=undef) (a':=?_) (bsq 66 262143) rfl rfl (by kernel_rfl) (fun _ _ _ h=>h) (Or.inr ⟨by rfl,rfl⟩) ?_ ?_
          rotate_left
          ·simp only [Act.put,bq1,bq2,bq3,i64_w,i32_w]
           rfl
          refine pure_ (i:=18) (N:=some 145) (v:=undef) (a':=?_) (bsq 66 524287) rfl rfl (by kernel_rfl) (fun _ _ _ h=>h) (Or.inr ⟨by rfl,rfl⟩) ?_ ?_
          rotate_left
          ·simp only [Act.put,bq1,bq2,bq3,i64_w,i32_w]
           rfl
          refine pure_ (i:=19) (N:=some 146) (v:=undef) (a':=?_) (bsq 66 1048575) rfl rfl (by kernel_rfl) (fun _ _ _ h=>h) (Or.inr ⟨by rfl,rfl⟩) ?_ ?_
          rotate_left
          ·simp only [Act.put,bq1,bq2,bq3,i64_w,i32_w]
           rfl
          refine pure_ (i:=20) (N:=some 147) (v:=undef) (a':=?_) (bsq 66 2097151) rfl rfl (by kernel_rfl) (fun _ _ _ h=>h) (Or.inr ⟨by rfl,rfl⟩) ?_ ?_
          rotate_left
          ·simp only [Act.put,bq1,bq2,bq3,i64_w,i32_w]
           rfl
          refine pure_ (i:=21) (N:=some 148) (v:=?_) (a':=?_) (bsq 66 4194303) rfl rfl (by kernel_rfl) (fun _ _ _ h=>h) (Or.inl ⟨by rfl,?_⟩) ?_ ?_
          rotate_left
          ·intro w'
           go_simp
           with_reducible rfl
          rotate_left
          ·simp only [Act.put,bq1,bq2,bq3,i64_w,i32_w]
           rfl
          refine pure_ (i:=22) (N:=some 149) (v:=?_) (a':=?_) (bsq 66 8388607) rfl rfl (by kernel_rfl) (fun _ _ _ h=>h) (Or.inl ⟨by rfl,?_⟩) ?_ ?_
          rotate_left
          ·intro w'
           go_simp
           with_reducible rfl
          rotate_left
          ·simp only [Act.put,bq1,bq2,bq3,i64_w,i32_w]
           rfl
          refine pure_ (i:=23) (N:=some 150) (v:=?_) (a':=?_) (bsq 66 16777215) rfl rfl (by kernel_rfl) (fun _ _ _ h=>h) (Or.inl ⟨by rfl,?_⟩) ?_ ?_
          rotate_left
          ·intro w'
           go_simp
           with_reducible rfl
          rotate_left
          ·simp only [Act.put,bq1,bq2,bq3,i64_w,i32_w]
           rfl
          refine pure_ (i:=24) (N:=some 151) (v:=?_) (a':=?_) (bsq 66 33554431) rfl rfl (by kernel_rfl) (fun _ _ _ h=>h) (Or.inl ⟨by rfl,?_⟩) ?_ ?_
          rotate_left
          ·intro w'
           go_simp
           with_reducible rfl
          rotate_left
          ·simp only [Act.put,bq1,bq2,bq3,i64_w,i32_w]
           rfl
          refine pure_ (i:=25) (N:=some 152) (v:=?_) (a':=?_) (bsq 66 67108863) rfl rfl (by kernel_rfl) (fun _ _ _ h=>h) (Or.inl ⟨by rfl,?_⟩) ?_ ?_
          rotate_left
          ·intro w'
           go_simp
           with_reducible rfl
          rotate_left
          ·simp only [Act.put,bq1,bq2,bq3,i64_w,i32_w]
           rfl
          refine pure_ (i:=26) (N:=some 153) (v:=?_) (a':=?_) (bsq 66 134217727) rfl rfl (by kernel_rfl) (fun _ _ _ h=>h) (Or.inl ⟨by rfl,?_⟩) ?_ ?_
          rotate_left
          ·intro w'
           go_simp
           with_reducible rfl
          rotate_left
          ·simp only [Act.put,bq1,bq2,bq3,i64_w,i32_w]
           rfl
          as_aux_lemma =>
           refine pure_ (i:=27) (N:=some 154) (v:=?_) (a':=?_) (bsq 66 268435455) rfl rfl (by kernel_rfl) (fun _ _ _ h=>h) (Or.inl ⟨by rfl,?_⟩) ?_ ?_
           rotate_left
           ·intro w'
            go_simp
            with_reducible rfl
           rotate_left
           ·simp only [Act.put,bq1,bq2,bq3,i64_w,i32_w]
            rfl
           refine pure_ (i:=29) (N:=some 156) (v:=?_) (a':=?_) (bsq 66 805306367) rfl rfl (by kernel_rfl) (fun _ _ _ h=>h) (Or.inl ⟨by rfl,?_⟩) ?_ ?_
           rotate_left
           ·intro w'
            go_simp
            with_reducible rfl
           rotate_left
           ·simp only [Act.put,bq1,bq2,bq3,i64_w,i32_w]
            rfl
           refine take_ (i:=28) (N:=some 155) (v:=?_) (a':=?_) (bsq 66 1073741823) rfl rfl (by kernel_rfl) (fun _ _ _ h=>h) (Or.inl ⟨by rfl,?_⟩) hHeld ?_ ?_
           rotate_left
           ·rintro w' ⟨s0,s1,s2⟩
            go_simp
            with_reducible rfl
           rotate_left
           ·simp only [Act.put,bq1,bq2,bq3,i64_w,i32_w]
            rfl
           refine take_ (i:=30) (N:=some 157) (v:=?_) (a':=?_) (bsq 66 2147483647) rfl rfl (by kernel_rfl) (fun _ _ _ h=>h) (Or.inl ⟨by rfl,?_⟩) hHeld ?_ ?_
           rotate_left
           ·rintro w' ⟨s0,s1,s2⟩
            go_simp
            with_reducible rfl
           rotate_left
           ·simp only [Act.put,bq1,bq2,bq3,i64_w,i32_w]
            rfl
           refine pure_ (i:=31) (N:=some 158) (v:=?_) (a':=?_) (bsq 66 4294967295) rfl rfl (by kernel_rfl) (fun _ _ _ h=>h) (Or.inl ⟨by rfl,?_⟩) ?_ ?_
           rotate_left
           ·intro w'
            go_simp
            with_reducible rfl
           rotate_left
           ·simp only [Act.put,bq1,bq2,bq3,i64_w,i32_w]
            rfl
           refine pure_ (i:=32) (N:=some 159) (v:=?_) (a':=?_) (bsq 66 8589934591) rfl rfl (by kernel_rfl) (fun _ _ _ h=>h) (Or.inl ⟨by rfl,?_⟩) ?_ ?_
           rotate_left
           ·intro w'
            go_simp
            with_reducible rfl
           rotate_left
           ·simp only [Act.put,bq1,bq2,bq3,i64_w,i32_w]
            rfl
           refine pure_ (i:=33) (N:=some 160) (v:=?_) (a':=?_) (bsq 66 17179869183) rfl rfl (by kernel_rfl) (fun _ _ _ h=>h) (Or.inl ⟨by rfl,?_⟩) ?_ ?_
           rotate_left
           ·intro w'
            go_simp
            with_reducible rfl
           rotate_left
           ·simp only [Act.put,bq1,bq2,bq3,i64_w,i32_w]
            rfl
           refine pure_ (i:=34) (N:=some 161) (v:=?_) (a':=?_) (bsq 66 34359738367) rfl rfl (by kernel_rfl) (fun _ _ _ h=>h) (Or.inl ⟨by rfl,?_⟩) ?_ ?_
           rotate_left
           ·intro w'
            go_simp
            with_reducible rfl
           rotate_left
           ·simp only [Act.put,bq1,bq2,bq3,i64_w,i32_w]
            rfl
           refine pure_ (i:=35) (N:=some 162) (v:=?_) (a':=?_) (bsq 66 68719476735) rfl rfl (by kernel_rfl) (fun _ _ _ h=>h) (Or.inl ⟨by rfl,?_⟩) ?_ ?_
           rotate_left
           ·intro w'
            go_simp
            with_reducible rfl
           rotate_left
           ·simp only [Act.put,bq1,bq2,bq3,i64_w,i32_w]
            rfl
           refine pure_ (i:=36) (N:=some 163) (v:=?_) (a':=?_) (bsq 66 137438953471) rfl rfl (by kernel_rfl) (fun _ _ _ h=>h) (Or.inl ⟨by rfl,?_⟩) ?_ ?_
           rotate_left
           ·intro w'
            go_simp
            with_reducible rfl
           rotate_left
           ·simp only [Act.put,bq1,bq2,bq3,i64_w,i32_w]
            rfl
           refine pure_ (i:=37) (N:=some 164) (v:=?_) (a':=?_) (bsq 66 274877906943) rfl rfl (by kernel_rfl) (fun _ _ _ h=>h) (Or.inl ⟨by rfl,?_⟩) ?_ ?_
           rotate_left
           ·intro w'
            go_simp
            with_reducible rfl
           rotate_left
           ·simp only [Act.put,bq1,bq2,bq3,i64_w,i32_w]
            rfl
           refine pure_ (i:=38) (N:=some 165) (v:=undef) (a':=?_) (bsq 66 549755813887) rfl rfl (by kernel_rfl) (fun _ _ _ h=>h) (Or.inr ⟨by rfl,rfl⟩) ?_ ?_
           rotate_left
           ·simp only [Act.put,bq1,bq2,bq3,i64_w,i32_w]
            rfl
           refine pure_ (i:=39) (N:=some 166) (v:=undef) (a':=?_) (bsq 66 1099511627775) rfl rfl (by kernel_rfl) (fun _ _ _ h=>h) (Or.inr ⟨by rfl,rfl⟩) ?_ ?_
           rotate_left
           ·simp only [Act.put,bq1,bq2,bq3,i64_w,i32_w]
            rfl
           refine pure_ (i:=40) (N:=some 167) (v:=undef) (a':=?_) (bsq 66 2199023255551) rfl rfl (by kernel_rfl) (fun _ _ _ h=>h) (Or.inr ⟨by rfl,rfl⟩) ?_ ?_
           rotate_left
           ·simp only [Act.put,bq1,bq2,bq3,i64_w,i32_w]
            rfl
           as_aux_lemma =>
            refine pure_ (i:=41) (N:=some 168) (v:=undef) (a':=?_) (bsq 66 4398046511103) rfl rfl (by kernel_rfl) (fun _ _ _ h=>h) (Or.inr ⟨by rfl,rfl⟩) ?_ ?_
            rotate_left
            ·simp only [Act.put,bq1,bq2,bq3,i64_w,i32_w]
             rfl
            refine pure_ (i:=42) (N:=some 169) (v:=undef) (a':=?_) (bsq 66 8796093022207) rfl rfl (by kernel_rfl) (fun _ _ _ h=>h) (Or.inr ⟨by rfl,rfl⟩) ?_ ?_
            rotate_left
            ·simp only [Act.put,bq1,bq2,bq3,i64_w,i32_w]
             rfl
            refine pure_ (i:=43) (N:=some 170) (v:=undef) (a':=?_) (bsq 66 17592186044415) rfl rfl (by kernel_rfl) (fun _ _ _ h=>h) (Or.inr ⟨by rfl,rfl⟩) ?_ ?_
            rotate_left
            ·simp only [Act.put,bq1,bq2,bq3,i64_w,i32_w]
             rfl
            refine pure_ (i:=44) (N:=some 171) (v:=undef) (a':=?_) (bsq 66 35184372088831) rfl rfl (by kernel_rfl) (fun _ _ _ h=>h) (Or.inr ⟨by rfl,rfl⟩) ?_ ?_
            rotate_left
            ·simp only [Act.put,bq1,bq2,bq3,i64_w,i32_w]
             rfl
            refine pure_ (i:=45) (N:=some 172) (v:=undef) (a':=?_) (bsq 66 70368744177663) rfl rfl (by kernel_rfl) (fun _ _ _ h=>h) (Or.inr ⟨by rfl,rfl⟩) ?_ ?_
            rotate_left
            ·simp only [Act.put,bq1,bq2,bq3,i64_w,i32_w]
             rfl
            refine pure_ (i:=46) (N:=some 173) (v:=undef) (a':=?_) (bsq 66 140737488355327) rfl rfl (by kernel_rfl) (fun _ _ _ h=>h) (Or.inr ⟨by rfl,rfl⟩) ?_ ?_
            rotate_left
            ·simp only [Act.put,bq1,bq2,bq3,i64_w,i32_w]
             rfl
            refine pure_ (i:=47) (N:=some 174) (v:=undef) (a':=?_) (bsq 66 281474976710655) rfl rfl (by kernel_rfl) (fun _ _ _ h=>h) (Or.inr ⟨by rfl,rfl⟩) ?_ ?_
            rotate_left
            ·simp only [Act.put,bq1,bq2,bq3,i64_w,i32_w]
             rfl
            refine pure_ (i:=48) (N:=some 175) (v:=?_) (a':=?_) (bsq 66 562949953421311) rfl rfl (by kernel_rfl) (fun _ _ _ h=>h) (Or.inl ⟨by rfl,?_⟩) ?_ ?_
            rotate_left
            ·intro w'
             go_simp
             with_reducible rfl
            rotate_left
            ·simp only [Act.put,bq1,bq2,bq3,i64_w,i32_w]
             rfl
            refine pure_ (i:=49) (N:=some 176) (v:=?_) (a':=?_) (bsq 66 1125899906842623) rfl rfl (by kernel_rfl) (fun _ _ _ h=>h) (Or.inl ⟨by rfl,?_⟩) ?_ ?_
            rotate_left
            ·intro w'
             go_simp
             with_reducible rfl
            rotate_left
            ·simp only [Act.put,bq1,bq2,bq3,i64_w,i32_w]
             rfl
            refine pure_ (i:=50) (N:=some 177) (v:=?_) (a':=?_) (bsq 66 2251799813685247) rfl rfl (by kernel_rfl) (fun _ _ _ h=>h) (Or.inl ⟨by rfl,?_⟩) ?_ ?_
            rotate_left
            ·intro w'
             go_simp
             with_reducible rfl
            rotate_left
            ·simp only [Act.put,bq1,bq2,bq3,i64_w,i32_w]
             rfl
            refine pure_ (i:=51) (N:=some 178) (v:=?_) (a':=?_) (bsq 66 4503599627370495) rfl rfl (by kernel_rfl) (fun _ _ _ h=>h) (Or.inl ⟨by rfl,?_⟩) ?_ ?_
            rotate_left
            ·intro w'
             go_simp
             with_reducible rfl
            rotate_left
            ·simp only [Act.put,bq1,bq2,bq3,i64_w,i32_w]
             rfl
            refine pure_ (i:=52) (N:=some 179) (v:=?_) (a':=?_) (bsq 66 9007199254740991) rfl rfl (by kernel_rfl) (fun _ _ _ h=>h) (Or.inl ⟨by rfl,?_⟩) ?_ ?_
            rotate_left
            ·intro w'
             go_simp
             with_reducible rfl
            rotate_left
            ·simp only [Act.put,bq1,bq2,bq3,i64_w,i32_w]
             rfl
            refine pure_ (i:=53) (N:=some 180) (v:=?_) (a':=?_) (bsq 66 18014398509481983) rfl rfl (by kernel_rfl) (fun _ _ _ h=>h) (Or.inl ⟨by rfl,?_⟩) ?_ ?_
            rotate_left
            ·intro w'
             go_simp
             with_reducible rfl
            rotate_left
            ·simp only [Act.put,bq1,bq2,bq3,i64_w,i32_w]
             rfl
            refine pure_ (i:=54) (N:=some 181) (v:=undef) (a':=?_) (bsq 66 36028797018963967) rfl rfl (by kernel_rfl) (fun _ _ _ h=>h) (Or.inr ⟨by rfl,rfl⟩) ?_ ?_
            rotate_left
            ·simp only [Act.put,bq1,bq2,bq3,i64_w,i32_w]
             rfl
            as_aux_lemma =>
             refine pure_ (i:=55) (N:=some 182) (v:=undef) (a':=?_) (bsq 66 72057594037927935) rfl rfl (by kernel_rfl) (fun _ _ _ h=>h) (Or.inr ⟨by rfl,rfl⟩) ?_ ?_
             rotate_left
             ·simp only [Act.put,bq1,bq2,bq3,i64_w,i32_w]
              rfl
             refine pure_ (i:=56) (N:=some 183) (v:=undef) (a':=?_) (bsq 66 144115188075855871) rfl rfl (by kernel_rfl) (fun _ _ _ h=>h) (Or.inr ⟨by rfl,rfl⟩) ?_ ?_
             rotate_left
             ·simp only [Act.put,bq1,bq2,bq3,i64_w,i32_w]
              rfl
             refine pure_ (i:=57) (N:=some 184) (v:=undef) (a':=?_) (bsq 66 288230376151711743) rfl rfl (by kernel_rfl) (fun _ _ _ h=>h) (Or.inr ⟨by rfl,rfl⟩) ?_ ?_
             rotate_left
             ·simp only [Act.put,bq1,bq2,bq3,i64_w,i32_w]
              rfl
             refine pure_ (i:=58) (N:=some 185) (v:=undef) (a':=?_) (bsq 66 576460752303423487) rfl rfl (by kernel_rfl) (fun _ _ _ h=>h) (Or.inr ⟨by rfl,rfl⟩) ?_ ?_
             rotate_left
             ·simp only [Act.put,bq1,bq2,bq3,i64_w,i32_w]
              rfl
             refine pure_ (i:=59) (N:=some 186) (v:=undef) (a':=?_) (bsq 66 1152921504606846975) rfl rfl (by kernel_rfl) (fun _ _ _ h=>h) (Or.inr ⟨by rfl,rfl⟩) ?_ ?_
             rotate_left
             ·simp only [Act.put,bq1,bq2,bq3,i64_w,i32_w]
              rfl
             refine pure_ (i:=60) (N:=some 187) (v:=undef) (a':=?_) (bsq 66 2305843009213693951) rfl rfl (by kernel_rfl) (fun _ _ _ h=>h) (Or.inr ⟨by rfl,rfl⟩) ?_ ?_
             rotate_left
             ·simp only [Act.put,bq1,bq2,bq3,i64_w,i32_w]
              rfl
             refine pure_ (i:=61) (N:=some 188) (v:=undef) (a':=?_) (bsq 66 4611686018427387903) rfl rfl (by kernel_rfl) (fun _ _ _ h=>h) (Or.inr ⟨by rfl,rfl⟩) ?_ ?_
             rotate_left
             ·simp only [Act.put,bq1,bq2,bq3,i64_w,i32_w]
              rfl
             refine pure_ (i:=62) (N:=some 189) (v:=undef) (a':=?_) (bsq 66 9223372036854775807) rfl rfl (by kernel_rfl) (fun _ _ _ h=>h) (Or.inr ⟨by rfl,rfl⟩) ?_ ?_
             rotate_left
             ·simp only [Act.put,bq1,bq2,bq3,i64_w,i32_w]
              rfl
             refine pure_ (i:=63) (N:=some 190) (v:=undef) (a':=?_) (bsq 66 18446744073709551615) rfl rfl (by kernel_rfl) (fun _ _ _ h=>h) (Or.inr ⟨by rfl,rfl⟩) ?_ ?_
             rotate_left
             ·simp only [Act.put,bq1,bq2,bq3,i64_w,i32_w]
              rfl
             refine pure_ (i:=64) (N:=some 191) (v:=?_) (a':=?_) (bsq 66 36893488147419103231) rfl rfl (by kernel_rfl) (fun _ _ _ h=>h) (Or.inl ⟨by rfl,?_⟩) ?_ ?_
             rotate_left
             ·intro w'
              go_simp
              with_reducible rfl
             rotate_left
             ·simp only [Act.put,bq1,bq2,bq3,i64_w,i32_w]
              rfl
             refine pure_ (i:=65) (N:=some 192) (v:=?_) (a':=?_) (bsq 66 73786976294838206463) rfl rfl (by kernel_rfl) (fun _ _ _ h=>h) (Or.inl ⟨by rfl,?_⟩) ?_ ?_
             rotate_left
             ·intro w'
              go_simp
              with_reducible rfl
             rotate_left
             ·simp only [Act.put,bq1,bq2,bq3,i64_w,i32_w]
              rfl
             refine done_ (by kernel_rfl) ?_
             have hb_:=bwd (Below.refl w_17.heap.size w_17)
             obtain ⟨w_23,hw_⟩:∃ x,w_17.drew=x:=⟨_,rfl⟩
             rw [hw_] at hb_ ⊢
             clear hw_
             have B24:=amk (bws B18.out hb_)
             have K24_gc:=amk (bkb K18_gc.out hb_)
             have K24_go:=amk (bkb K18_go.out hb_)
             have K24_gd:=amk (bkb K18_gd.out hb_)
             have K24_ge:=amk (bkb K18_ge.out hb_)
             have O24_SD:=amk (O18_SD.out.below hb_)
             have O24_SE:=amk (O18_SE.out.below hb_)
             clear hb_ B18 K18_gc K18_go K18_gd K18_ge O18_SD O18_SE
             as_aux_lemma =>
              have pc11:w_23.cell? ⟨gd,11,none⟩=some (.int .i64 D.p):=(bkc K24_gd.out 11).trans rfl
              have pf11:=bkf K24_gd.out 11
              have pc13:w_23.cell? ⟨gd,13,none⟩=some (.bool D.on):=(bkc K24_gd.out 13).trans rfl
              have pf13:=bkf K24_gd.out 13
              have qc11:w_23.cell? ⟨gc,11,none⟩=some (.int .i64 C.p):=(bkc K24_gc.out 11).trans rfl
              have qf11:=bkf K24_gc.out 11
              have qc13:w_23.cell? ⟨gc,13,none⟩=some (.bool C.on):=(bkc K24_gc.out 13).trans rfl
              have qf13:=bkf K24_gc.out 13
              have q0_:=HQ.out.lo (by have:=HI.out;omega)
              rw [q0_.1] at pc11
              rw [q0_.2] at pc13
              clear q0_
              clear ez1
              have wi:=HWI.out
              go_wp2_with fail
              try rw [wi]
              go_roundg ki
              case measure=>omega
              case rel=>exact ⟨i+1,rfl,⟨by have:=hk.out;omega⟩,B24⟩
       ·have i1:((i:Int) == 1)=false:=beq_eq_false_iff_ne.2 (by omega)
        have i2:((i:Int) == 2)=false:=beq_eq_false_iff_ne.2 (by omega)
        have i3:((i:Int) == 3)=true:=beq_iff_eq.2 (by omega)
        have i4:((i:Int) == 4)=false:=beq_eq_false_iff_ne.2 (by omega)
        have i5:decide ((i:Int) < 4)=true:=decide_eq_true (by omega)
        have i6:decide ((i:Int) > 3)=false:=decide_eq_false (by omega)
        have HI:=amk hi
        clear hi
        have SM3:Aside0 (D.F.vs.length≤100000):=⟨SMD.out.1.2.2⟩
        have hv:=HVP.out.1
        have ez1:=HQ.out.q3 HI.out
        as_aux_lemma =>
         refine start_ (n:=66) (S:=fun w'=>w'.cell? ⟨gd,10,none⟩=some (.slice SD.S.A10 D.F.vs.length SD.S.c10)∧w'.cell? ⟨go,1,none⟩=some (.int .i64 O.v)∧w'.cell? ⟨go,3,none⟩=some (.bool O.on)∧Below w_17.heap.size w_17 w') (ds:=[]) (bsq 66 0) (by kernel_rfl) rfl rfl ⟨(bkc K18_gd.out 10).trans rfl,(bkc K18_go.out 1).trans rfl,(bkc K18_go.out 3).trans rfl,bwd (Below.refl _ _)⟩ (fun hHeld=>?_)
         refine pure_ (i:=0) (N:=some 127) (v:=?_) (a':=?_) (bsq 66 1) rfl rfl (by kernel_rfl) (fun _ _ _ h=>h) (Or.inl ⟨by rfl,?_⟩) ?_ ?_
         rotate_left
         ·intro w'
          go_simp
          with_reducible rfl
         rotate_left
         ·simp only [Act.put,bq1,bq2,bq3,i64_w,i32_w]
          rfl
         refine pure_ (i:=1) (N:=some 128) (v:=?_) (a':=?_) (bsq 66 3) rfl rfl (by kernel_rfl) (fun _ _ _ h=>h) (Or.inl ⟨by rfl,?_⟩) ?_ ?_
         rotate_left
         ·intro w'
          go_simp
          with_reducible rfl
         rotate_left
         ·simp only [Act.put,bq1,bq2,bq3,i64_w,i32_w]
          rfl
         refine pure_ (i:=2) (N:=some 129) (v:=?_) (a':=?_) (bsq 66 7) rfl rfl (by kernel_rfl) (fun _ _ _ h=>h) (Or.inl ⟨by rfl,?_⟩) ?_ ?_
         rotate_left
         ·intro w'
          go_simp
          with_reducible rfl
         rotate_left
         ·simp only [Act.put,bq1,bq2,bq3,i64_w,i32_w]
          rfl
         refine pure_ (i:=3) (N:=some 130) (v:=undef) (a':=?_) (bsq 66 15) rfl rfl (by kernel_rfl) (fun _ _ _ h=>h) (Or.inr ⟨by rfl,rfl⟩) ?_ ?_
         rotate_left
         ·simp only [Act.put,bq1,bq2,bq3,i64_w,i32_w]
          rfl
         refine pure_ (i:=4) (N:=some 131) (v:=undef) (a':=?_) (bsq 66 31) rfl rfl (by kernel_rfl) (fun _ _ _ h=>h) (Or.inr ⟨by rfl,rfl⟩) ?_ ?_
         rotate_left
         ·simp only [Act.put,bq1,bq2,bq3,i64_w,i32_w]
          rfl
         refine pure_ (i:=5) (N:=some 132) (v:=undef) (a':=?_) (bsq 66 63) rfl rfl (by kernel_rfl) (fun _ _ _ h=>h) (Or.inr ⟨by rfl,rfl⟩) ?_ ?_
         rotate_left
         ·simp only [Act.put,bq1,bq2,bq3,i64_w,i32_w]
          rfl
         refine pure_ (i:=6) (N:=some 133) (v:=undef) (a':=?_) (bsq 66 127) rfl rfl (by kernel_rfl) (fun _ _ _ h=>h) (Or.inr ⟨by rfl,rfl⟩) ?_ ?_
         rotate_left
         ·simp only [Act.put,bq1,bq2,bq3,i64_w,i32_w]
          rfl
         refine pure_ (i:=7) (N:=some 134) (v:=undef) (a':=?_) (bsq 66 255) rfl rfl (by kernel_rfl) (fun _ _ _ h=>h) (Or.inr ⟨by rfl,rfl⟩) ?_ ?_
         rotate_left
         ·simp only [Act.put,bq1,bq2,bq3,i64_w,i32_w]
          rfl
         refine pure_ (i:=8) (N:=some 135) (v:=undef) (a':=?_) (bsq 66 511) rfl rfl (by kernel_rfl) (fun _ _ _ h=>h) (Or.inr ⟨by rfl,rfl⟩) ?_ ?_
         rotate_left
         ·simp only [Act.put,bq1,bq2,bq3,i64_w,i32_w]
          rfl
         refine pure_ (i:=9) (N:=some 136) (v:=undef) (a':=?_) (bsq 66 1023) rfl rfl (by kernel_rfl) (fun _ _ _ h=>h) (Or.inr ⟨by rfl,rfl⟩) ?_ ?_
         rotate_left
         ·simp only [Act.put,bq1,bq2,bq3,i64_w,i32_w]
          rfl
         refine pure_ (i:=10) (N:=some 137) (v:=undef) (a':=?_) (bsq 66 2047) rfl rfl (by kernel_rfl) (fun _ _ _ h=>h) (Or.inr ⟨by rfl,rfl⟩) ?_ ?_
         rotate_left
         ·simp only [Act.put,bq1,bq2,bq3,i64_w,i32_w]
          rfl
         refine pure_ (i:=11) (N:=some 138) (v:=undef) (a':=?_) (bsq 66 4095) rfl rfl (by kernel_rfl) (fun _ _ _ h=>h) (Or.inr ⟨by rfl,rfl⟩) ?_ ?_
         rotate_left
         ·simp only [Act.put,bq1,bq2,bq3,i64_w,i32_w]
          rfl
         refine pure_ (i:=12) (N:=some 139) (v:=undef) (a':=?_) (bsq 66 8191) rfl rfl (by kernel_rfl) (fun _ _ _ h=>h) (Or.inr ⟨by rfl,rfl⟩) ?_ ?_
         rotate_left
         ·simp only [Act.put,bq1,bq2,bq3,i64_w,i32_w]
          rfl
         as_aux_lemma =>
          refine pure_ (i:=13) (N:=some 140) (v:=undef) (a':=?_) (bsq 66 16383) rfl rfl (by kernel_rfl) (fun _ _ _ h=>h) (Or.inr ⟨by rfl,rfl⟩) ?_ ?_
          rotate_left
          ·simp only [Act.put,bq1,bq2,bq3,i64_w,i32_w]
           rfl
          refine pure_ (i:=14) (N:=some 141) (v:=undef) (a':=?_) (bsq 66 32767) rfl rfl (by kernel_rfl) (fun _ _ _ h=>h) (Or.inr ⟨by rfl,rfl⟩) ?_ ?_
          rotate_left
          ·simp only [Act.put,bq1,bq2,bq3,i64_w,i32_w]
           rfl
          refine pure_ (i:=15) (N:=some 142) (v:=undef) (a':=?_) (bsq 66 65535) rfl rfl (by kernel_rfl) (fun _ _ _ h=>h) (Or.inr ⟨by rfl,rfl⟩) ?_ ?_
          rotate_left
          ·simp only [Act.put,bq1,bq2,bq3,i64_w,i32_w]
           rfl
          refine pure_ (i:=16) (N:=some 143) (v:=undef) (a':=?_) (bsq 66 131071) rfl rfl (by kernel_rfl) (fun _ _ _ h=>h) (Or.inr ⟨by rfl,rfl⟩) ?_ ?_
          rotate_left
          ·simp only [Act.put,bq1,bq2,bq3,i64_w,i32_w]
           rfl
          refine pure_ (i:=17) (N:=some 144) (v:=undef) (a':=?_) (bsq 66 262143) rfl rfl (by kernel_rfl) (fun _ _ _ h=>h) (Or.inr ⟨by rfl,rfl⟩) ?_ ?_
          rotate_left
          ·simp only [Act.put,bq1,bq2,bq3,i64_w,i32_w]
           rfl
          refine pure_ (i:=18) (N:=some 145) (v:=undef) (a':=?_) (bsq 66 524287) rfl rfl (by kernel_rfl) (fun _ _ _ h=>h) (Or.inr ⟨by rfl,rfl⟩) ?_ ?_
          rotate_left
          ·simp only [Act.put,bq1,bq2,bq3,i64_w,i32_w]
           rfl
          refine pure_ (i:=19) (N:=some 146) (v:=undef) (a':=?_) (bsq 66 1048575) rfl rfl (by kernel_rfl) (fun _ _ _ h=>h) (Or.inr ⟨by rfl,rfl⟩) ?_ ?_
          rotate_left
          ·simp only [Act.put,bq1,bq2,bq3,i64_w,i32_w]
           rfl
          refine pure_ (i:=20) (N:=some 147) (v:=undef) (a':=?_) (bsq 66 2097151) rfl rfl (by kernel_rfl) (fun _ _ _ h=>h) (Or.inr ⟨by rfl,rfl⟩) ?_ ?_
          rotate_left
          ·simp only [Act.put,bq1,bq2,bq3,i64_w,i32_w]
           rfl
          refine pure_ (i:=21) (N:=some 148) (v:=?_) (a':=?_) (bsq 66 4194303) rfl rfl (by kernel_rfl) (fun _ _ _ h=>h) (Or.inl ⟨by rfl,?_⟩) ?_ ?_
          rotate_left
          ·intro w'
           go_simp
           with_reducible rfl
          rotate_left
          ·simp only [Act.put,bq1,bq2,bq3,i64_w,i32_w]
           rfl
          refine pure_ (i:=22) (N:=some 149) (v:=?_) (a':=?_) (bsq 66 8388607) rfl rfl (by kernel_rfl) (fun _ _ _ h=>h) (Or.inl ⟨by rfl,?_⟩) ?_ ?_
          rotate_left
          ·intro w'
           go_simp
           with_reducible rfl
          rotate_left
          ·simp only [Act.put,bq1,bq2,bq3,i64_w,i32_w]
           rfl
          refine pure_ (i:=23) (N:=some 150) (v:=?_) (a':=?_) (bsq 66 16777215) rfl rfl (by kernel_rfl) (fun _ _ _ h=>h) (Or.inl ⟨by rfl,?_⟩) ?_ ?_
          rotate_left
          ·intro w'
           go_simp
           with_reducible rfl
          rotate_left
          ·simp only [Act.put,bq1,bq2,bq3,i64_w,i32_w]
           rfl
          refine pure_ (i:=24) (N:=some 151) (v:=?_) (a':=?_) (bsq 66 33554431) rfl rfl (by kernel_rfl) (fun _ _ _ h=>h) (Or.inl ⟨by rfl,?_⟩) ?_ ?_
          rotate_left
          ·intro w'
           go_simp
           with_reducible rfl
          rotate_left
          ·simp only [Act.put,bq1,bq2,bq3,i64_w,i32_w]
           rfl
          refine pure_ (i:=25) (N:=some 152) (v:=?_) (a':=?_) (bsq 66 67108863) rfl rfl (by kernel_rfl) (fun _ _ _ h=>h) (Or.inl ⟨by rfl,?_⟩) ?_ ?_
          rotate_left
          ·intro w'
           go_simp
           with_reducible rfl
          rotate_left
          ·simp only [Act.put,bq1,bq2,bq3,i64_w,i32_w]
           rfl
          refine pure_ (i:=26) (N:=some 153) (v:=undef) (a':=?_) (bsq 66 134217727) rfl rfl (by kernel_rfl) (fun _ _ _ h=>h) (Or.inr ⟨by rfl,rfl⟩) ?_ ?_
          rotate_left
          ·simp only [Act.put,bq1,bq2,bq3,i64_w,i32_w]
           rfl
          as_aux_lemma =>
           refine pure_ (i:=27) (N:=some 154) (v:=undef) (a':=?_) (bsq 66 268435455) rfl rfl (by kernel_rfl) (fun _ _ _ h=>h) (Or.inr ⟨by rfl,rfl⟩) ?_ ?_
           rotate_left
           ·simp only [Act.put,bq1,bq2,bq3,i64_w,i32_w]
            rfl
           refine pure_ (i:=28) (N:=some 155) (v:=undef) (a':=?_) (bsq 66 536870911) rfl rfl (by kernel_rfl) (fun _ _ _ h=>h) (Or.inr ⟨by rfl,rfl⟩) ?_ ?_
           rotate_left
           ·simp only [Act.put,bq1,bq2,bq3,i64_w,i32_w]
            rfl
           refine pure_ (i:=29) (N:=some 156) (v:=undef) (a':=?_) (bsq 66 1073741823) rfl rfl (by kernel_rfl) (fun _ _ _ h=>h) (Or.inr ⟨by rfl,rfl⟩) ?_ ?_
           rotate_left
           ·simp only [Act.put,bq1,bq2,bq3,i64_w,i32_w]
            rfl
           refine pure_ (i:=30) (N:=some 157) (v:=undef) (a':=?_) (bsq 66 2147483647) rfl rfl (by kernel_rfl) (fun _ _ _ h=>h) (Or.inr ⟨by rfl,rfl⟩) ?_ ?_
           rotate_left
           ·simp only [Act.put,bq1,bq2,bq3,i64_w,i32_w]
            rfl
           refine pure_ (i:=31) (N:=some 158) (v:=undef) (a':=?_) (bsq 66 4294967295) rfl rfl (by kernel_rfl) (fun _ _ _ h=>h) (Or.inr ⟨by rfl,rfl⟩) ?_ ?_
           rotate_left
           ·simp only [Act.put,bq1,bq2,bq3,i64_w,i32_w]
            rfl
           refine pure_ (i:=32) (N:=some 159) (v:=?_) (a':=?_) (bsq 66 8589934591) rfl rfl (by kernel_rfl) (fun _ _ _ h=>h) (Or.inl ⟨by rfl,?_⟩) ?_ ?_
           rotate_left
           ·intro w'
            go_simp
            with_reducible rfl
           rotate_left
           ·simp only [Act.put,bq1,bq2,bq3,i64_w,i32_w]
            rfl
           refine pure_ (i:=33) (N:=some 160) (v:=?_) (a':=?_) (bsq 66 17179869183) rfl rfl (by kernel_rfl) (fun _ _ _ h=>h) (Or.inl ⟨by rfl,?_⟩) ?_ ?_
           rotate_left
           ·intro w'
            go_simp
            with_reducible rfl
           rotate_left
           ·simp only [Act.put,bq1,bq2,bq3,i64_w,i32_w]
            rfl
           refine pure_ (i:=34) (N:=some 161) (v:=?_) (a':=?_) (bsq 66 34359738367) rfl rfl (by kernel_rfl) (fun _ _ _ h=>h) (Or.inl ⟨by rfl,?_⟩) ?_ ?_
           rotate_left
           ·intro w'
            go_simp
            with_reducible rfl
           rotate_left
           ·simp only [Act.put,bq1,bq2,bq3,i64_w,i32_w]
            rfl
           refine pure_ (i:=35) (N:=some 162) (v:=?_) (a':=?_) (bsq 66 68719476735) rfl rfl (by kernel_rfl) (fun _ _ _ h=>h) (Or.inl ⟨by rfl,?_⟩) ?_ ?_
           rotate_left
           ·intro w'
            go_simp
            with_reducible rfl
           rotate_left
           ·simp only [Act.put,bq1,bq2,bq3,i64_w,i32_w]
            rfl
           refine pure_ (i:=36) (N:=some 163) (v:=?_) (a':=?_) (bsq 66 137438953471) rfl rfl (by kernel_rfl) (fun _ _ _ h=>h) (Or.inl ⟨by rfl,?_⟩) ?_ ?_
           rotate_left
           ·intro w'
            go_simp
            with_reducible rfl
           rotate_left
           ·simp only [Act.put,bq1,bq2,bq3,i64_w,i32_w]
            rfl
           refine pure_ (i:=37) (N:=some 164) (v:=?_) (a':=?_) (bsq 66 274877906943) rfl rfl (by kernel_rfl) (fun _ _ _ h=>h) (Or.inl ⟨by rfl,?_⟩) ?_ ?_
           rotate_left
           ·intro w'
            go_simp
            with_reducible rfl
           rotate_left
           ·simp only [Act.put,bq1,bq2,bq3,i64_w,i32_w]
            rfl
           refine pure_ (i:=38) (N:=some 165) (v:=?_) (a':=?_) (bsq 66 549755813887) rfl rfl (by kernel_rfl) (fun _ _ _ h=>h) (Or.inl ⟨by rfl,?_⟩) ?_ ?_
           rotate_left
           ·intro w'
            go_simp
            with_reducible rfl
           rotate_left
           ·simp only [Act.put,bq1,bq2,bq3,i64_w,i32_w]
            rfl
           refine pure_ (i:=39) (N:=some 166) (v:=?_) (a':=?_) (bsq 66 1099511627775) rfl rfl (by kernel_rfl) (fun _ _ _ h=>h) (Or.inl ⟨by rfl,?_⟩) ?_ ?_
           rotate_left
           ·intro w'
            go_simp
            with_reducible rfl
           rotate_left
           ·simp only [Act.put,bq1,bq2,bq3,i64_w,i32_w]
            rfl
           refine pure_ (i:=41) (N:=some 168) (v:=?_) (a':=?_) (bsq 66 3298534883327) rfl rfl (by kernel_rfl) (fun _ _ _ h=>h) (Or.inl ⟨by rfl,?_⟩) ?_ ?_
           rotate_left
           ·intro w'
            go_simp
            with_reducible rfl
           rotate_left
           ·simp only [Act.put,bq1,bq2,bq3,i64_w,i32_w]
            rfl
           as_aux_lemma =>
            refine pure_ (i:=45) (N:=some 172) (v:=?_) (a':=?_) (bsq 66 38482906972159) rfl rfl (by kernel_rfl) (fun _ _ _ h=>h) (Or.inl ⟨by rfl,?_⟩) ?_ ?_
            rotate_left
            ·intro w'
             go_simp
             with_reducible rfl
            rotate_left
            ·simp only [Act.put,bq1,bq2,bq3,i64_w,i32_w]
             rfl
            refine take_ (i:=40) (N:=some 167) (v:=?_) (a':=?_) (bsq 66 39582418599935) rfl rfl (by kernel_rfl) (fun _ _ _ h=>h) (Or.inl ⟨by rfl,?_⟩) hHeld ?_ ?_
            rotate_left
            ·rintro w' ⟨s0,s1,s2,s3⟩
             go_simp
             with_reducible rfl
            rotate_left
            ·simp only [Act.put,bq1,bq2,bq3,i64_w,i32_w]
             rfl
            refine take_ (i:=42) (N:=some 169) (v:=?_) (a':=?_) (bsq 66 43980465111039) rfl rfl (by kernel_rfl) (fun _ _ _ h=>h) (Or.inl ⟨by rfl,?_⟩) hHeld ?_ ?_
            rotate_left
            ·rintro w' ⟨s0,s1,s2,s3⟩
             go_simp
             with_reducible rfl
            rotate_left
            ·simp only [Act.put,bq1,bq2,bq3,i64_w,i32_w]
             rfl
            refine pure_ (i:=43) (N:=some 170) (v:=?_) (a':=?_) (bsq 66 52776558133247) rfl rfl (by kernel_rfl) (fun _ _ _ h=>h) (Or.inl ⟨by rfl,?_⟩) ?_ ?_
            rotate_left
            ·intro w'
             go_simp
             with_reducible rfl
            rotate_left
            ·simp only [Act.put,bq1,bq2,bq3,i64_w,i32_w]
             rfl
            refine take_ (i:=46) (N:=some 173) (v:=?_) (a':=?_) (bsq 66 123145302310911) rfl rfl (by kernel_rfl) (fun _ _ _ h=>h) (Or.inl ⟨by rfl,?_⟩) hHeld ?_ ?_
            rotate_left
            ·rintro w' ⟨s0,s1,s2,s3⟩
             go_simp
             with_reducible rfl
            rotate_left
            ·simp only [Act.put,bq1,bq2,bq3,i64_w,i32_w]
             rfl
            refine one_ (i:=44) (N:=some 171) (bsq 66 140737488355327) rfl rfl (by kernel_rfl) (by decide) (fun K hK=>?_)
            refine goes_ Try.func22 (by kernel_rfl) rfl #[.slice SD.S.A10 D.F.vs.length SD.S.c10,.int .i64 (v7:Int)] (by rfl) rfl rfl (by simp only [List.map_toArray,List.map_cons,List.map_nil];rfl) ?_
            with_reducible refine (net_at SD.S.A10 SD.S.c10 D.F.vs (v7:Int) _ (O18_SD.out.below (hHeld.2.2.2)).cv.f.r10 (O18_SD.out.below (hHeld.2.2.2)).cv.f.l10 SM3.out).mono ?_
            rintro e wn ⟨rfl,hc⟩
            refine ⟨_,rfl,?_⟩
            have HN:=amk hc
            clear hc
            rw [ez1]
            refine hK.out _ _ ⟨pcb HN.out hHeld.1,pcb HN.out hHeld.2.1,pcb HN.out hHeld.2.2.1,bws hHeld.2.2.2 HN.out⟩ (fun hHeld=>?_)
            clear hK K
            refine norm_ (a':=?_) ?_ ?_
            rotate_left
            ·show Act.put _ (some 171) _=_
             simp only [Act.put,bq1,bq2,bq3,i64_w,i32_w]
             rfl
            refine pure_ (i:=47) (N:=some 174) (v:=?_) (a':=?_) (bsq 66 281474976710655) rfl rfl (by kernel_rfl) (fun _ _ _ h=>h) (Or.inl ⟨by rfl,?_⟩) ?_ ?_
            rotate_left
            ·intro w'
             go_simp
             with_reducible rfl
            rotate_left
            ·simp only [Act.put,bq1,bq2,bq3,i64_w,i32_w]
             rfl
            refine pure_ (i:=48) (N:=some 175) (v:=?_) (a':=?_) (bsq 66 562949953421311) rfl rfl (by kernel_rfl) (fun _ _ _ h=>h) (Or.inl ⟨by rfl,?_⟩) ?_ ?_
            rotate_left
            ·intro w'
             go_simp
             with_reducible rfl
            rotate_left
            ·simp only [Act.put,bq1,bq2,bq3,i64_w,i32_w]
             rfl
            refine pure_ (i:=49) (N:=some 176) (v:=?_) (a':=?_) (bsq 66 1125899906842623) rfl rfl (by kernel_rfl) (fun _ _ _ h=>h) (Or.inl ⟨by rfl,?_⟩) ?_ ?_
            rotate_left
            ·intro w'
             go_simp
             with_reducible rfl
            rotate_left
            ·simp only [Act.put,bq1,bq2,bq3,i64_w,i32_w]
             rfl
            refine pure_ (i:=50) (N:=some 177) (v:=?_) (a':=?_) (bsq 66 2251799813685247) rfl rfl (by kernel_rfl) (fun _ _ _ h=>h) (Or.inl ⟨by rfl,?_⟩) ?_ ?_
            rotate_left
            ·intro w'
             go_simp
             with_reducible rfl
            rotate_left
            ·simp only [Act.put,bq1,bq2,bq3,i64_w,i32_w]
             rfl
            refine pure_ (i:=51) (N:=some 178) (v:=?_) (a':=?_) (bsq 66 4503599627370495) rfl rfl (by kernel_rfl) (fun _ _ _ h=>h) (Or.inl ⟨by rfl,?_⟩) ?_ ?_
            rotate_left
            ·intro w'
             go_simp
             with_reducible rfl
            rotate_left
            ·simp only [Act.put,bq1,bq2,bq3,i64_w,i32_w]
             rfl
            refine pure_ (i:=52) (N:=some 179) (v:=?_) (a':=?_) (bsq 66 9007199254740991) rfl rfl (by kernel_rfl) (fun _ _ _ h=>h) (Or.inl ⟨by rfl,?_⟩) ?_ ?_
            rotate_left
            ·intro w'
             go_simp
             with_reducible rfl
            rotate_left
            ·simp only [Act.put,bq1,bq2,bq3,i64_w,i32_w]
             rfl
            refine pure_ (i:=53) (N:=some 180) (v:=?_) (a':=?_) (bsq 66 18014398509481983) rfl rfl (by kernel_rfl) (fun _ _ _ h=>h) (Or.inl ⟨by rfl,?_⟩) ?_ ?_
            rotate_left
            ·intro w'
             go_simp
             with_reducible rfl
            rotate_left
            ·simp only [Act.put,bq1,bq2,bq3,i64_w,i32_w]
             rfl
            refine pure_ (i:=54) (N:=some 181) (v:=undef) (a':=?_) (bsq 66 36028797018963967) rfl rfl (by kernel_rfl) (fun _ _ _ h=>h) (Or.inr ⟨by rfl,rfl⟩) ?_ ?_
            rotate_left
            ·simp only [Act.put,bq1,bq2,bq3,i64_w,i32_w]
             rfl
            as_aux_lemma =>
             refine pure_ (i:=55) (N:=some 182) (v:=undef) (a':=?_) (bsq 66 72057594037927935) rfl rfl (by kernel_rfl) (fun _ _ _ h=>h) (Or.inr ⟨by rfl,rfl⟩) ?_ ?_
             rotate_left
             ·simp only [Act.put,bq1,bq2,bq3,i64_w,i32_w]
              rfl
             refine pure_ (i:=56) (N:=some 183) (v:=undef) (a':=?_) (bsq 66 144115188075855871) rfl rfl (by kernel_rfl) (fun _ _ _ h=>h) (Or.inr ⟨by rfl,rfl⟩) ?_ ?_
             rotate_left
             ·simp only [Act.put,bq1,bq2,bq3,i64_w,i32_w]
              rfl
             refine pure_ (i:=57) (N:=some 184) (v:=undef) (a':=?_) (bsq 66 288230376151711743) rfl rfl (by kernel_rfl) (fun _ _ _ h=>h) (Or.inr ⟨by rfl,rfl⟩) ?_ ?_
             rotate_left
             ·simp only [Act.put,bq1,bq2,bq3,i64_w,i32_w]
              rfl
             refine pure_ (i:=58) (N:=some 185) (v:=undef) (a':=?_) (bsq 66 576460752303423487) rfl rfl (by kernel_rfl) (fun _ _ _ h=>h) (Or.inr ⟨by rfl,rfl⟩) ?_ ?_
             rotate_left
             ·simp only [Act.put,bq1,bq2,bq3,i64_w,i32_w]
              rfl
             refine pure_ (i:=59) (N:=some 186) (v:=undef) (a':=?_) (bsq 66 1152921504606846975) rfl rfl (by kernel_rfl) (fun _ _ _ h=>h) (Or.inr ⟨by rfl,rfl⟩) ?_ ?_
             rotate_left
             ·simp only [Act.put,bq1,bq2,bq3,i64_w,i32_w]
              rfl
             refine pure_ (i:=60) (N:=some 187) (v:=undef) (a':=?_) (bsq 66 2305843009213693951) rfl rfl (by kernel_rfl) (fun _ _ _ h=>h) (Or.inr ⟨by rfl,rfl⟩) ?_ ?_
             rotate_left
             ·simp only [Act.put,bq1,bq2,bq3,i64_w,i32_w]
              rfl
             refine pure_ (i:=61) (N:=some 188) (v:=undef) (a':=?_) (bsq 66 4611686018427387903) rfl rfl (by kernel_rfl) (fun _ _ _ h=>h) (Or.inr ⟨by rfl,rfl⟩) ?_ ?_
             rotate_left
             ·simp only [Act.put,bq1,bq2,bq3,i64_w,i32_w]
              rfl
             refine pure_ (i:=62) (N:=some 189) (v:=undef) (a':=?_) (bsq 66 9223372036854775807) rfl rfl (by kernel_rfl) (fun _ _ _ h=>h) (Or.inr ⟨by rfl,rfl⟩) ?_ ?_
             rotate_left
             ·simp only [Act.put,bq1,bq2,bq3,i64_w,i32_w]
              rfl
             refine pure_ (i:=63) (N:=some 190) (v:=undef) (a':=?_) (bsq 66 18446744073709551615) rfl rfl (by kernel_rfl) (fun _ _ _ h=>h) (Or.inr ⟨by rfl,rfl⟩) ?_ ?_
             rotate_left
             ·simp only [Act.put,bq1,bq2,bq3,i64_w,i32_w]
              rfl
             refine pure_ (i:=64) (N:=some 191) (v:=?_) (a':=?_) (bsq 66 36893488147419103231) rfl rfl (by kernel_rfl) (fun _ _ _ h=>h) (Or.inl ⟨by rfl,?_⟩) ?_ ?_
             rotate_left
             ·intro w'
              go_simp
              with_reducible rfl
             rotate_left
             ·simp only [Act.put,bq1,bq2,bq3,i64_w,i32_w]
              rfl
             refine pure_ (i:=65) (N:=some 192) (v:=?_) (a':=?_) (bsq 66 73786976294838206463) rfl rfl (by kernel_rfl) (fun _ _ _ h=>h) (Or.inl ⟨by rfl,?_⟩) ?_ ?_
             rotate_left
             ·intro w'
              go_simp
              with_reducible rfl
             rotate_left
             ·simp only [Act.put,bq1,bq2,bq3,i64_w,i32_w]
              rfl
             refine done_ (by kernel_rfl) ?_
             have hb_:=bws (bwd (Below.refl w_17.heap.size w_17)) HN.out
             have B25:=amk (bws B18.out hb_)
             have K25_gc:=amk (bkb K18_gc.out hb_)
             have K25_go:=amk (bkb K18_go.out hb_)
             have K25_gd:=amk (bkb K18_gd.out hb_)
             have K25_ge:=amk (bkb K18_ge.out hb_)
             have O25_SD:=amk (O18_SD.out.below hb_)
             have O25_SE:=amk (O18_SE.out.below hb_)
             clear hb_ B18 K18_gc K18_go K18_gd K18_ge O18_SD O18_SE
             as_aux_lemma =>
              have pc11:wn.cell? ⟨gd,11,none⟩=some (.int .i64 D.p):=(bkc K25_gd.out 11).trans rfl
              have pf11:=bkf K25_gd.out 11
              have pc13:wn.cell? ⟨gd,13,none⟩=some (.bool D.on):=(bkc K25_gd.out 13).trans rfl
              have pf13:=bkf K25_gd.out 13
              have qc11:wn.cell? ⟨gc,11,none⟩=some (.int .i64 C.p):=(bkc K25_gc.out 11).trans rfl
              have qf11:=bkf K25_gc.out 11
              have qc13:wn.cell? ⟨gc,13,none⟩=some (.bool C.on):=(bkc K25_gc.out 13).trans rfl
              have qf13:=bkf K25_gc.out 13
              have q0_:=HQ.out.lo (by have:=HI.out;omega)
              rw [q0_.1] at pc11
              rw [q0_.2] at pc13
              clear q0_
              clear ez1 hv
              have wi:=HWI.out
              go_wp2_with fail
              try rw [wi]
              go_roundg ki
              case measure=>omega
              case rel=>exact ⟨i+1,rfl,⟨by have:=hk.out;omega⟩,B25⟩
       ·have i1:((i:Int) == 1)=false:=beq_eq_false_iff_ne.2 (by omega)
        have i2:((i:Int) == 2)=false:=beq_eq_false_iff_ne.2 (by omega)
        have i3:((i:Int) == 3)=false:=beq_eq_false_iff_ne.2 (by omega)
        have i4:((i:Int) == 4)=true:=beq_iff_eq.2 (by omega)
        have i5:decide ((i:Int) < 4)=false:=decide_eq_false (by omega)
        have i6:decide ((i:Int) > 3)=true:=decide_eq_true (by omega)
        have HI:=amk hi
        clear hi
        obtain ⟨ez1,ez2,ez3_⟩:=HQ.out.q4 HI.out
        have EZ3:=amk ez3_
        clear ez3_
        have hv:=HVP.out.2
        as_aux_lemma =>
         refine start_ (n:=66) (S:=fun w'=>w'.cell? ⟨gd,11,none⟩=some (.int .i64 D.p)∧w'.cell? ⟨gd,13,none⟩=some (.bool D.on)∧w'.cell? ⟨go,2,none⟩=some (.int .i64 O.p)∧Below w_17.heap.size w_17 w') (ds:=[]) (bsq 66 0) (by kernel_rfl) rfl rfl ⟨(bkc K18_gd.out 11).trans rfl,(bkc K18_gd.out 13).trans rfl,(bkc K18_go.out 2).trans rfl,bwd (Below.refl _ _)⟩ (fun hHeld=>?_)
         refine pure_ (i:=0) (N:=some 127) (v:=?_) (a':=?_) (bsq 66 1) rfl rfl (by kernel_rfl) (fun _ _ _ h=>h) (Or.inl ⟨by rfl,?_⟩) ?_ ?_
         rotate_left
         ·intro w'
          go_simp
          with_reducible rfl
         rotate_left
         ·simp only [Act.put,bq1,bq2,bq3,i64_w,i32_w]
          rfl
         refine pure_ (i:=1) (N:=some 128) (v:=?_) (a':=?_) (bsq 66 3) rfl rfl (by kernel_rfl) (fun _ _ _ h=>h) (Or.inl ⟨by rfl,?_⟩) ?_ ?_
         rotate_left
         ·intro w'
          go_simp
          with_reducible rfl
         rotate_left
         ·simp only [Act.put,bq1,bq2,bq3,i64_w,i32_w]
          rfl
         refine pure_ (i:=2) (N:=some 129) (v:=?_) (a':=?_) (bsq 66 7) rfl rfl (by kernel_rfl) (fun _ _ _ h=>h) (Or.inl ⟨by rfl,?_⟩) ?_ ?_
         rotate_left
         ·intro w'
          go_simp
          with_reducible rfl
         rotate_left
         ·simp only [Act.put,bq1,bq2,bq3,i64_w,i32_w]
          rfl
         refine pure_ (i:=3) (N:=some 130) (v:=undef) (a':=?_) (bsq 66 15) rfl rfl (by kernel_rfl) (fun _ _ _ h=>h) (Or.inr ⟨by rfl,rfl⟩) ?_ ?_
         rotate_left
         ·simp only [Act.put,bq1,bq2,bq3,i64_w,i32_w]
          rfl
         refine pure_ (i:=4) (N:=some 131) (v:=undef) (a':=?_) (bsq 66 31) rfl rfl (by kernel_rfl) (fun _ _ _ h=>h) (Or.inr ⟨by rfl,rfl⟩) ?_ ?_
         rotate_left
         ·simp only [Act.put,bq1,bq2,bq3,i64_w,i32_w]
          rfl
         refine pure_ (i:=5) (N:=some 132) (v:=undef) (a':=?_) (bsq 66 63) rfl rfl (by kernel_rfl) (fun _ _ _ h=>h) (Or.inr ⟨by rfl,rfl⟩) ?_ ?_
         rotate_left
         ·simp only [Act.put,bq1,bq2,bq3,i64_w,i32_w]
          rfl
         refine pure_ (i:=6) (N:=some 133) (v:=undef) (a':=?_) (bsq 66 127) rfl rfl (by kernel_rfl) (fun _ _ _ h=>h) (Or.inr ⟨by rfl,rfl⟩) ?_ ?_
         rotate_left
         ·simp only [Act.put,bq1,bq2,bq3,i64_w,i32_w]
          rfl
         refine pure_ (i:=7) (N:=some 134) (v:=undef) (a':=?_) (bsq 66 255) rfl rfl (by kernel_rfl) (fun _ _ _ h=>h) (Or.inr ⟨by rfl,rfl⟩) ?_ ?_
         rotate_left
         ·simp only [Act.put,bq1,bq2,bq3,i64_w,i32_w]
          rfl
         refine pure_ (i:=8) (N:=some 135) (v:=undef) (a':=?_) (bsq 66 511) rfl rfl (by kernel_rfl) (fun _ _ _ h=>h) (Or.inr ⟨by rfl,rfl⟩) ?_ ?_
         rotate_left
         ·simp only [Act.put,bq1,bq2,bq3,i64_w,i32_w]
          rfl
         refine pure_ (i:=9) (N:=some 136) (v:=undef) (a':=?_) (bsq 66 1023) rfl rfl (by kernel_rfl) (fun _ _ _ h=>h) (Or.inr ⟨by rfl,rfl⟩) ?_ ?_
         rotate_left
         ·simp only [Act.put,bq1,bq2,bq3,i64_w,i32_w]
          rfl
         refine pure_ (i:=10) (N:=some 137) (v:=undef) (a':=?_) (bsq 66 2047) rfl rfl (by kernel_rfl) (fun _ _ _ h=>h) (Or.inr ⟨by rfl,rfl⟩) ?_ ?_
         rotate_left
         ·simp only [Act.put,bq1,bq2,bq3,i64_w,i32_w]
          rfl
         refine pure_ (i:=11) (N:=some 138) (v:=undef) (a':=?_) (bsq 66 4095) rfl rfl (by kernel_rfl) (fun _ _ _ h=>h) (Or.inr ⟨by rfl,rfl⟩) ?_ ?_
         rotate_left
         ·simp only [Act.put,bq1,bq2,bq3,i64_w,i32_w]
          rfl
         refine pure_ (i:=12) (N:=some 139) (v:=undef) (a':=?_) (bsq 66 8191) rfl rfl (by kernel_rfl) (fun _ _ _ h=>h) (Or.inr ⟨by rfl,rfl⟩) ?_ ?_
         rotate_left
         ·simp only [Act.put,bq1,bq2,bq3,i64_w,i32_w]
          rfl
         as_aux_lemma =>
          refine pure_ (i:=13) (N:=some 140) (v:=undef) (a':=?_) (bsq 66 16383) rfl rfl (by kernel_rfl) (fun _ _ _ h=>h) (Or.inr ⟨by rfl,rfl⟩) ?_ ?_
          rotate_left
          ·simp only [Act.put,bq1,bq2,bq3,i64_w,i32_w]
           rfl
          refine pure_ (i:=14) (N:=some 141) (v:=undef) (a':=?_) (bsq 66 32767) rfl rfl (by kernel_rfl) (fun _ _ _ h=>h) (Or.inr ⟨by rfl,rfl⟩) ?_ ?_
          rotate_left
          ·simp only [Act.put,bq1,bq2,bq3,i64_w,i32_w]
           rfl
          refine pure_ (i:=15) (N:=some 142) (v:=undef) (a':=?_) (bsq 66 65535) rfl rfl (by kernel_rfl) (fun _ _ _ h=>h) (Or.inr ⟨by rfl,rfl⟩) ?_ ?_
          rotate_left
          ·simp only [Act.put,bq1,bq2,bq3,i64_w,i32_w]
           rfl
          refine pure_ (i:=16) (N:=some 143) (v:=undef) (a':=?_) (bsq 66 131071) rfl rfl (by kernel_rfl) (fun _ _ _ h=>h) (Or.inr ⟨by rfl,rfl⟩) ?_ ?_
          rotate_left
          ·simp only [Act.put,bq1,bq2,bq3,i64_w,i32_w]
           rfl
          refine pure_ (i:=17) (N:=some 144) (v:=undef) (a':=?_) (bsq 66 262143) rfl rfl (by kernel_rfl) (fun _ _ _ h=>h) (Or.inr ⟨by rfl,rfl⟩) ?_ ?_
          rotate_left
          ·simp only [Act.put,bq1,bq2,bq3,i64_w,i32_w]
           rfl
          refine pure_ (i:=18) (N:=some 145) (v:=undef) (a':=?_) (bsq 66 524287) rfl rfl (by kernel_rfl) (fun _ _ _ h=>h) (Or.inr ⟨by rfl,rfl⟩) ?_ ?_
          rotate_left
          ·simp only [Act.put,bq1,bq2,bq3,i64_w,i32_w]
           rfl
          refine pure_ (i:=19) (N:=some 146) (v:=undef) (a':=?_) (bsq 66 1048575) rfl rfl (by kernel_rfl) (fun _ _ _ h=>h) (Or.inr ⟨by rfl,rfl⟩) ?_ ?_
          rotate_left
          ·simp only [Act.put,bq1,bq2,bq3,i64_w,i32_w]
           rfl
          refine pure_ (i:=20) (N:=some 147) (v:=undef) (a':=?_) (bsq 66 2097151) rfl rfl (by kernel_rfl) (fun _ _ _ h=>h) (Or.inr ⟨by rfl,rfl⟩) ?_ ?_
          rotate_left
          ·simp only [Act.put,bq1,bq2,bq3,i64_w,i32_w]
           rfl
          refine pure_ (i:=21) (N:=some 148) (v:=?_) (a':=?_) (bsq 66 4194303) rfl rfl (by kernel_rfl) (fun _ _ _ h=>h) (Or.inl ⟨by rfl,?_⟩) ?_ ?_
          rotate_left
          ·intro w'
           go_simp
           with_reducible rfl
          rotate_left
          ·simp only [Act.put,bq1,bq2,bq3,i64_w,i32_w]
           rfl
          refine pure_ (i:=22) (N:=some 149) (v:=?_) (a':=?_) (bsq 66 8388607) rfl rfl (by kernel_rfl) (fun _ _ _ h=>h) (Or.inl ⟨by rfl,?_⟩) ?_ ?_
          rotate_left
          ·intro w'
           go_simp
           with_reducible rfl
          rotate_left
          ·simp only [Act.put,bq1,bq2,bq3,i64_w,i32_w]
           rfl
          refine pure_ (i:=23) (N:=some 150) (v:=?_) (a':=?_) (bsq 66 16777215) rfl rfl (by kernel_rfl) (fun _ _ _ h=>h) (Or.inl ⟨by rfl,?_⟩) ?_ ?_
          rotate_left
          ·intro w'
           go_simp
           with_reducible rfl
          rotate_left
          ·simp only [Act.put,bq1,bq2,bq3,i64_w,i32_w]
           rfl
          refine pure_ (i:=24) (N:=some 151) (v:=?_) (a':=?_) (bsq 66 33554431) rfl rfl (by kernel_rfl) (fun _ _ _ h=>h) (Or.inl ⟨by rfl,?_⟩) ?_ ?_
          rotate_left
          ·intro w'
           go_simp
           with_reducible rfl
          rotate_left
          ·simp only [Act.put,bq1,bq2,bq3,i64_w,i32_w]
           rfl
          refine pure_ (i:=25) (N:=some 152) (v:=?_) (a':=?_) (bsq 66 67108863) rfl rfl (by kernel_rfl) (fun _ _ _ h=>h) (Or.inl ⟨by rfl,?_⟩) ?_ ?_
          rotate_left
          ·intro w'
           go_simp
           with_reducible rfl
          rotate_left
          ·simp only [Act.put,bq1,bq2,bq3,i64_w,i32_w]
           rfl
          refine pure_ (i:=26) (N:=some 153) (v:=undef) (a':=?_) (bsq 66 134217727) rfl rfl (by kernel_rfl) (fun _ _ _ h=>h) (Or.inr ⟨by rfl,rfl⟩) ?_ ?_
          rotate_left
          ·simp only [Act.put,bq1,bq2,bq3,i64_w,i32_w]
           rfl
          as_aux_lemma =>
           refine pure_ (i:=27) (N:=some 154) (v:=undef) (a':=?_) (bsq 66 268435455) rfl rfl (by kernel_rfl) (fun _ _ _ h=>h) (Or.inr ⟨by rfl,rfl⟩) ?_ ?_
           rotate_left
           ·simp only [Act.put,bq1,bq2,bq3,i64_w,i32_w]
            rfl
           refine pure_ (i:=28) (N:=some 155) (v:=undef) (a':=?_) (bsq 66 536870911) rfl rfl (by kernel_rfl) (fun _ _ _ h=>h) (Or.inr ⟨by rfl,rfl⟩) ?_ ?_
           rotate_left
           ·simp only [Act.put,bq1,bq2,bq3,i64_w,i32_w]
            rfl
           refine pure_ (i:=29) (N:=some 156) (v:=undef) (a':=?_) (bsq 66 1073741823) rfl rfl (by kernel_rfl) (fun _ _ _ h=>h) (Or.inr ⟨by rfl,rfl⟩) ?_ ?_
           rotate_left
           ·simp only [Act.put,bq1,bq2,bq3,i64_w,i32_w]
            rfl
           refine pure_ (i:=30) (N:=some 157) (v:=undef) (a':=?_) (bsq 66 2147483647) rfl rfl (by kernel_rfl) (fun _ _ _ h=>h) (Or.inr ⟨by rfl,rfl⟩) ?_ ?_
           rotate_left
           ·simp only [Act.put,bq1,bq2,bq3,i64_w,i32_w]
            rfl
           refine pure_ (i:=31) (N:=some 158) (v:=undef) (a':=?_) (bsq 66 4294967295) rfl rfl (by kernel_rfl) (fun _ _ _ h=>h) (Or.inr ⟨by rfl,rfl⟩) ?_ ?_
           rotate_left
           ·simp only [Act.put,bq1,bq2,bq3,i64_w,i32_w]
            rfl
           refine pure_ (i:=32) (N:=some 159) (v:=?_) (a':=?_) (bsq 66 8589934591) rfl rfl (by kernel_rfl) (fun _ _ _ h=>h) (Or.inl ⟨by rfl,?_⟩) ?_ ?_
           rotate_left
           ·intro w'
            go_simp
            with_reducible rfl
           rotate_left
           ·simp only [Act.put,bq1,bq2,bq3,i64_w,i32_w]
            rfl
           refine pure_ (i:=33) (N:=some 160) (v:=?_) (a':=?_) (bsq 66 17179869183) rfl rfl (by kernel_rfl) (fun _ _ _ h=>h) (Or.inl ⟨by rfl,?_⟩) ?_ ?_
           rotate_left
           ·intro w'
            go_simp
            with_reducible rfl
           rotate_left
           ·simp only [Act.put,bq1,bq2,bq3,i64_w,i32_w]
            rfl
           refine pure_ (i:=34) (N:=some 161) (v:=?_) (a':=?_) (bsq 66 34359738367) rfl rfl (by kernel_rfl) (fun _ _ _ h=>h) (Or.inl ⟨by rfl,?_⟩) ?_ ?_
           rotate_left
           ·intro w'
            go_simp
            with_reducible rfl
           rotate_left
           ·simp only [Act.put,bq1,bq2,bq3,i64_w,i32_w]
            rfl
           refine pure_ (i:=35) (N:=some 162) (v:=?_) (a':=?_) (bsq 66 68719476735) rfl rfl (by kernel_rfl) (fun _ _ _ h=>h) (Or.inl ⟨by rfl,?_⟩) ?_ ?_
           rotate_left
           ·intro w'
            go_simp
            with_reducible rfl
           rotate_left
           ·simp only [Act.put,bq1,bq2,bq3,i64_w,i32_w]
            rfl
           refine pure_ (i:=36) (N:=some 163) (v:=?_) (a':=?_) (bsq 66 137438953471) rfl rfl (by kernel_rfl) (fun _ _ _ h=>h) (Or.inl ⟨by rfl,?_⟩) ?_ ?_
           rotate_left
           ·intro w'
            go_simp
            with_reducible rfl
           rotate_left
           ·simp only [Act.put,bq1,bq2,bq3,i64_w,i32_w]
            rfl
           refine pure_ (i:=37) (N:=some 164) (v:=?_) (a':=?_) (bsq 66 274877906943) rfl rfl (by kernel_rfl) (fun _ _ _ h=>h) (Or.inl ⟨by rfl,?_⟩) ?_ ?_
           rotate_left
           ·intro w'
            go_simp
            with_reducible rfl
           rotate_left
           ·simp only [Act.put,bq1,bq2,bq3,i64_w,i32_w]
            rfl
           refine pure_ (i:=38) (N:=some 165) (v:=undef) (a':=?_) (bsq 66 549755813887) rfl rfl (by kernel_rfl) (fun _ _ _ h=>h) (Or.inr ⟨by rfl,rfl⟩) ?_ ?_
           rotate_left
           ·simp only [Act.put,bq1,bq2,bq3,i64_w,i32_w]
            rfl
           refine pure_ (i:=39) (N:=some 166) (v:=undef) (a':=?_) (bsq 66 1099511627775) rfl rfl (by kernel_rfl) (fun _ _ _ h=>h) (Or.inr ⟨by rfl,rfl⟩) ?_ ?_
           rotate_left
           ·simp only [Act.put,bq1,bq2,bq3,i64_w,i32_w]
            rfl
           refine pure_ (i:=40) (N:=some 167) (v:=undef) (a':=?_) (bsq 66 2199023255551) rfl rfl (by kernel_rfl) (fun _ _ _ h=>h) (Or.inr ⟨by rfl,rfl⟩) ?_ ?_
           rotate_left
           ·simp only [Act.put,bq1,bq2,bq3,i64_w,i32_w]
            rfl
           as_aux_lemma =>
            refine pure_ (i:=41) (N:=some 168) (v:=undef) (a':=?_) (bsq 66 4398046511103) rfl rfl (by kernel_rfl) (fun _ _ _ h=>h) (Or.inr ⟨by rfl,rfl⟩) ?_ ?_
            rotate_left
            ·simp only [Act.put,bq1,bq2,bq3,i64_w,i32_w]
             rfl
            refine pure_ (i:=42) (N:=some 169) (v:=undef) (a':=?_) (bsq 66 8796093022207) rfl rfl (by kernel_rfl) (fun _ _ _ h=>h) (Or.inr ⟨by rfl,rfl⟩) ?_ ?_
            rotate_left
            ·simp only [Act.put,bq1,bq2,bq3,i64_w,i32_w]
             rfl
            refine pure_ (i:=43) (N:=some 170) (v:=undef) (a':=?_) (bsq 66 17592186044415) rfl rfl (by kernel_rfl) (fun _ _ _ h=>h) (Or.inr ⟨by rfl,rfl⟩) ?_ ?_
            rotate_left
            ·simp only [Act.put,bq1,bq2,bq3,i64_w,i32_w]
             rfl
            refine pure_ (i:=44) (N:=some 171) (v:=undef) (a':=?_) (bsq 66 35184372088831) rfl rfl (by kernel_rfl) (fun _ _ _ h=>h) (Or.inr ⟨by rfl,rfl⟩) ?_ ?_
            rotate_left
            ·simp only [Act.put,bq1,bq2,bq3,i64_w,i32_w]
             rfl
            refine pure_ (i:=45) (N:=some 172) (v:=undef) (a':=?_) (bsq 66 70368744177663) rfl rfl (by kernel_rfl) (fun _ _ _ h=>h) (Or.inr ⟨by rfl,rfl⟩) ?_ ?_
            rotate_left
            ·simp only [Act.put,bq1,bq2,bq3,i64_w,i32_w]
             rfl
            refine pure_ (i:=46) (N:=some 173) (v:=undef) (a':=?_) (bsq 66 140737488355327) rfl rfl (by kernel_rfl) (fun _ _ _ h=>h) (Or.inr ⟨by rfl,rfl⟩) ?_ ?_
            rotate_left
            ·simp only [Act.put,bq1,bq2,bq3,i64_w,i32_w]
             rfl
            refine pure_ (i:=47) (N:=some 174) (v:=undef) (a':=?_) (bsq 66 281474976710655) rfl rfl (by kernel_rfl) (fun _ _ _ h=>h) (Or.inr ⟨by rfl,rfl⟩) ?_ ?_
            rotate_left
            ·simp only [Act.put,bq1,bq2,bq3,i64_w,i32_w]
             rfl
            refine pure_ (i:=48) (N:=some 175) (v:=?_) (a':=?_) (bsq 66 562949953421311) rfl rfl (by kernel_rfl) (fun _ _ _ h=>h) (Or.inl ⟨by rfl,?_⟩) ?_ ?_
            rotate_left
            ·intro w'
             go_simp
             with_reducible rfl
            rotate_left
            ·simp only [Act.put,bq1,bq2,bq3,i64_w,i32_w]
             rfl
            refine pure_ (i:=49) (N:=some 176) (v:=?_) (a':=?_) (bsq 66 1125899906842623) rfl rfl (by kernel_rfl) (fun _ _ _ h=>h) (Or.inl ⟨by rfl,?_⟩) ?_ ?_
            rotate_left
            ·intro w'
             go_simp
             with_reducible rfl
            rotate_left
            ·simp only [Act.put,bq1,bq2,bq3,i64_w,i32_w]
             rfl
            refine pure_ (i:=50) (N:=some 177) (v:=?_) (a':=?_) (bsq 66 2251799813685247) rfl rfl (by kernel_rfl) (fun _ _ _ h=>h) (Or.inl ⟨by rfl,?_⟩) ?_ ?_
            rotate_left
            ·intro w'
             go_simp
             with_reducible rfl
            rotate_left
            ·simp only [Act.put,bq1,bq2,bq3,i64_w,i32_w]
             rfl
            refine pure_ (i:=51) (N:=some 178) (v:=?_) (a':=?_) (bsq 66 4503599627370495) rfl rfl (by kernel_rfl) (fun _ _ _ h=>h) (Or.inl ⟨by rfl,?_⟩) ?_ ?_
            rotate_left
            ·intro w'
             go_simp
             with_reducible rfl
            rotate_left
            ·simp only [Act.put,bq1,bq2,bq3,i64_w,i32_w]
             rfl
            refine pure_ (i:=52) (N:=some 179) (v:=?_) (a':=?_) (bsq 66 9007199254740991) rfl rfl (by kernel_rfl) (fun _ _ _ h=>h) (Or.inl ⟨by rfl,?_⟩) ?_ ?_
            rotate_left
            ·intro w'
             go_simp
             with_reducible rfl
            rotate_left
            ·simp only [Act.put,bq1,bq2,bq3,i64_w,i32_w]
             rfl
            refine pure_ (i:=53) (N:=some 180) (v:=?_) (a':=?_) (bsq 66 18014398509481983) rfl rfl (by kernel_rfl) (fun _ _ _ h=>h) (Or.inl ⟨by rfl,?_⟩) ?_ ?_
            rotate_left
            ·intro w'
             go_simp
             with_reducible rfl
            rotate_left
            ·simp only [Act.put,bq1,bq2,bq3,i64_w,i32_w]
             rfl
            refine pure_ (i:=54) (N:=some 181) (v:=?_) (a':=?_) (bsq 66 36028797018963967) rfl rfl (by kernel_rfl) (fun _ _ _ h=>h) (Or.inl ⟨by rfl,?_⟩) ?_ ?_
            rotate_left
            ·intro w'
             go_simp
             with_reducible rfl
            rotate_left
            ·simp only [Act.put,bq1,bq2,bq3,i64_w,i32_w]
             rfl
            as_aux_lemma =>
             refine pure_ (i:=56) (N:=some 183) (v:=?_) (a':=?_) (bsq 66 108086391056891903) rfl rfl (by kernel_rfl) (fun _ _ _ h=>h) (Or.inl ⟨by rfl,?_⟩) ?_ ?_
             rotate_left
             ·intro w'
              go_simp
              with_reducible rfl
             rotate_left
             ·simp only [Act.put,bq1,bq2,bq3,i64_w,i32_w]
              rfl
             refine take_ (i:=55) (N:=some 182) (v:=?_) (a':=?_) (bsq 66 144115188075855871) rfl rfl (by kernel_rfl) (fun _ _ _ h=>h) (Or.inl ⟨by rfl,?_⟩) hHeld ?_ ?_
             rotate_left
             ·rintro w' ⟨s0,s1,s2,s3⟩
              go_simp
              with_reducible rfl
             rotate_left
             ·simp only [Act.put,bq1,bq2,bq3,i64_w,i32_w]
              rfl
             refine take_ (i:=57) (N:=some 184) (v:=?_) (a':=?_) (bsq 66 288230376151711743) rfl rfl (by kernel_rfl) (fun _ _ _ h=>h) (Or.inl ⟨by rfl,?_⟩) hHeld ?_ ?_
             rotate_left
             ·rintro w' ⟨s0,s1,s2,s3⟩
              go_simp
              with_reducible rfl
             rotate_left
             ·simp only [Act.put,bq1,bq2,bq3,i64_w,i32_w]
              rfl
             refine pure_ (i:=58) (N:=some 185) (v:=?_) (a':=?_) (bsq 66 576460752303423487) rfl rfl (by kernel_rfl) (fun _ _ _ h=>h) (Or.inl ⟨by rfl,?_⟩) ?_ ?_
             rotate_left
             ·intro w'
              go_simp
              with_reducible rfl
             rotate_left
             ·simp only [Act.put,bq1,bq2,bq3,i64_w,i32_w]
              rfl
             refine pure_ (i:=59) (N:=some 186) (v:=?_) (a':=?_) (bsq 66 1152921504606846975) rfl rfl (by kernel_rfl) (fun _ _ _ h=>h) (Or.inl ⟨by rfl,?_⟩) ?_ ?_
             rotate_left
             ·intro w'
              go_simp
              with_reducible rfl
             rotate_left
             ·simp only [Act.put,bq1,bq2,bq3,i64_w,i32_w]
              rfl
             refine pure_ (i:=60) (N:=some 187) (v:=?_) (a':=?_) (bsq 66 2305843009213693951) rfl rfl (by kernel_rfl) (fun _ _ _ h=>h) (Or.inl ⟨by rfl,?_⟩) ?_ ?_
             rotate_left
             ·intro w'
              go_simp
              with_reducible rfl
             rotate_left
             ·simp only [Act.put,bq1,bq2,bq3,i64_w,i32_w]
              rfl
             refine pure_ (i:=61) (N:=some 188) (v:=?_) (a':=?_) (bsq 66 4611686018427387903) rfl rfl (by kernel_rfl) (fun _ _ _ h=>h) (Or.inl ⟨by rfl,?_⟩) ?_ ?_
             rotate_left
             ·intro w'
              go_simp
              with_reducible rfl
             rotate_left
             ·simp only [Act.put,bq1,bq2,bq3,i64_w,i32_w]
              rfl
             refine take_ (i:=62) (N:=some 189) (v:=?_) (a':=?_) (bsq 66 9223372036854775807) rfl rfl (by kernel_rfl) (fun _ _ _ h=>h) (Or.inl ⟨by rfl,?_⟩) hHeld ?_ ?_
             rotate_left
             ·rintro w' ⟨s0,s1,s2,s3⟩
              go_simp
              with_reducible rfl
             rotate_left
             ·simp only [Act.put,bq1,bq2,bq3,i64_w,i32_w]
              rfl
             refine pure_ (i:=63) (N:=some 190) (v:=?_) (a':=?_) (bsq 66 18446744073709551615) rfl rfl (by kernel_rfl) (fun _ _ _ h=>h) (Or.inl ⟨by rfl,?_⟩) ?_ ?_
             rotate_left
             ·intro w'
              go_simp
              with_reducible rfl
             rotate_left
             ·simp only [Act.put,bq1,bq2,bq3,i64_w,i32_w]
              rfl
             refine pure_ (i:=64) (N:=some 191) (v:=?_) (a':=?_) (bsq 66 36893488147419103231) rfl rfl (by kernel_rfl) (fun _ _ _ h=>h) (Or.inl ⟨by rfl,?_⟩) ?_ ?_
             rotate_left
             ·intro w'
              go_simp
              with_reducible rfl
             rotate_left
             ·simp only [Act.put,bq1,bq2,bq3,i64_w,i32_w]
              rfl
             refine pure_ (i:=65) (N:=some 192) (v:=?_) (a':=?_) (bsq 66 73786976294838206463) rfl rfl (by kernel_rfl) (fun _ _ _ h=>h) (Or.inl ⟨by rfl,?_⟩) ?_ ?_
             rotate_left
             ·intro w'
              go_simp
              with_reducible rfl
             rotate_left
             ·simp only [Act.put,bq1,bq2,bq3,i64_w,i32_w]
              rfl
             refine done_ (by kernel_rfl) ?_
             have hb_:=bwd (Below.refl w_17.heap.size w_17)
             obtain ⟨w_26,hw_⟩:∃ x,w_17.drew=x:=⟨_,rfl⟩
             rw [hw_] at hb_ ⊢
             clear hw_
             have B27:=amk (bws B18.out hb_)
             have K27_gc:=amk (bkb K18_gc.out hb_)
             have K27_go:=amk (bkb K18_go.out hb_)
             have K27_gd:=amk (bkb K18_gd.out hb_)
             have K27_ge:=amk (bkb K18_ge.out hb_)
             have O27_SD:=amk (O18_SD.out.below hb_)
             have O27_SE:=amk (O18_SE.out.below hb_)
             clear hb_ B18 K18_gc K18_go K18_gd K18_ge O18_SD O18_SE
             as_aux_lemma =>
              have N16:∀ w',FV w' D.F SD.S→FV w' C.F S.S→Calls Try.prog 16 #[.agg (cellsF D.F SD.S),.agg (cellsF C.F S.S)] w' fun e w''=>e=.returned (.bool true)∧Below w'.heap.size w' w'':=fun w' h1 h2=>by
               have hs:=HS.out.1
               rw [EZ3.out] at h1 ⊢
               exact same_f C.F SD.S S.S w' h1 h2 hs
              clear ez1 ez2 hv
              have i5n:decide (i < 4)=false:=by
               rw [HI.out]
               rfl
              have i6n:decide (3 < i)=true:=by
               rw [HI.out]
               rfl
              have pc0:w_26.cell? ⟨gd,0,none⟩=some (.string D.F.m):=(bkc K27_gd.out 0).trans rfl
              have pc1:w_26.cell? ⟨gd,1,none⟩=some (.bool D.F.b1):=(bkc K27_gd.out 1).trans rfl
              have pc2:w_26.cell? ⟨gd,2,none⟩=some (.bool D.F.b2):=(bkc K27_gd.out 2).trans rfl
              have pc3:w_26.cell? ⟨gd,3,none⟩=some (.bool D.F.b3):=(bkc K27_gd.out 3).trans rfl
              have pc4:w_26.cell? ⟨gd,4,none⟩=some (.bool D.F.b4):=(bkc K27_gd.out 4).trans rfl
              have pc5:w_26.cell? ⟨gd,5,none⟩=some (.bool D.F.b5):=(bkc K27_gd.out 5).trans rfl
              have pc6:w_26.cell? ⟨gd,6,none⟩=some (.bool D.F.b6):=(bkc K27_gd.out 6).trans rfl
              have pc7:w_26.cell? ⟨gd,7,none⟩=some (.slice SD.S.A7 D.F.us.length SD.S.c7):=(bkc K27_gd.out 7).trans rfl
              have pc8:w_26.cell? ⟨gd,8,none⟩=some (.slice SD.S.A8 D.F.ms.length SD.S.c8):=(bkc K27_gd.out 8).trans rfl
              have pc9:w_26.cell? ⟨gd,9,none⟩=some (.bool D.F.b9):=(bkc K27_gd.out 9).trans rfl
              have pc10:w_26.cell? ⟨gd,10,none⟩=some (.slice SD.S.A10 D.F.vs.length SD.S.c10):=(bkc K27_gd.out 10).trans rfl
              have qc0:w_26.cell? ⟨gc,0,none⟩=some (.string C.F.m):=(bkc K27_gc.out 0).trans rfl
              have qc1:w_26.cell? ⟨gc,1,none⟩=some (.bool C.F.b1):=(bkc K27_gc.out 1).trans rfl
              have qc2:w_26.cell? ⟨gc,2,none⟩=some (.bool C.F.b2):=(bkc K27_gc.out 2).trans rfl
              have qc3:w_26.cell? ⟨gc,3,none⟩=some (.bool C.F.b3):=(bkc K27_gc.out 3).trans rfl
              have qc4:w_26.cell? ⟨gc,4,none⟩=some (.bool C.F.b4):=(bkc K27_gc.out 4).trans rfl
              have qc5:w_26.cell? ⟨gc,5,none⟩=some (.bool C.F.b5):=(bkc K27_gc.out 5).trans rfl
              have qc6:w_26.cell? ⟨gc,6,none⟩=some (.bool C.F.b6):=(bkc K27_gc.out 6).trans rfl
              have qc7:w_26.cell? ⟨gc,7,none⟩=some (.slice S.S.A7 C.F.us.length S.S.c7):=(bkc K27_gc.out 7).trans rfl
              have qc8:w_26.cell? ⟨gc,8,none⟩=some (.slice S.S.A8 C.F.ms.length S.S.c8):=(bkc K27_gc.out 8).trans rfl
              have qc9:w_26.cell? ⟨gc,9,none⟩=some (.bool C.F.b9):=(bkc K27_gc.out 9).trans rfl
              have qc10:w_26.cell? ⟨gc,10,none⟩=some (.slice S.S.A10 C.F.vs.length S.S.c10):=(bkc K27_gc.out 10).trans rfl
              go_wp2_with fail
              clear pc0 pc1 pc2 pc3 pc4 pc5 pc6 pc7 pc8 pc9 pc10
              clear qc0 qc1 qc2 qc3 qc4 qc5 qc6 qc7 qc8 qc9 qc10
              refine (N16 _ O27_SD.out.cv.f (HVL.out.f.below B27.out)).mono ?_
              rintro e w_28 ⟨rfl,hb_⟩
              clear N16
              have B29:=amk (bws B27.out hb_)
              have K29_gc:=amk (bkb K27_gc.out hb_)
              have K29_go:=amk (bkb K27_go.out hb_)
              have K29_gd:=amk (bkb K27_gd.out hb_)
              have K29_ge:=amk (bkb K27_ge.out hb_)
              have O29_SD:=amk (O27_SD.out.below hb_)
              have O29_SE:=amk (O27_SE.out.below hb_)
              clear hb_ B27 K27_gc K27_go K27_gd K27_ge O27_SD O27_SE
              have wi:=HWI.out
              go_wp2_with fail
              try rw [wi]
              go_roundg ki
              case measure=>omega
              case rel=>exact ⟨i+1,rfl,⟨by have:=hk.out;omega⟩,B29⟩
end Go.Proofs.Ytkgbhlcbjflnlaa.Fl
