/- Commands and settings: contracts by hand, and the laws over them. -/
import Derived.Test.YtkgbhlcbjflnlaaZG1
import Derived.Test.YtkgbhlcbjflnlaaZCm
import Derived.Test.YtkgbhlcbjflnlaaZPl8
import Derived.Deep.DeepCutAuto
import Derived.Deep.CutBlock
namespace Go.Proofs.Ytkgbhlcbjflnlaa.Fl
open Go Go.RowKit Go.Proofs.YtkgbhlcbjflnlaaW.PrintWords Go.Proofs.YtkgbhlcbjflnlaaW.PrintLast Go.Proofs.YtkgbhlcbjflnlaaW.PrintMore Go.Proofs.Ytkgbhlcbjflnlaa.Mth Go.Proofs.Ytkgbhlcbjflnlaa.P Go.Proofs.Ytkgbhlcbjflnlaa.Own Go.Proofs
set_option linter.unusedVariables false
set_option linter.unusedSimpArgs false
/-! ### ControlApplies -/
/-- A list of the call's own, whatever it holds. -/
def OW (base e:Nat) (A:Option Addr) (n:Nat) (w:World):Prop:=0 < n→∃ g cur,A=some ⟨g,0,none⟩∧base≤g∧w.heap[g]?=some (.cells cur e (0,0))∧n≤cur.size
theorem OW.of_own {base e n c:Nat} {A:Option Addr} {w:World} {xs:List Value} (h:w.ownsRow base e 1 (.slice A n c) n xs):OW base e A n w:=by
 intro hn
 rcases h.2 with ⟨h1,h2⟩ | ⟨g,cap,cur,h1,hb,hh,hl,hm,hz,ht⟩
 ·omega
 ·injection h1 with h3 h4 h5
  exact ⟨g,cur,h3,hb,hh,by rw [hz,Nat.mul_one,← h5];omega⟩
theorem OW.set {base e n:Nat} {A:Option Addr} {w:World} (h:OW base e A n w) (k j:Nat) (v:Value):OW base e A n (w.setCell ⟨k,j,none⟩ v):=by
 intro hn
 obtain ⟨g,cur,hA,hb,hh,hl⟩:=h hn
 by_cases hp:k=g
 ·subst hp
  refine ⟨k,cur.setIfInBounds j v,hA,hb,?_,by simpa using hl⟩
  have hlt:k < w.heap.size:=blk_lt hh
  unfold World.setCell
  simp only [Array.getElem?_modify]
  rw [hh]
  simp
 ·refine ⟨g,cur,hA,hb,?_,hl⟩
  rw [← hh]
  unfold World.setCell
  simp only [Array.getElem?_modify]
  rw [if_neg hp]
theorem blk_set_far {w:World} {g t:Nat} {cs:Array Value} {p:Addr} {v:Value} (h:w.heap[g]?=some (.cells cs t (0,0))) (hp:p.block ≠ g):(w.setCell p v).heap[g]?=some (.cells cs t (0,0)):=by
 rw [← h]
 unfold World.setCell
 simp only [Array.getElem?_modify]
 rw [if_neg (by omega)]
theorem out_small {C D:Cfg} {cl cmd:Int} {t:ByteArray} (h:outS C cl cmd t=some D) (hs:SmallC C) (hv:C.F.vs.length≤90000) (ht:t.size≤1000):SmallC D:=by
 have sm:=hs.1
 unfold outS at h
 split at h
 ·split at h
  ·cases h
   obtain ⟨q1,q2,q3⟩:=rrx_lists C.F cmd t
   refine ⟨⟨?_,?_,?_⟩,hs.2⟩
   ·show (rrxS C.F cmd t).1.us.length≤_;rw [q1];exact sm.1
   ·show (rrxS C.F cmd t).1.ms.length≤_;rw [q2];exact sm.2.1
   ·show (rrxS C.F cmd t).1.vs.length≤_;rw [q3];exact sm.2.2
  ·cases h
 ·split at h
  ·split at h
   ·cases h
    exact ⟨rmac_small C.F cmd t sm ht,hs.2⟩
   ·cases h
  ·split at h
   ·split at h
    ·cases h
     refine ⟨⟨sm.1,sm.2.1,?_⟩,hs.2⟩
     show (if cmd=0 then insS (nat t 0 2:Nat) C.F.vs else delS (nat t 0 2:Nat) C.F.vs).length≤100000
     split
     ·have:=ins_le (nat t 0 2:Nat) C.F.vs;omega
     ·have:=del_le (nat t 0 2:Nat) C.F.vs;omega
    ·cases h
   ·split at h
    ·have e:=rpS_F h
     refine ⟨by rw [e];exact sm,?_⟩
     unfold rpS at h
     split at h
     ·split at h
      ·cases h;exact hs.2
      ·cases h
     ·split at h
      ·cases h
       show (intsOf (rrS t).tab).length≤100000
       rw [intsOf_len]
       unfold rrS
       split
       ·exact Nat.zero_le _
       ·split
        ·exact Nat.zero_le _
        ·dsimp only
         rw [numsAt_len]
         have:=nat_lt t 4 2
         omega
      ·cases h
    ·cases h
theorem rap_small (C:Cfg) (s:ByteArray) (hs:SmallC C) (hv:C.F.vs.length≤90000) (ht:s.size≤1000):SmallC (rapS C s).1:=by
 unfold rapS
 split
 ·exact hs
 ·cases q:outS C (bt s 0) (bt s 1) (s.extract 2 s.size) with
  | none=>exact hs
  | some D =>
   show SmallC (if chkF D.F=0 then (D,(0:Int)) else (C,1)).1
   split
   ·exact out_small q hs hv (by simp;omega)
   ·exact hs
set_option maxHeartbeats 16000000 in
set_option maxRecDepth 100000 in
theorem applies_c (C0:Cfg) (S:SlC) (s0:ByteArray) (w:World) (h:CV w C0 S):Calls Try.prog 3 #[.agg (cellsC C0 S),.string s0] w fun e w'=>e=.returned (.bool true)∧Below w.heap.size w w':=by
 obtain ⟨C,hC⟩:∃ x,boundC C0=x:=⟨_,rfl⟩
 have NB:∀ w,CV w C0 S→Calls Try.prog 9 #[.agg (cellsC C0 S)] w fun e w'=>e=.returned (.agg (cellsC C S))∧Below w.heap.size w w':=fun w h=>by
  rw [← hC]
  exact bound_c C0 S w h
 have HV0:=amk h
 have HV:Aside0 (CV w C S):=⟨by rw [← hC];exact h.bound⟩
 have HS:Aside0 (SmallC C):=⟨by rw [← hC];exact boundC_small C0⟩
 have hvl:C.F.vs.length≤90000:=by rw [← hC];show (C0.F.vs.take 60).length≤90000;rw [List.length_take];omega
 obtain ⟨kz,hkz⟩:∃ kz,min s0.size 1000=kz:=⟨_,rfl⟩
 have y1:min (s0.size:Int) 1000=(kz:Int):=by omega
 have y2:min s0.size 1000=kz:=hkz
 have y4:decide ((kz:Int)≤(s0.size:Int))=true:=decide_eq_true (by omega)
 have y5:((kz:Int)≤(s0.size:Int))=True:=eq_true (by omega)
 have y6:(kz≤s0.size)=True:=eq_true (by omega)
 obtain ⟨s,hs0⟩:∃ k,s0.extract 0 kz=k:=⟨_,rfl⟩
 have lsz:s.size≤1000:=by rw [← hs0];simp;omega
 obtain ⟨⟨D,nn⟩,hA⟩:∃ x,appS C s=x:=⟨_,rfl⟩
 have N10:∀ w,CV w C S→Calls Try.prog 10 #[.agg (cellsC C S),.string s] w fun e w'=>∃ S',e=.returned (.tuple #[.agg (cellsC D S'),.int .i64 nn])∧CV w' D S'∧Below w.heap.size w w':=fun w h=>by
  have q:=rap_c C S s w h HS.out hvl lsz
  rw [agree,hA] at q
  exact q
 have SMD:Aside0 (SmallC D):=⟨by have q:=rap_small C s HS.out hvl lsz;rw [agree,hA] at q;exact q⟩
 have N11:∀ w,CV w C S→Calls Try.prog 11 #[.agg (cellsC C S),.string s] w fun e w'=>∃ S',e=.returned (.tuple #[.agg (cellsC D S'),.int .i64 nn])∧OC w.heap.size w' D S'∧Below w.heap.size w w':=fun w h=>by
  have q:=apply_c C S s w h HS.out
  rw [hA] at q
  exact q
 have HN11:=amk N11
 clear h hC hvl hkz lsz hA N11
 have hu25:=Try.underlying25
 have hu27:=Try.underlying27
 have hu29:=Try.underlying29
 go_enter Try.func3,Try.ntmps3
 have hu22:=Try.underlying22
 have hu23:=Try.underlying23
 go_upto_region 1 with (fail)
 obtain ⟨w_1,hw_gc⟩:∃ w_,w.alloc (.cells (cellsC C0 S) 29)=w_:=⟨_,rfl⟩
 rw [hw_gc]
 have z_gc:w_1.heap.size=w.heap.size+1:=by rw [← hw_gc];simp
 have ha_:Below w.heap.size w w_1:=by rw [← hw_gc];exact bwa (Below.refl _ _) _
 have BX1:Aside0 (w_1.heap[w.heap.size]?=some (.cells (cellsC C0 S) 29 (0,0))):=⟨by rw [← hw_gc];exact blk_new w _⟩
 have hgB:w.heap.size≤w.heap.size:=((Below.refl w.heap.size w)).size
 clear hw_gc
 obtain ⟨gc,hg_⟩:∃ g_,w.heap.size=g_:=⟨_,rfl⟩
 have G_gc:Aside0 (w.heap.size≤gc):=⟨Nat.le_trans hgB (Nat.le_of_eq hg_)⟩
 rw [hg_] at BX1 z_gc
 (try rw [hg_])
 clear hgB
 clear hg_
 have B2:=amk (bws (Below.refl w.heap.size w) ha_)
 clear ha_ 
 go_wp2_with (refine wpList_load_row rfl 29 (.tmp 2) rfl gc rfl 29 (cellsC C0 S) (0,0) _ BX1.out Try.underlying29 rfl (by kernel_rfl) ?_)
 refine (NB _ (HV0.out.below B2.out)).mono ?_
 rintro e wb ⟨rfl,hb_⟩
 have B3:=amk (bws B2.out hb_)
 have K3_gc:=amk (bkb BX1.out hb_)
 clear hb_ B2 BX1
 go_upto_region 2 with (refine wpList_store_row rfl 29 (.tmp 2) (.tmp 14) rfl gc (cellsC C S) rfl rfl 29 (cellsC C0 S) K3_gc.out (by kernel_rfl) rfl (by kernel_rfl) ?_)
 obtain ⟨w_4,hw_⟩:∃ w_,wb.setRow gc (cellsC C S)=w_:=⟨_,rfl⟩
 have hu_:Upd wb w_4 (fun k=>k=gc):=by rw [← hw_];exact Upd.setRow (Upd.refl wb (fun k=>k=gc)) (.inl rfl) _
 have kf_:w_4.heap[gc]?=some (.cells (cellsC C S) 29 (0,0)):=by rw [← hw_];exact setRow_heap wb gc _ (cellsC C S) 29 (0,0) K3_gc.out
 rw [hw_]
 clear hw_
 have K5_gc:=amk (kf_)
 have B5:=amk (B3.out.trans (hu_.toBelow (B:=w.heap.size) (fun k hk=>by rw [hk];exact G_gc.out) (B3.out).size))
 clear hu_ B3 K3_gc
 clear kf_
 go_wp2_with (refine wpList_load_row rfl 29 (.tmp 2) rfl gc rfl 29 (cellsC C S) (0,0) _ K5_gc.out Try.underlying29 rfl (by kernel_rfl) ?_)
 refine (N10 _ (HV.out.below B5.out)).mono ?_
 rintro e w3 ⟨S5,rfl,hcv,hb_⟩
 have HCV5:=amk hcv
 clear hcv N10 y1 y2 y4 y5 y6 hs0 NB
 have B6:=amk (bws B5.out hb_)
 have K6_gc:=amk (bkb K5_gc.out hb_)
 clear hb_ B5 K5_gc
 go_upto_region 4 with (refine wpList_store_row rfl 29 (.tmp 5) (.tmp 24) rfl w3.heap.size (cellsC D S5) rfl rfl 29 zeroC (blk_new w3 _) (by kernel_rfl) rfl (by kernel_rfl) ?_)
 obtain ⟨w_7,hw_⟩:∃ x,(w3.alloc (.cells zeroC 29)).setRow w3.heap.size (cellsC D S5)=x:=⟨_,rfl⟩
 have hb_:Below w3.heap.size w3 w_7:=by
  rw [← hw_]
  exact (bwa (Below.refl _ _) _).trans ((Upd.setRow (Upd.refl (w3.alloc (.cells zeroC 29)) (fun k=>k=w3.heap.size)) (.inl rfl) (cellsC D S5)).toBelow (B:=w3.heap.size) (fun k hk=>by rw [hk];exact Nat.le_refl _) (by simp))
 have hblk_:w_7.heap[w3.heap.size]?=some (.cells (cellsC D S5) 29 (0,0)):=by
  rw [← hw_]
  exact setRow_heap _ w3.heap.size _ (cellsC D S5) 29 (0,0) (blk_new w3 _)
 rw [hw_]
 clear hw_
 obtain ⟨g5,hg_⟩:∃ x,w3.heap.size=x:=⟨_,rfl⟩
 rw [hg_] at hblk_
 have hge_:w3.heap.size≤g5:=Nat.le_of_eq hg_
 (try rw [hg_])
 clear hg_
 have E_gc_g5:=amk (Nat.lt_of_lt_of_le (blk_lt K6_gc.out) hge_)
 have G_g5:=amk (Nat.le_trans (B6.out).size hge_)
 have BX_g5:=amk hblk_
 have B8:=amk (bws B6.out hb_)
 have K8_gc:=amk (bkb K6_gc.out hb_)
 have O8_w5:=amk (HCV5.out.below hb_)
 clear hb_ B6 K6_gc HCV5
 clear hblk_ hge_
 have HVL:=amk (HV.out.below B8.out)
 go_wp2_with fail
 go_loopg [7] 2 (fun gk v7 w'=>∃ i:Nat,v7=.int .i64 (i:Int)∧Aside0 (i+gk=2)∧Aside0 (Below w_7.heap.size w_7 w'))
 case atStart=>exact ⟨0,rfl,⟨rfl⟩,⟨Below.refl _ _⟩⟩
 case round =>
  obtain ⟨i,rfl,hk,hL⟩:=hrel
  obtain ⟨wo,hwo⟩:∃ x,x=wr:=⟨_,rfl⟩
  subst hwo
  have hkk:=hk.out
  have wi:IntKind.i64.wrap ((i:Int)+1)=((i+1:Nat):Int):=by rw [IntKind.wrap_i64];omega
  by_cases hc:i < 2
  rotate_left
  ·have c1:decide ((i:Int) < 2)=false:=decide_eq_false (by omega)
   go_wp2_with fail
   refine (fixed_c _).mono ?_
   rintro e wf ⟨rfl,hb_⟩
   go_wp2_with fail
   go_ret
   exact ⟨rfl,bws (bws B8.out hL.out) hb_⟩
  have c1:decide ((i:Int) < 2)=true:=decide_eq_true (by omega)
  have HC:=amk hc
  have KC:=amk (bkb K8_gc.out hL.out)
  have K5:=amk (bkb BX_g5.out hL.out)
  have V5:=amk (O8_w5.out.below hL.out)
  obtain ⟨ki,rfl⟩:∃ m,gk=m+1:=⟨gk - 1,by omega⟩
  have HWI:=amk wi
  clear hkk hc wi
  go_wp2_with (refine wpList_load_row rfl 29 (.tmp 2) rfl gc rfl 29 (cellsC C S) (0,0) _ KC.out Try.underlying29 rfl (by kernel_rfl) ?_)
  refine (HN11.out _ (HVL.out.below hL.out)).mono ?_
  rintro e w8 ⟨SD,rfl,ho_,hb_⟩
  have OV_d:=amk ho_
  clear ho_ c1
  have B1:=amk (bws (Below.refl wo.heap.size wo) hb_)
  have K1_gc:=amk (bkb KC.out hb_)
  have K1_g5:=amk (bkb K5.out hb_)
  clear hb_ KC K5
  go_upto_region 8 with (refine wpList_store_row rfl 29 (.tmp 8) (.tmp 34) rfl w8.heap.size (cellsC D SD) rfl rfl 29 zeroC (blk_new w8 _) (by kernel_rfl) rfl (by kernel_rfl) ?_)
  obtain ⟨w_2,hw_⟩:∃ x,(w8.alloc (.cells zeroC 29)).setRow w8.heap.size (cellsC D SD)=x:=⟨_,rfl⟩
  have hb_:Below w8.heap.size w8 w_2:=by
   rw [← hw_]
   exact (bwa (Below.refl _ _) _).trans ((Upd.setRow (Upd.refl (w8.alloc (.cells zeroC 29)) (fun k=>k=w8.heap.size)) (.inl rfl) (cellsC D SD)).toBelow (B:=w8.heap.size) (fun k hk=>by rw [hk];exact Nat.le_refl _) (by simp))
  have hblk_:w_2.heap[w8.heap.size]?=some (.cells (cellsC D SD) 29 (0,0)):=by
   rw [← hw_]
   exact setRow_heap _ w8.heap.size _ (cellsC D SD) 29 (0,0) (blk_new w8 _)
  rw [hw_]
  clear hw_
  obtain ⟨gd,hg_⟩:∃ x,w8.heap.size=x:=⟨_,rfl⟩
  rw [hg_] at hblk_
  have hge_:w8.heap.size≤gd:=Nat.le_of_eq hg_
  (try rw [hg_])
  clear hg_
  have E_gc_gd:=amk (Nat.lt_of_lt_of_le (blk_lt K1_gc.out) hge_)
  have E_g5_gd:=amk (Nat.lt_of_lt_of_le (blk_lt K1_g5.out) hge_)
  have G_gd:=amk (Nat.le_trans (B1.out).size hge_)
  have BX_gd:=amk hblk_
  have B3:=amk (bws B1.out hb_)
  have K3_gc:=amk (bkb K1_gc.out hb_)
  have K3_g5:=amk (bkb K1_g5.out hb_)
  have O3_d:=amk (OV_d.out.below hb_)
  clear hb_ B1 K1_gc K1_g5 OV_d
  clear hblk_ hge_
  have b0:(nn != nn)=false:=by simp
  go_wp2_with (first | (refine wpList_load_part_g (by rfl) 29 (.tmp 8) rfl gd 0 rfl 29 (cellsC D SD) (cellsC D SD) (0,0) _ BX_gd.out Try.underlying29 rfl (by kernel_rfl) rfl ?_) | (refine wpList_load_part_g (by rfl) 29 (.tmp 5) rfl g5 0 rfl 29 (cellsC D S5) (cellsC D S5) (0,0) _ K3_g5.out Try.underlying29 rfl (by kernel_rfl) rfl ?_))
  refine (rsame_c D SD S5 _ O3_d.out.cv (V5.out.below B3.out) SMD.out).mono ?_
  rintro e w_4 ⟨rfl,hb_⟩
  clear b0
  have B5:=amk (bws B3.out hb_)
  have K5_gc:=amk (bkb K3_gc.out hb_)
  have K5_g5:=amk (bkb K3_g5.out hb_)
  have K5_gd:=amk (bkb BX_gd.out hb_)
  have O5_d:=amk (O3_d.out.below hb_)
  clear hb_ B3 K3_gc K3_g5 BX_gd O3_d
  have W7:Aside0 (OW wo.heap.size 9 SD.S.A7 D.F.us.length w_4):=⟨OW.of_own O5_d.out.f.o7⟩
  have W10:Aside0 (OW wo.heap.size 3 SD.S.A10 D.F.vs.length w_4):=⟨OW.of_own O5_d.out.f.o10⟩
  have W15:Aside0 (OW wo.heap.size 3 SD.A D.tab.length w_4):=⟨OW.of_own O5_d.out.r⟩
  have LD7:Aside0 (D.F.us.length≤100000):=⟨SMD.out.1.1⟩
  have LD10:Aside0 (D.F.vs.length≤100000):=⟨SMD.out.1.2.2⟩
  have LD15:Aside0 (D.tab.length≤100000):=⟨SMD.out.2⟩
  have qc7:World.cell? _ ⟨gd,7,none⟩=some (.slice SD.S.A7 D.F.us.length SD.S.c7):=(bkc K5_gd.out 7).trans rfl
  go_wp2_with fail
  go_loopg [10] (D.F.us.length) (fun gk v w'=>∃ j:Nat,v=.int .i64 (j:Int)∧Aside0 (j+gk=D.F.us.length)∧Aside0 (w'.heap[gd]?=some (.cells (cellsC D SD) 29 (0,0)))∧Aside0 (OW wo.heap.size 9 SD.S.A7 D.F.us.length w')∧Aside0 (OW wo.heap.size 3 SD.S.A10 D.F.vs.length w')∧Aside0 (OW wo.heap.size 3 SD.A D.tab.length w')∧Aside0 (Below wo.heap.size wo w'))
  case atStart=>exact ⟨0,rfl,⟨by omega⟩,K5_gd,W7,W10,W15,B5⟩
  case round =>
   obtain ⟨j,rfl,hk0,KD0,OA0,OB0,OC0,LB0⟩:=hrel
   clear qc7
   have qd0:World.cell? _ ⟨gd,7,none⟩=some (.slice SD.S.A7 D.F.us.length SD.S.c7):=(bkc KD0.out 7).trans rfl
   have hkk:=hk0.out
   have wj:IntKind.i64.wrap ((j:Int)+1)=((j+1:Nat):Int):=by rw [IntKind.wrap_i64];have:=LD7.out;omega
   by_cases hj:j < D.F.us.length
   ·have c1:decide ((j:Int) < ((D.F.us.length:Nat):Int))=true:=decide_eq_true (by omega)
    have c2:decide (j < D.F.us.length)=true:=decide_eq_true hj
    have c3:decide (0≤(j:Int))=true:=decide_eq_true (by omega)
    have c4:((j:Int) < ((D.F.us.length:Nat):Int))=True:=eq_true (by omega)
    have c5:(j < D.F.us.length)=True:=eq_true hj
    have c6:(0≤(j:Int))=True:=eq_true (by omega)
    obtain ⟨kk,rfl⟩:∃ m,gk=m+1:=⟨gk - 1,by omega⟩
    obtain ⟨g,cur,hA,hg0,hh,hl⟩:=OA0.out (by omega)
    rw [hA] at qd0
    have hat:∃ x,World.cell? _ ⟨g,j,none⟩=some x:=⟨_,(bkc hh j).trans (Array.getElem?_eq_getElem (by omega))⟩
    obtain ⟨x,hx⟩:=hat
    have hf:=bkf hh j
    have eA:(⟨g,0,none⟩:Addr).add j=⟨g,j,none⟩:=by rw [addr_add,Nat.zero_add]
    have hne:g ≠ gd:=fun q=>by subst q;have:=hh.symm.trans KD0.out;injection this with t1;injection t1 with _ t2;exact absurd t2 (by decide)
    have KE:=amk (blk_set_far (p:=⟨g,j,none⟩) (v:=.string ⟨#[]⟩) KD0.out hne)
    have OA:=amk (OA0.out.set g j (.string ⟨#[]⟩))
    have OB:=amk (OB0.out.set g j (.string ⟨#[]⟩))
    have OC_:=amk (OC0.out.set g j (.string ⟨#[]⟩))
    have LE:=amk (bwt (j:=j) (v:=.string ⟨#[]⟩) LB0.out hg0)
    clear hh hl hg0 hne
    go_wp2_with fail
    try rw [wj]
    go_roundg kk
    case measure=>omega
    case rel=>exact ⟨j+1,rfl,⟨by omega⟩,KE,OA,OB,OC_,LE⟩
   have c1:decide ((j:Int) < ((D.F.us.length:Nat):Int))=false:=decide_eq_false (by omega)
   have c2:decide (j < D.F.us.length)=false:=decide_eq_false hj
   clear hkk wj hj
   have qc10:World.cell? _ ⟨gd,10,none⟩=some (.slice SD.S.A10 D.F.vs.length SD.S.c10):=(bkc KD0.out 10).trans rfl
   go_wp2_with fail
   go_loopg [11] (D.F.vs.length) (fun gk v w'=>∃ j:Nat,v=.int .i64 (j:Int)∧Aside0 (j+gk=D.F.vs.length)∧Aside0 (w'.heap[gd]?=some (.cells (cellsC D SD) 29 (0,0)))∧Aside0 (OW wo.heap.size 9 SD.S.A7 D.F.us.length w')∧Aside0 (OW wo.heap.size 3 SD.S.A10 D.F.vs.length w')∧Aside0 (OW wo.heap.size 3 SD.A D.tab.length w')∧Aside0 (Below wo.heap.size wo w'))
   case atStart=>exact ⟨0,rfl,⟨by omega⟩,KD0,OA0,OB0,OC0,LB0⟩
   case round =>
    obtain ⟨j,rfl,hk1,KD1,OA1,OB1,OC1,LB1⟩:=hrel
    clear qc10
    have qd1:World.cell? _ ⟨gd,10,none⟩=some (.slice SD.S.A10 D.F.vs.length SD.S.c10):=(bkc KD1.out 10).trans rfl
    have hkk:=hk1.out
    have wj:IntKind.i64.wrap ((j:Int)+1)=((j+1:Nat):Int):=by rw [IntKind.wrap_i64];have:=LD10.out;omega
    by_cases hj:j < D.F.vs.length
    ·have c1:decide ((j:Int) < ((D.F.vs.length:Nat):Int))=true:=decide_eq_true (by omega)
     have c2:decide (j < D.F.vs.length)=true:=decide_eq_true hj
     have c3:decide (0≤(j:Int))=true:=decide_eq_true (by omega)
     have c4:((j:Int) < ((D.F.vs.length:Nat):Int))=True:=eq_true (by omega)
     have c5:(j < D.F.vs.length)=True:=eq_true hj
     have c6:(0≤(j:Int))=True:=eq_true (by omega)
     obtain ⟨kk,rfl⟩:∃ m,gk=m+1:=⟨gk - 1,by omega⟩
     obtain ⟨g,cur,hA,hg0,hh,hl⟩:=OB1.out (by omega)
     rw [hA] at qd1
     have hat:∃ x,World.cell? _ ⟨g,j,none⟩=some x:=⟨_,(bkc hh j).trans (Array.getElem?_eq_getElem (by omega))⟩
     obtain ⟨x,hx⟩:=hat
     have hf:=bkf hh j
     have eA:(⟨g,0,none⟩:Addr).add j=⟨g,j,none⟩:=by rw [addr_add,Nat.zero_add]
     have hne:g ≠ gd:=fun q=>by subst q;have:=hh.symm.trans KD1.out;injection this with t1;injection t1 with _ t2;exact absurd t2 (by decide)
     have KE:=amk (blk_set_far (p:=⟨g,j,none⟩) (v:=.int .i64 (-1)) KD1.out hne)
     have OA:=amk (OA1.out.set g j (.int .i64 (-1)))
     have OB:=amk (OB1.out.set g j (.int .i64 (-1)))
     have OC_:=amk (OC1.out.set g j (.int .i64 (-1)))
     have LE:=amk (bwt (j:=j) (v:=.int .i64 (-1)) LB1.out hg0)
     clear hh hl hg0 hne
     go_wp2_with fail
     try rw [wj]
     go_roundg kk
     case measure=>omega
     case rel=>exact ⟨j+1,rfl,⟨by omega⟩,KE,OA,OB,OC_,LE⟩
    have c1:decide ((j:Int) < ((D.F.vs.length:Nat):Int))=false:=decide_eq_false (by omega)
    have c2:decide (j < D.F.vs.length)=false:=decide_eq_false hj
    clear hkk wj hj
    have qc15:World.cell? _ ⟨gd,15,none⟩=some (.slice SD.A D.tab.length SD.c):=(bkc KD1.out 15).trans rfl
    go_wp2_with fail
    go_loopg [12] (D.tab.length) (fun gk v w'=>∃ j:Nat,v=.int .i64 (j:Int)∧Aside0 (j+gk=D.tab.length)∧Aside0 (w'.heap[gd]?=some (.cells (cellsC D SD) 29 (0,0)))∧Aside0 (OW wo.heap.size 9 SD.S.A7 D.F.us.length w')∧Aside0 (OW wo.heap.size 3 SD.S.A10 D.F.vs.length w')∧Aside0 (OW wo.heap.size 3 SD.A D.tab.length w')∧Aside0 (Below wo.heap.size wo w'))
    case atStart=>exact ⟨0,rfl,⟨by omega⟩,KD1,OA1,OB1,OC1,LB1⟩
    case round =>
     obtain ⟨j,rfl,hk2,KD2,OA2,OB2,OC2,LB2⟩:=hrel
     clear qc15
     have qd2:World.cell? _ ⟨gd,15,none⟩=some (.slice SD.A D.tab.length SD.c):=(bkc KD2.out 15).trans rfl
     have hkk:=hk2.out
     have wj:IntKind.i64.wrap ((j:Int)+1)=((j+1:Nat):Int):=by rw [IntKind.wrap_i64];have:=LD15.out;omega
     by_cases hj:j < D.tab.length
     ·have c1:decide ((j:Int) < ((D.tab.length:Nat):Int))=true:=decide_eq_true (by omega)
      have c2:decide (j < D.tab.length)=true:=decide_eq_true hj
      have c3:decide (0≤(j:Int))=true:=decide_eq_true (by omega)
      have c4:((j:Int) < ((D.tab.length:Nat):Int))=True:=eq_true (by omega)
      have c5:(j < D.tab.length)=True:=eq_true hj
      have c6:(0≤(j:Int))=True:=eq_true (by omega)
      obtain ⟨kk,rfl⟩:∃ m,gk=m+1:=⟨gk - 1,by omega⟩
      obtain ⟨g,cur,hA,hg0,hh,hl⟩:=OC2.out (by omega)
      rw [hA] at qd2
      have hat:∃ x,World.cell? _ ⟨g,j,none⟩=some x:=⟨_,(bkc hh j).trans (Array.getElem?_eq_getElem (by omega))⟩
      obtain ⟨x,hx⟩:=hat
      have hf:=bkf hh j
      have eA:(⟨g,0,none⟩:Addr).add j=⟨g,j,none⟩:=by rw [addr_add,Nat.zero_add]
      have hne:g ≠ gd:=fun q=>by subst q;have:=hh.symm.trans KD2.out;injection this with t1;injection t1 with _ t2;exact absurd t2 (by decide)
      have KE:=amk (blk_set_far (p:=⟨g,j,none⟩) (v:=.int .i64 (-1)) KD2.out hne)
      have OA:=amk (OA2.out.set g j (.int .i64 (-1)))
      have OB:=amk (OB2.out.set g j (.int .i64 (-1)))
      have OC_:=amk (OC2.out.set g j (.int .i64 (-1)))
      have LE:=amk (bwt (j:=j) (v:=.int .i64 (-1)) LB2.out hg0)
      clear hh hl hg0 hne
      go_wp2_with fail
      try rw [wj]
      go_roundg kk
      case measure=>omega
      case rel=>exact ⟨j+1,rfl,⟨by omega⟩,KE,OA,OB,OC_,LE⟩
     have c1:decide ((j:Int) < ((D.tab.length:Nat):Int))=false:=decide_eq_false (by omega)
     have c2:decide (j < D.tab.length)=false:=decide_eq_false hj
     clear hkk wj hj
     have wi:=HWI.out
     go_wp2_with fail
     try rw [wi]
     go_roundg ki
     case measure=>omega
     case rel=>exact ⟨i+1,rfl,⟨by have:=hk.out;have:=HC.out;omega⟩,⟨bws hL.out LB2.out⟩⟩
end Go.Proofs.Ytkgbhlcbjflnlaa.Fl
