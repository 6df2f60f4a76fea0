/- Commands and settings: contracts by hand, and the laws over them. -/
import Derived.Test.YtkgbhlcbjflnlaaZOwn
import Derived.Test.YtkgbhlcbjflnlaaZFSl
import Derived.Test.YtkgbhlcbjflnlaaZPx16
import Derived.Deep.QuietTactic
namespace Go.Proofs.Ytkgbhlcbjflnlaa.Fl
open Go Go.RowKit Go.Proofs.YtkgbhlcbjflnlaaW.PrintWords Go.Proofs.YtkgbhlcbjflnlaaW.PrintLast Go.Proofs.YtkgbhlcbjflnlaaW.PrintMore Go.Proofs.Ytkgbhlcbjflnlaa.Mth Go.Proofs.Ytkgbhlcbjflnlaa.P Go.Proofs.Ytkgbhlcbjflnlaa.Own Go.Proofs
set_option linter.unusedVariables false
set_option linter.unusedSimpArgs false
theorem rtexts0 (l:List ByteArray) (hl:l.length≤1099511627776):∀ d i k,i≤l.length→l.length - i=d→d < k→aqueductref16_texts.l0 k l l (i:Int)=some true:=by
 intro d
 induction d with
 | zero =>
  intro i k hi hd hk
  obtain ⟨k,rfl⟩:∃ m,k=m+1:=⟨k - 1,by omega⟩
  simp only [aqueductref16_texts.l0]
  rw [if_neg (by omega)]
 | succ d ih =>
  intro i k hi hd hk
  obtain ⟨k,rfl⟩:∃ m,k=m+1:=⟨k - 1,by omega⟩
  simp only [aqueductref16_texts.l0]
  rw [if_pos (by omega),if_pos (by omega),if_pos (by omega),w1 (show i < l.length by omega) hl,if_pos trivial]
  exact ih (i+1) k (by omega) (by omega) (by omega)
theorem txt_c (A A2:Option Addr) (c c2:Nat) (l:List ByteArray) (w:World) (h:ReadsOf Value.string ByteArray.empty w A l.length l) (hc:l.length≤c) (h2:ReadsOf Value.string ByteArray.empty w A2 l.length l) (hc2:l.length≤c2) (hl:l.length≤100000) :
  Calls Try.prog 40 #[.slice A l.length c,.slice A2 l.length c2] w fun e w'=>e=.returned (.bool true)∧Below w.heap.size w w':=by
 refine (aqueductref16_texts.calls (l.length+1) A c l A2 c2 l true w (Kd.C_of_reads h) hc (Kd.C_of_reads h2) hc2 ?_).mono ?_
 ·unfold aqueductref16_texts.f
  rw [if_pos rfl]
  exact rtexts0 l (by omega) l.length 0 (l.length+1) (by omega) (by omega) (by omega)
 ·rintro e w' ⟨rfl,hd⟩
  exact ⟨rfl,hd.below⟩
set_option maxHeartbeats 16000000 in
set_option maxRecDepth 100000 in
theorem same_f (F:Flt) (S S2:Sl) (w:World) (h:FV w F S) (h2:FV w F S2) (hs:Small F) :
  Calls Try.prog 16 #[.agg (cellsF F S),.agg (cellsF F S2)] w fun e w'=>e=.returned (.bool true)∧Below w.heap.size w w':=by
 have HV:=amk h
 have HV2:=amk h2
 have HS:=amk hs
 clear h h2 hs
 have hu22:=Try.underlying22
 have hu23:=Try.underlying23
 have hu25:=Try.underlying25
 go_enter Try.func16,Try.ntmps16
 go_upto_region 1 with (fail)
 obtain ⟨w_1,hw_g1⟩:∃ w_,w.alloc (.cells #[.string F.m,.bool F.b1,.bool F.b2,.bool F.b3,.bool F.b4,.bool F.b5,.bool F.b6,.slice S.A7 F.us.length S.c7,.slice S.A8 F.ms.length S.c8,.bool F.b9,.slice S.A10 F.vs.length S.c10] 25)=w_:=⟨_,rfl⟩
 rw [hw_g1]
 obtain ⟨w_2,hw_g2⟩:∃ w_,w_1.alloc (.cells #[.string F.m,.bool F.b1,.bool F.b2,.bool F.b3,.bool F.b4,.bool F.b5,.bool F.b6,.slice S2.A7 F.us.length S2.c7,.slice S2.A8 F.ms.length S2.c8,.bool F.b9,.slice S2.A10 F.vs.length S2.c10] 25)=w_:=⟨_,rfl⟩
 rw [hw_g2]
 have z_g1:w_1.heap.size=w.heap.size+1:=by rw [← hw_g1];simp
 have ha_:Below w.heap.size w w_1:=by rw [← hw_g1];exact bwa (Below.refl _ _) _
 have BX1:Aside0 (w_1.heap[w.heap.size]?=some (.cells #[.string F.m,.bool F.b1,.bool F.b2,.bool F.b3,.bool F.b4,.bool F.b5,.bool F.b6,.slice S.A7 F.us.length S.c7,.slice S.A8 F.ms.length S.c8,.bool F.b9,.slice S.A10 F.vs.length S.c10] 25 (0,0))):=⟨by rw [← hw_g1];exact blk_new w _⟩
 have hgB:w.heap.size≤w.heap.size:=((Below.refl w.heap.size w)).size
 clear hw_g1
 obtain ⟨g1,hg_⟩:∃ g_,w.heap.size=g_:=⟨_,rfl⟩
 have G_g1:Aside0 (w.heap.size≤g1):=⟨Nat.le_trans hgB (Nat.le_of_eq hg_)⟩
 rw [hg_] at BX1 z_g1
 (try rw [hg_])
 clear hgB
 clear hg_
 have B3:=amk (bws (Below.refl w.heap.size w) ha_)
 clear ha_ 
 have z_g2:w_2.heap.size=w_1.heap.size+1:=by rw [← hw_g2];simp
 have ha_:Below w_1.heap.size w_1 w_2:=by rw [← hw_g2];exact bwa (Below.refl _ _) _
 have BX2:Aside0 (w_2.heap[w_1.heap.size]?=some (.cells #[.string F.m,.bool F.b1,.bool F.b2,.bool F.b3,.bool F.b4,.bool F.b5,.bool F.b6,.slice S2.A7 F.us.length S2.c7,.slice S2.A8 F.ms.length S2.c8,.bool F.b9,.slice S2.A10 F.vs.length S2.c10] 25 (0,0))):=⟨by rw [← hw_g2];exact blk_new w_1 _⟩
 have hgB:w.heap.size≤w_1.heap.size:=(B3.out).size
 have hl_g1:g1 < w_1.heap.size:=blk_lt BX1.out
 clear hw_g2
 obtain ⟨g2,hg_⟩:∃ g_,w_1.heap.size=g_:=⟨_,rfl⟩
 have G_g2:Aside0 (w.heap.size≤g2):=⟨Nat.le_trans hgB (Nat.le_of_eq hg_)⟩
 rw [hg_] at BX2 z_g2 hl_g1
 have E_g1_g2:=amk hl_g1
 clear hl_g1
 (try rw [hg_])
 clear hgB
 have zz_:g1+1=g2:=by omega
 (try rw [zz_])
 clear zz_
 clear hg_
 have B4:=amk (bws B3.out ha_)
 have K4_g1:=amk (bkb BX1.out ha_)
 clear ha_ B3 BX1
 clear z_g1 z_g2
 have pc7:w_2.cell? ⟨g1,7,none⟩=some (.slice S.A7 F.us.length S.c7):=(bkc K4_g1.out 7).trans rfl
 have pf7:=bkf K4_g1.out 7
 have pc10:w_2.cell? ⟨g1,10,none⟩=some (.slice S.A10 F.vs.length S.c10):=(bkc K4_g1.out 10).trans rfl
 have pf10:=bkf K4_g1.out 10
 have qc7:w_2.cell? ⟨g2,7,none⟩=some (.slice S2.A7 F.us.length S2.c7):=(bkc BX2.out 7).trans rfl
 have qf7:=bkf BX2.out 7
 have qc10:w_2.cell? ⟨g2,10,none⟩=some (.slice S2.A10 F.vs.length S2.c10):=(bkc BX2.out 10).trans rfl
 have qf10:=bkf BX2.out 10
 go_wp2_with fail
 refine (txt_c _ _ _ _ _ _ (HV.out.r7.below B4.out) HV.out.l7 (HV2.out.r7.below B4.out) HV2.out.l7 HS.out.1).mono ?_
 rintro e w_5 ⟨rfl,hb_⟩
 clear pc7 pf7 pc10 pf10
 clear qc7 qf7 qc10 qf10
 have B6:=amk (bws B4.out hb_)
 have K6_g1:=amk (bkb K4_g1.out hb_)
 have K6_g2:=amk (bkb BX2.out hb_)
 clear hb_ B4 K4_g1 BX2
 have pc8:w_5.cell? ⟨g1,8,none⟩=some (.slice S.A8 F.ms.length S.c8):=(bkc K6_g1.out 8).trans rfl
 have pf8:=bkf K6_g1.out 8
 have qc8:w_5.cell? ⟨g2,8,none⟩=some (.slice S2.A8 F.ms.length S2.c8):=(bkc K6_g2.out 8).trans rfl
 have qf8:=bkf K6_g2.out 8
 go_wp2_with fail
 refine (txt_c _ _ _ _ _ _ (HV.out.r8.below B6.out) HV.out.l8 (HV2.out.r8.below B6.out) HV2.out.l8 HS.out.2.1).mono ?_
 rintro e w_7 ⟨rfl,hb_⟩
 clear pc8 pf8
 clear qc8 qf8
 have B8:=amk (bws B6.out hb_)
 have K8_g1:=amk (bkb K6_g1.out hb_)
 have K8_g2:=amk (bkb K6_g2.out hb_)
 clear hb_ B6 K6_g1 K6_g2
 have HR:=amk (HV.out.r10.below B8.out)
 have HR2:=amk (HV2.out.r10.below B8.out)
 have HL10:=amk HS.out.2.2
 go_wp2_with fail
 go_loopg [5] F.vs.length (fun gk v w'=>∃ i:Nat,v=.int .i64 (i:Int)∧Aside0 (i+gk=F.vs.length)∧Aside0 (Below w_7.heap.size w_7 w'))
 case atStart=>exact ⟨0,rfl,⟨by omega⟩,⟨Below.refl _ _⟩⟩
 case round =>
  obtain ⟨i,rfl,hk,hL⟩:=hrel
  have KA:=amk (bkb K8_g1.out hL.out)
  have KB:=amk (bkb K8_g2.out hL.out)
  have BW:=amk (bws B8.out hL.out)
  have hkk:=hk.out
  have wi:IntKind.i64.wrap ((i:Int)+1)=((i+1:Nat):Int):=by rw [IntKind.wrap_i64];have:=HL10.out;omega
  have wj:=amk wi
  clear wi
  by_cases hc:i < F.vs.length
  rotate_left
  ·have c1:decide ((i:Int) < ((F.vs.length:Nat):Int))=false:=decide_eq_false (by omega)
   have c2:decide (i < F.vs.length)=false:=decide_eq_false hc
   clear hkk hc
   have pc0:wr.cell? ⟨g1,0,none⟩=some (.string F.m):=(bkc KA.out 0).trans rfl
   have pf0:=bkf KA.out 0
   have pc1:wr.cell? ⟨g1,1,none⟩=some (.bool F.b1):=(bkc KA.out 1).trans rfl
   have pf1:=bkf KA.out 1
   have pc2:wr.cell? ⟨g1,2,none⟩=some (.bool F.b2):=(bkc KA.out 2).trans rfl
   have pf2:=bkf KA.out 2
   have pc3:wr.cell? ⟨g1,3,none⟩=some (.bool F.b3):=(bkc KA.out 3).trans rfl
   have pf3:=bkf KA.out 3
   have pc4:wr.cell? ⟨g1,4,none⟩=some (.bool F.b4):=(bkc KA.out 4).trans rfl
   have pf4:=bkf KA.out 4
   have pc5:wr.cell? ⟨g1,5,none⟩=some (.bool F.b5):=(bkc KA.out 5).trans rfl
   have pf5:=bkf KA.out 5
   have pc6:wr.cell? ⟨g1,6,none⟩=some (.bool F.b6):=(bkc KA.out 6).trans rfl
   have pf6:=bkf KA.out 6
   have pc7:wr.cell? ⟨g1,7,none⟩=some (.slice S.A7 F.us.length S.c7):=(bkc KA.out 7).trans rfl
   have pf7:=bkf KA.out 7
   have pc8:wr.cell? ⟨g1,8,none⟩=some (.slice S.A8 F.ms.length S.c8):=(bkc KA.out 8).trans rfl
   have pf8:=bkf KA.out 8
   have pc9:wr.cell? ⟨g1,9,none⟩=some (.bool F.b9):=(bkc KA.out 9).trans rfl
   have pf9:=bkf KA.out 9
   have pc10:wr.cell? ⟨g1,10,none⟩=some (.slice S.A10 F.vs.length S.c10):=(bkc KA.out 10).trans rfl
   have pf10:=bkf KA.out 10
   have qc0:wr.cell? ⟨g2,0,none⟩=some (.string F.m):=(bkc KB.out 0).trans rfl
   have qf0:=bkf KB.out 0
   have qc1:wr.cell? ⟨g2,1,none⟩=some (.bool F.b1):=(bkc KB.out 1).trans rfl
   have qf1:=bkf KB.out 1
   have qc2:wr.cell? ⟨g2,2,none⟩=some (.bool F.b2):=(bkc KB.out 2).trans rfl
   have qf2:=bkf KB.out 2
   have qc3:wr.cell? ⟨g2,3,none⟩=some (.bool F.b3):=(bkc KB.out 3).trans rfl
   have qf3:=bkf KB.out 3
   have qc4:wr.cell? ⟨g2,4,none⟩=some (.bool F.b4):=(bkc KB.out 4).trans rfl
   have qf4:=bkf KB.out 4
   have qc5:wr.cell? ⟨g2,5,none⟩=some (.bool F.b5):=(bkc KB.out 5).trans rfl
   have qf5:=bkf KB.out 5
   have qc6:wr.cell? ⟨g2,6,none⟩=some (.bool F.b6):=(bkc KB.out 6).trans rfl
   have qf6:=bkf KB.out 6
   have qc7:wr.cell? ⟨g2,7,none⟩=some (.slice S2.A7 F.us.length S2.c7):=(bkc KB.out 7).trans rfl
   have qf7:=bkf KB.out 7
   have qc8:wr.cell? ⟨g2,8,none⟩=some (.slice S2.A8 F.ms.length S2.c8):=(bkc KB.out 8).trans rfl
   have qf8:=bkf KB.out 8
   have qc9:wr.cell? ⟨g2,9,none⟩=some (.bool F.b9):=(bkc KB.out 9).trans rfl
   have qf9:=bkf KB.out 9
   have qc10:wr.cell? ⟨g2,10,none⟩=some (.slice S2.A10 F.vs.length S2.c10):=(bkc KB.out 10).trans rfl
   have qf10:=bkf KB.out 10
   go_wp2_with fail
   try go_ret
   exact ⟨rfl,by first | exact BW.out | exact bwd BW.out | exact pwd BW.out _⟩
  have c1:decide ((i:Int) < ((F.vs.length:Nat):Int))=true:=decide_eq_true (by omega)
  have c2:decide (i < F.vs.length)=true:=decide_eq_true hc
  have c3:decide (0≤(i:Int))=true:=decide_eq_true (by omega)
  have c4:((i:Int) < ((F.vs.length:Nat):Int))=True:=eq_true (by omega)
  have c5:(i < F.vs.length)=True:=eq_true hc
  have c6:(0≤(i:Int))=True:=eq_true (by omega)
  obtain ⟨kk,rfl⟩:∃ m,gk=m+1:=⟨gk - 1,by omega⟩
  obtain ⟨a1,hA1,hc1⟩:=(HR.out.below hL.out).2.2 (by omega)
  obtain ⟨a2,hA2,hc2⟩:=(HR2.out.below hL.out).2.2 (by omega)
  have hx1:=hc1 i hc
  have hx2:=hc2 i hc
  obtain ⟨x,hx⟩:∃ x,F.vs.getD i 0=x:=⟨_,rfl⟩
  rw [hx] at hx1 hx2
  have wk:=amk (w1 hc (Nat.le_trans HL10.out (by decide)))
  clear hc1 hc2 hx hkk hc
  have pc10:wr.cell? ⟨g1,10,none⟩=some (.slice S.A10 F.vs.length S.c10):=(bkc KA.out 10).trans rfl
  have pf10:=bkf KA.out 10
  have qc10:wr.cell? ⟨g2,10,none⟩=some (.slice S2.A10 F.vs.length S2.c10):=(bkc KB.out 10).trans rfl
  have qf10:=bkf KB.out 10
  rw [hA1] at pc10
  rw [hA2] at qc10
  go_wp2_with fail
  repeat (go_quiet (fail))
  go_wp2_with fail
  (first | rw [wk.out] | rw [wj.out])
  go_roundg kk
  case measure=>omega
  case rel=>exact ⟨i+1,rfl,⟨by have:=hk.out;omega⟩,⟨by first | exact hL.out | exact bwd hL.out | exact pwd hL.out _⟩⟩
end Go.Proofs.Ytkgbhlcbjflnlaa.Fl
