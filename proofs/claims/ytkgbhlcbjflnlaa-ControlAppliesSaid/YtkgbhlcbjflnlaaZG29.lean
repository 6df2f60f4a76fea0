/- Commands and settings: contracts by hand, and the laws over them. -/
import Derived.Test.YtkgbhlcbjflnlaaZG1
import Derived.Test.YtkgbhlcbjflnlaaZG27
import Derived.Test.YtkgbhlcbjflnlaaZPx16
import Derived.Deep.QuietTactic
import Derived.Test.YtkgbhlcbjflnlaaZG20
section
namespace Go.Proofs.Ytkgbhlcbjflnlaa.Fl
open Go Go.RowKit Go.Proofs.YtkgbhlcbjflnlaaW.PrintWords Go.Proofs.YtkgbhlcbjflnlaaW.PrintLast Go.Proofs.YtkgbhlcbjflnlaaW.PrintMore Go.Proofs.Ytkgbhlcbjflnlaa.Mth Go.Proofs.Ytkgbhlcbjflnlaa.P Go.Proofs.Ytkgbhlcbjflnlaa.Own Go.Proofs
set_option linter.unusedVariables false
set_option linter.unusedSimpArgs false
theorem rtexts0 (l:List ByteArray) (hl:l.length≤1099511627776):∀ d i k,i≤l.length→l.length - i=d→d < k→aqueductref16_texts.l0 k l l (i:Int)=some true:=by
 intro d
 induction d with
 | zero =>
  intro i k hi hd hk
  obtain ⟨k,rfl⟩:∃ m,k=m+1:=⟨k - 1,by omega⟩
  simp only [aqueductref16_texts.l0]
  rw [if_neg (by omega)]
 | succ d ih =>
  intro i k hi hd hk
  obtain ⟨k,rfl⟩:∃ m,k=m+1:=⟨k - 1,by omega⟩
  simp only [aqueductref16_texts.l0]
  rw [if_pos (by omega),if_pos (by omega),if_pos (by omega),w1 (show i < l.length by omega) hl,if_pos trivial]
  exact ih (i+1) k (by omega) (by omega) (by omega)
theorem txt_c (A A2:Option Addr) (c c2:Nat) (l:List ByteArray) (w:World) (h:ReadsOf Value.string ByteArray.empty w A l.length l) (hc:l.length≤c) (h2:ReadsOf Value.string ByteArray.empty w A2 l.length l) (hc2:l.length≤c2) (hl:l.length≤100000) :
  Calls Try.prog 40 #[.slice A l.length c,.slice A2 l.length c2] w fun e w'=>e=.returned (.bool true)∧Below w.heap.size w w':=by
 refine (aqueductref16_texts.calls (l.length+1) A c l A2 c2 l true w (Kd.C_of_reads h) hc (Kd.C_of_reads h2) hc2 ?_).mono ?_
 ·unfold aqueductref16_texts.f
  rw [if_pos rfl]
  exact rtexts0 l (by omega) l.length 0 (l.length+1) (by omega) (by omega) (by omega)
 ·rintro e w' ⟨rfl,hd⟩
  exact ⟨rfl,hd.below⟩
set_option maxHeartbeats 16000000 in
set_option maxRecDepth 100000 in
theorem same_f (F:Flt) (S S2:Sl) (w:World) (h:FV w F S) (h2:FV w F S2) (hs:Small F) :
  Calls Try.prog 16 #[.agg (cellsF F S),.agg (cellsF F S2)] w fun e w'=>e=.returned (.bool true)∧Below w.heap.size w w':=by
 have HV:=amk h
 have HV2:=amk h2
 have HS:=amk hs
 clear h h2 hs
 have hu22:=Try.underlying22
 have hu23:=Try.underlying23
 have hu25:=Try.underlying25
 go_enter Try.func16,Try.ntmps16
 go_upto_region 1 with (fail)
 obtain ⟨w_1,hw_g1⟩:∃ w_,w.alloc (.cells #[.string F.m,.bool F.b1,.bool F.b2,.bool F.b3,.bool F.b4,.bool F.b5,.bool F.b6,.slice S.A7 F.us.length S.c7,.slice S.A8 F.ms.length S.c8,.bool F.b9,.slice S.A10 F.vs.length S.c10] 25)=w_:=⟨_,rfl⟩
 rw [hw_g1]
 obtain ⟨w_2,hw_g2⟩:∃ w_,w_1.alloc (.cells #[.string F.m,.bool F.b1,.bool F.b2,.bool F.b3,.bool F.b4,.bool F.b5,.bool F.b6,.slice S2.A7 F.us.length S2.c7,.slice S2.A8 F.ms.length S2.c8,.bool F.b9,.slice S2.A10 F.vs.length S2.c10] 25)=w_:=⟨_,rfl⟩
 rw [hw_g2]
 have z_g1:w_1.heap.size=w.heap.size+1:=by rw [← hw_g1];simp
 have ha_:Below w.heap.size w w_1:=by rw [← hw_g1];exact bwa (Below.refl _ _) _
 have BX1:Aside0 (w_1.heap[w.heap.size]?=some (.cells #[.string F.m,.bool F.b1,.bool F.b2,.bool F.b3,.bool F.b4,.bool F.b5,.bool F.b6,.slice S.A7 F.us.length S.c7,.slice S.A8 F.ms.length S.c8,.bool F.b9,.slice S.A10 F.vs.length S.c10] 25 (0,0))):=⟨by rw [← hw_g1];exact blk_new w _⟩
 have hgB:w.heap.size≤w.heap.size:=((Below.refl w.heap.size w)).size
 clear hw_g1
 obtain ⟨g1,hg_⟩:∃ g_,w.heap.size=g_:=⟨_,rfl⟩
 have G_g1:Aside0 (w.heap.size≤g1):=⟨Nat.le_trans hgB (Nat.le_of_eq hg_)⟩
 rw [hg_] at BX1 z_g1
 (try rw [hg_])
 clear hgB
 clear hg_
 have B3:=amk (bws (Below.refl w.heap.size w) ha_)
 clear ha_ 
 have z_g2:w_2.heap.size=w_1.heap.size+1:=by rw [← hw_g2];simp
 have ha_:Below w_1.heap.size w_1 w_2:=by rw [← hw_g2];exact bwa (Below.refl _ _) _
 have BX2:Aside0 (w_2.heap[w_1.heap.size]?=some (.cells #[.string F.m,.bool F.b1,.bool F.b2,.bool F.b3,.bool F.b4,.bool F.b5,.bool F.b6,.slice S2.A7 F.us.length S2.c7,.slice S2.A8 F.ms.length S2.c8,.bool F.b9,.slice S2.A10 F.vs.length S2.c10] 25 (0,0))):=⟨by rw [← hw_g2];exact blk_new w_1 _⟩
 have hgB:w.heap.size≤w_1.heap.size:=(B3.out).size
 have hl_g1:g1 < w_1.heap.size:=blk_lt BX1.out
 clear hw_g2
 obtain ⟨g2,hg_⟩:∃ g_,w_1.heap.size=g_:=⟨_,rfl⟩
 have G_g2:Aside0 (w.heap.size≤g2):=⟨Nat.le_trans hgB (Nat.le_of_eq hg_)⟩
 rw [hg_] at BX2 z_g2 hl_g1
 have E_g1_g2:=amk hl_g1
 clear hl_g1
 (try rw [hg_])
 clear hgB
 have zz_:g1+1=g2:=by omega
 (try rw [zz_])
 clear zz_
 clear hg_
 have B4:=amk (bws B3.out ha_)
 have K4_g1:=amk (bkb BX1.out ha_)
 clear ha_ B3 BX1
 clear z_g1 z_g2
 have pc7:w_2.cell? ⟨g1,7,none⟩=some (.slice S.A7 F.us.length S.c7):=(bkc K4_g1.out 7).trans rfl
 have pf7:=bkf K4_g1.out 7
 have pc10:w_2.cell? ⟨g1,10,none⟩=some (.slice S.A10 F.vs.length S.c10):=(bkc K4_g1.out 10).trans rfl
 have pf10:=bkf K4_g1.out 10
 have qc7:w_2.cell? ⟨g2,7,none⟩=some (.slice S2.A7 F.us.length S2.c7):=(bkc BX2.out 7).trans rfl
 have qf7:=bkf BX2.out 7
 have qc10:w_2.cell? ⟨g2,10,none⟩=some (.slice S2.A10 F.vs.length S2.c10):=(bkc BX2.out 10).trans rfl
 have qf10:=bkf BX2.out 10
 go_wp2_with fail
 refine (txt_c _ _ _ _ _ _ (HV.out.r7.below B4.out) HV.out.l7 (HV2.out.r7.below B4.out) HV2.out.l7 HS.out.1).mono ?_
 rintro e w_5 ⟨rfl,hb_⟩
 clear pc7 pf7 pc10 pf10
 clear qc7 qf7 qc10 qf10
 have B6:=amk (bws B4.out hb_)
 have K6_g1:=amk (bkb K4_g1.out hb_)
 have K6_g2:=amk (bkb BX2.out hb_)
 clear hb_ B4 K4_g1 BX2
 have pc8:w_5.cell? ⟨g1,8,none⟩=some (.slice S.A8 F.ms.length S.c8):=(bkc K6_g1.out 8).trans rfl
 have pf8:=bkf K6_g1.out 8
 have qc8:w_5.cell? ⟨g2,8,none⟩=some (.slice S2.A8 F.ms.length S2.c8):=(bkc K6_g2.out 8).trans rfl
 have qf8:=bkf K6_g2.out 8
 go_wp2_with fail
 refine (txt_c _ _ _ _ _ _ (HV.out.r8.below B6.out) HV.out.l8 (HV2.out.r8.below B6.out) HV2.out.l8 HS.out.2.1).mono ?_
 rintro e w_7 ⟨rfl,hb_⟩
 clear pc8 pf8
 clear qc8 qf8
 have B8:=amk (bws B6.out hb_)
 have K8_g1:=amk (bkb K6_g1.out hb_)
 have K8_g2:=amk (bkb K6_g2.out hb_)
 clear hb_ B6 K6_g1 K6_g2
 have HR:=amk (HV.out.r10.below B8.out)
 have HR2:=amk (HV2.out.r10.below B8.out)
 have HL10:=amk HS.out.2.2
 go_wp2_with fail
 go_loopg [5] F.vs.length (fun gk v w'=>∃ i:Nat,v=.int .i64 (i:Int)∧Aside0 (i+gk=F.vs.length)∧Aside0 (Below w_7.heap.size w_7 w'))
 case atStart=>exact ⟨0,rfl,⟨by omega⟩,⟨Below.refl _ _⟩⟩
 case round =>
  obtain ⟨i,rfl,hk,hL⟩:=hrel
  have KA:=amk (bkb K8_g1.out hL.out)
  have KB:=amk (bkb K8_g2.out hL.out)
  have BW:=amk (bws B8.out hL.out)
  have hkk:=hk.out
  have wi:IntKind.i64.wrap ((i:Int)+1)=((i+1:Nat):Int):=by rw [IntKind.wrap_i64];have:=HL10.out;omega
  have wj:=amk wi
  clear wi
  by_cases hc:i < F.vs.length
  rotate_left
  ·have c1:decide ((i:Int) < ((F.vs.length:Nat):Int))=false:=decide_eq_false (by omega)
   have c2:decide (i < F.vs.length)=false:=decide_eq_false hc
   clear hkk hc
   have pc0:wr.cell? ⟨g1,0,none⟩=some (.string F.m):=(bkc KA.out 0).trans rfl
   have pf0:=bkf KA.out 0
   have pc1:wr.cell? ⟨g1,1,none⟩=some (.bool F.b1):=(bkc KA.out 1).trans rfl
   have pf1:=bkf KA.out 1
   have pc2:wr.cell? ⟨g1,2,none⟩=some (.bool F.b2):=(bkc KA.out 2).trans rfl
   have pf2:=bkf KA.out 2
   have pc3:wr.cell? ⟨g1,3,none⟩=some (.bool F.b3):=(bkc KA.out 3).trans rfl
   have pf3:=bkf KA.out 3
   have pc4:wr.cell? ⟨g1,4,none⟩=some (.bool F.b4):=(bkc KA.out 4).trans rfl
   have pf4:=bkf KA.out 4
   have pc5:wr.cell? ⟨g1,5,none⟩=some (.bool F.b5):=(bkc KA.out 5).trans rfl
   have pf5:=bkf KA.out 5
   have pc6:wr.cell? ⟨g1,6,none⟩=some (.bool F.b6):=(bkc KA.out 6).trans rfl
   have pf6:=bkf KA.out 6
   have pc7:wr.cell? ⟨g1,7,none⟩=some (.slice S.A7 F.us.length S.c7):=(bkc KA.out 7).trans rfl
   have pf7:=bkf KA.out 7
   have pc8:wr.cell? ⟨g1,8,none⟩=some (.slice S.A8 F.ms.length S.c8):=(bkc KA.out 8).trans rfl
   have pf8:=bkf KA.out 8
   have pc9:wr.cell? ⟨g1,9,none⟩=some (.bool F.b9):=(bkc KA.out 9).trans rfl
   have pf9:=bkf KA.out 9
   have pc10:wr.cell? ⟨g1,10,none⟩=some (.slice S.A10 F.vs.length S.c10):=(bkc KA.out 10).trans rfl
   have pf10:=bkf KA.out 10
   have qc0:wr.cell? ⟨g2,0,none⟩=some (.string F.m):=(bkc KB.out 0).trans rfl
   have qf0:=bkf KB.out 0
   have qc1:wr.cell? ⟨g2,1,none⟩=some (.bool F.b1):=(bkc KB.out 1).trans rfl
   have qf1:=bkf KB.out 1
   have qc2:wr.cell? ⟨g2,2,none⟩=some (.bool F.b2):=(bkc KB.out 2).trans rfl
   have qf2:=bkf KB.out 2
   have qc3:wr.cell? ⟨g2,3,none⟩=some (.bool F.b3):=(bkc KB.out 3).trans rfl
   have qf3:=bkf KB.out 3
   have qc4:wr.cell? ⟨g2,4,none⟩=some (.bool F.b4):=(bkc KB.out 4).trans rfl
   have qf4:=bkf KB.out 4
   have qc5:wr.cell? ⟨g2,5,none⟩=some (.bool F.b5):=(bkc KB.out 5).trans rfl
   have qf5:=bkf KB.out 5
   have qc6:wr.cell? ⟨g2,6,none⟩=some (.bool F.b6):=(bkc KB.out 6).trans rfl
   have qf6:=bkf KB.out 6
   have qc7:wr.cell? ⟨g2,7,none⟩=some (.slice S2.A7 F.us.length S2.c7):=(bkc KB.out 7).trans rfl
   have qf7:=bkf KB.out 7
   have qc8:wr.cell? ⟨g2,8,none⟩=some (.slice S2.A8 F.ms.length S2.c8):=(bkc KB.out 8).trans rfl
   have qf8:=bkf KB.out 8
   have qc9:wr.cell? ⟨g2,9,none⟩=some (.bool F.b9):=(bkc KB.out 9).trans rfl
   have qf9:=bkf KB.out 9
   have qc10:wr.cell? ⟨g2,10,none⟩=some (.slice S2.A10 F.vs.length S2.c10):=(bkc KB.out 10).trans rfl
   have qf10:=bkf KB.out 10
   go_wp2_with fail
   try go_ret
   exact ⟨rfl,by first | exact BW.out | exact bwd BW.out | exact pwd BW.out _⟩
  have c1:decide ((i:Int) < ((F.vs.length:Nat):Int))=true:=decide_eq_true (by omega)
  have c2:decide (i < F.vs.length)=true:=decide_eq_true hc
  have c3:decide (0≤(i:Int))=true:=decide_eq_true (by omega)
  have c4:((i:Int) < ((F.vs.length:Nat):Int))=True:=eq_true (by omega)
  have c5:(i < F.vs.length)=True:=eq_true hc
  have c6:(0≤(i:Int))=True:=eq_true (by omega)
  obtain ⟨kk,rfl⟩:∃ m,gk=m+1:=⟨gk - 1,by omega⟩
  obtain ⟨a1,hA1,hc1⟩:=(HR.out.below hL.out).2.2 (by omega)
  obtain ⟨a2,hA2,hc2⟩:=(HR2.out.below hL.out).2.2 (by omega)
  have hx1:=hc1 i hc
  have hx2:=hc2 i hc
  obtain ⟨x,hx⟩:∃ x,F.vs.getD i 0=x:=⟨_,rfl⟩
  rw [hx] at hx1 hx2
  have wk:=amk (w1 hc (Nat.le_trans HL10.out (by decide)))
  clear hc1 hc2 hx hkk hc
  have pc10:wr.cell? ⟨g1,10,none⟩=some (.slice S.A10 F.vs.length S.c10):=(bkc KA.out 10).trans rfl
  have pf10:=bkf KA.out 10
  have qc10:wr.cell? ⟨g2,10,none⟩=some (.slice S2.A10 F.vs.length S2.c10):=(bkc KB.out 10).trans rfl
  have qf10:=bkf KB.out 10
  rw [hA1] at pc10
  rw [hA2] at qc10
  go_wp2_with fail
  repeat (go_quiet (fail))
  go_wp2_with fail
  (first | rw [wk.out] | rw [wj.out])
  go_roundg kk
  case measure=>omega
  case rel=>exact ⟨i+1,rfl,⟨by have:=hk.out;omega⟩,⟨by first | exact hL.out | exact bwd hL.out | exact pwd hL.out _⟩⟩
end Go.Proofs.Ytkgbhlcbjflnlaa.Fl
end
section
/- Commands and settings: contracts by hand, and the laws over them. -/
namespace Go.Proofs.Ytkgbhlcbjflnlaa.Fl
open Go Go.RowKit Go.Proofs.YtkgbhlcbjflnlaaW.PrintWords Go.Proofs.YtkgbhlcbjflnlaaW.PrintLast Go.Proofs.YtkgbhlcbjflnlaaW.PrintMore Go.Proofs.Ytkgbhlcbjflnlaa.Mth Go.Proofs.Ytkgbhlcbjflnlaa.P Go.Proofs.Ytkgbhlcbjflnlaa.Own Go.Proofs
set_option linter.unusedVariables false
set_option linter.unusedSimpArgs false
/-! ### The document's Same of numbers, at the same numbers -/
theorem rs11_l (l:List Int) (hl:l.length≤1099511627776):∀ (n i k:Nat),n+i=l.length→n < k→aqueductref11_Same.l0 k l l (i:Int)=some true:=by
 intro n
 induction n with
 | zero =>
  intro i k h hk
  obtain ⟨k,rfl⟩:∃ m,k=m+1:=⟨k - 1,by omega⟩
  rw [aqueductref11_Same.l0,if_neg (by omega)]
 | succ n ih =>
  intro i k h hk
  obtain ⟨k,rfl⟩:∃ m,k=m+1:=⟨k - 1,by omega⟩
  rw [aqueductref11_Same.l0,if_pos (show (i:Int) < (l.length:Int) by omega),if_pos (by omega),if_pos (show (i:Int) < (l.length:Int) by omega),if_pos rfl,w1 (show i < l.length by omega) hl]
  exact ih (i+1) k (by omega) (by omega)
theorem rsame11 (l:List Int) (A:Option Addr) (c:Nat) (A2:Option Addr) (c2:Nat) (w:World) (h:ReadsOf (Value.int .i64) 0 w A l.length l) (hc:l.length≤c) (h2:ReadsOf (Value.int .i64) 0 w A2 l.length l) (hc2:l.length≤c2) (hl:l.length≤100000) :
  Calls Try.prog 25 #[.slice A l.length c,.slice A2 l.length c2] w fun e w'=>e=.returned (.bool true)∧Below w.heap.size w w':=by
 refine (aqueductref11_Same.calls (l.length+1) A c l A2 c2 l true w (Kd.C_of_reads h) hc (Kd.C_of_reads h2) hc2 ?_).mono ?_
 ·unfold aqueductref11_Same.f
  rw [if_pos rfl]
  exact rs11_l l (by omega) l.length 0 (l.length+1) (by omega) (by omega)
 ·rintro e w' ⟨rfl,hd⟩
  exact ⟨rfl,hd.below⟩
set_option maxHeartbeats 16000000 in
set_option maxRecDepth 100000 in
theorem rsame_c (C:Cfg) (S S2:SlC) (w:World) (h:CV w C S) (h2:CV w C S2) (hs:SmallC C):Calls Try.prog 12 #[.agg (cellsC C S),.agg (cellsC C S2)] w fun e w'=>e=.returned (.bool true)∧Below w.heap.size w w':=by
 have HV:=amk h
 have HV2:=amk h2
 have HS:=amk hs
 clear h h2 hs
 have hu25:=Try.underlying25
 have hu27:=Try.underlying27
 have hu29:=Try.underlying29
 go_enter Try.func12,Try.ntmps12
 go_upto_region 1 with (fail)
 obtain ⟨w_1,hw_g1⟩:∃ w_,w.alloc (.cells (cellsC C S) 29)=w_:=⟨_,rfl⟩
 rw [hw_g1]
 obtain ⟨w_2,hw_g2⟩:∃ w_,w_1.alloc (.cells (cellsC C S2) 29)=w_:=⟨_,rfl⟩
 rw [hw_g2]
 have z_g1:w_1.heap.size=w.heap.size+1:=by rw [← hw_g1];simp
 have ha_:Below w.heap.size w w_1:=by rw [← hw_g1];exact bwa (Below.refl _ _) _
 have BX1:Aside0 (w_1.heap[w.heap.size]?=some (.cells (cellsC C S) 29 (0,0))):=⟨by rw [← hw_g1];exact blk_new w _⟩
 have hgB:w.heap.size≤w.heap.size:=((Below.refl w.heap.size w)).size
 clear hw_g1
 obtain ⟨g1,hg_⟩:∃ g_,w.heap.size=g_:=⟨_,rfl⟩
 have G_g1:Aside0 (w.heap.size≤g1):=⟨Nat.le_trans hgB (Nat.le_of_eq hg_)⟩
 rw [hg_] at BX1 z_g1
 (try rw [hg_])
 clear hgB
 clear hg_
 have B3:=amk (bws (Below.refl w.heap.size w) ha_)
 clear ha_ 
 have z_g2:w_2.heap.size=w_1.heap.size+1:=by rw [← hw_g2];simp
 have ha_:Below w_1.heap.size w_1 w_2:=by rw [← hw_g2];exact bwa (Below.refl _ _) _
 have BX2:Aside0 (w_2.heap[w_1.heap.size]?=some (.cells (cellsC C S2) 29 (0,0))):=⟨by rw [← hw_g2];exact blk_new w_1 _⟩
 have hgB:w.heap.size≤w_1.heap.size:=(B3.out).size
 have hl_g1:g1 < w_1.heap.size:=blk_lt BX1.out
 clear hw_g2
 obtain ⟨g2,hg_⟩:∃ g_,w_1.heap.size=g_:=⟨_,rfl⟩
 have G_g2:Aside0 (w.heap.size≤g2):=⟨Nat.le_trans hgB (Nat.le_of_eq hg_)⟩
 rw [hg_] at BX2 z_g2 hl_g1
 have E_g1_g2:=amk hl_g1
 clear hl_g1
 (try rw [hg_])
 clear hgB
 have zz_:g1+1=g2:=by omega
 (try rw [zz_])
 clear zz_
 clear hg_
 have B4:=amk (bws B3.out ha_)
 have K4_g1:=amk (bkb BX1.out ha_)
 clear ha_ B3 BX1
 clear z_g1 z_g2
 go_wp2_with (first | (refine wpList_load_part (by rfl) 25 (.tmp 5) rfl g1 0 rfl 29 (cellsC C S) (cellsF C.F S.S) (0,0) _ K4_g1.out Try.underlying25 rfl (by kernel_rfl) rfl ?_) | (refine wpList_load_part (by rfl) 25 (.tmp 7) rfl g2 0 rfl 29 (cellsC C S2) (cellsF C.F S2.S) (0,0) _ BX2.out Try.underlying25 rfl (by kernel_rfl) rfl ?_))
 refine (same_f C.F S.S S2.S _ (HV.out.f.below B4.out) (HV2.out.f.below B4.out) HS.out.1).mono ?_
 rintro e w_5 ⟨rfl,hb_⟩
 have B6:=amk (bws B4.out hb_)
 have K6_g1:=amk (bkb K4_g1.out hb_)
 have K6_g2:=amk (bkb BX2.out hb_)
 clear hb_ B4 K4_g1 BX2
 have pc11:w_5.cell? ⟨g1,11,none⟩=some (.int .i64 C.p):=(bkc K6_g1.out 11).trans rfl
 have pf11:=bkf K6_g1.out 11
 have pc12:w_5.cell? ⟨g1,12,none⟩=some (.int .i64 C.mx):=(bkc K6_g1.out 12).trans rfl
 have pf12:=bkf K6_g1.out 12
 have pc13:w_5.cell? ⟨g1,13,none⟩=some (.bool C.on):=(bkc K6_g1.out 13).trans rfl
 have pf13:=bkf K6_g1.out 13
 have pc14:w_5.cell? ⟨g1,14,none⟩=some (.int .i64 C.kn):=(bkc K6_g1.out 14).trans rfl
 have pf14:=bkf K6_g1.out 14
 have pc15:w_5.cell? ⟨g1,15,none⟩=some (.slice S.A C.tab.length S.c):=(bkc K6_g1.out 15).trans rfl
 have pf15:=bkf K6_g1.out 15
 have pc16:w_5.cell? ⟨g1,16,none⟩=some (.string C.key):=(bkc K6_g1.out 16).trans rfl
 have pf16:=bkf K6_g1.out 16
 have pc17:w_5.cell? ⟨g1,17,none⟩=some (.int .i64 C.df):=(bkc K6_g1.out 17).trans rfl
 have pf17:=bkf K6_g1.out 17
 have qc11:w_5.cell? ⟨g2,11,none⟩=some (.int .i64 C.p):=(bkc K6_g2.out 11).trans rfl
 have qf11:=bkf K6_g2.out 11
 have qc12:w_5.cell? ⟨g2,12,none⟩=some (.int .i64 C.mx):=(bkc K6_g2.out 12).trans rfl
 have qf12:=bkf K6_g2.out 12
 have qc13:w_5.cell? ⟨g2,13,none⟩=some (.bool C.on):=(bkc K6_g2.out 13).trans rfl
 have qf13:=bkf K6_g2.out 13
 have qc14:w_5.cell? ⟨g2,14,none⟩=some (.int .i64 C.kn):=(bkc K6_g2.out 14).trans rfl
 have qf14:=bkf K6_g2.out 14
 have qc15:w_5.cell? ⟨g2,15,none⟩=some (.slice S2.A C.tab.length S2.c):=(bkc K6_g2.out 15).trans rfl
 have qf15:=bkf K6_g2.out 15
 have qc16:w_5.cell? ⟨g2,16,none⟩=some (.string C.key):=(bkc K6_g2.out 16).trans rfl
 have qf16:=bkf K6_g2.out 16
 have qc17:w_5.cell? ⟨g2,17,none⟩=some (.int .i64 C.df):=(bkc K6_g2.out 17).trans rfl
 have qf17:=bkf K6_g2.out 17
 go_wp2_with fail
 refine (rsame11 C.tab S.A S.c S2.A S2.c _ (HV.out.r.below B6.out) HV.out.l (HV2.out.r.below B6.out) HV2.out.l HS.out.2).mono ?_
 rintro e w_7 ⟨rfl,hb_⟩
 go_wp2_with fail
 go_ret
 exact ⟨rfl,bws B6.out hb_⟩
end Go.Proofs.Ytkgbhlcbjflnlaa.Fl
end
section
/- Commands and settings: contracts by hand, and the laws over them. -/
namespace Go.Proofs.Ytkgbhlcbjflnlaa.Fl
open Go Go.RowKit Go.Proofs.YtkgbhlcbjflnlaaW.PrintWords Go.Proofs.YtkgbhlcbjflnlaaW.PrintLast Go.Proofs.YtkgbhlcbjflnlaaW.PrintMore Go.Proofs.Ytkgbhlcbjflnlaa.Mth Go.Proofs.Ytkgbhlcbjflnlaa.P Go.Proofs.Ytkgbhlcbjflnlaa.Own Go.Proofs
set_option linter.unusedVariables false
set_option linter.unusedSimpArgs false
/-! ### The settings of 'fixed' -/
def ownM:ByteArray:=⟨#[2,97,113,0,0,5]⟩
def ownF:Flt:=⟨ownM,false,false,false,false,false,false,[],[],false,[]⟩
def ownC:Cfg:=⟨ownF,1,4,false,0,[],⟨#[]⟩,0⟩
def nilC:SlC:=⟨nilSl,none,0⟩
theorem own_oc (base:Nat) (w:World):OC base w ownC nilC:=⟨⟨own_nil _ _ _ _,own_nil _ _ _ _,own_nil _ _ _ _⟩,own_nil _ _ _ _⟩
theorem own_cv (w:World):CV w ownC nilC:=(own_oc 0 w).cv
theorem own_small:SmallC ownC:=⟨⟨Nat.zero_le _,Nat.zero_le _,Nat.zero_le _⟩,Nat.zero_le _⟩
theorem own_chk (F:Flt) (h:F.m=ownM) (h7:F.us=[]) (h8:F.ms=[]) (h10:netsS F.vs=true):chkF F=0:=by
 unfold chkF checkS
 rw [h,h7,h8,h10,if_pos (by decide)]
theorem appS_ok (C D:Cfg) (s:ByteArray) (h:doesS C (s,false)=(D,true)) (hc:chkF D.F=0):appS C s=(D,0):=by
 unfold appS
 rw [h,if_pos ⟨rfl,hc⟩]
theorem own_a:appS ownC ⟨#[0,0,1]⟩=({ ownC with F:={ ownF with b1:=true } },0):=by
 have e:(⟨#[0,0,1]⟩:ByteArray)=rxB 0 true:=B_inj (by decide)
 rw [e]
 refine appS_ok _ _ _ ?_ (own_chk _ rfl rfl rfl rfl)
 rw [does_rx]
 rfl
theorem own_b:appS ownC ⟨#[0,0,2]⟩=(ownC,1):=by
 have e:(⟨#[0,0,2]⟩:ByteArray)=mk (comB 0 0 (lo 1 2)):=B_inj (by decide)
 rw [e]
 refine appS_no _ _ ?_
 rw [doesS_com _ _ _ _ (lo_bt _ _),show ((0 % 256:Nat):Int)=0 from rfl]
 unfold swS
 rw [if_pos rfl,numS_lo0,doneS_ok]
 rfl
theorem own_d:appS ownC ⟨#[2,0,7,0]⟩=({ ownC with F:={ ownF with vs:=[7] } },0):=by
 have e:(⟨#[2,0,7,0]⟩:ByteArray)=vlanB 7 true:=B_inj (by decide)
 rw [e]
 refine appS_ok _ _ _ ?_ (own_chk _ rfl rfl rfl rfl)
 rw [does_vlan]
 rfl
theorem own_h:appS ownC (pairsB 4)=({ ownC with p:=4,on:=false },0):=by
 refine appS_ok _ _ _ ?_ (own_chk _ rfl rfl rfl rfl)
 rw [does_pairs]
 rfl
theorem own_j:appS ownC (pairsB 5)=(ownC,1):=by
 refine appS_no _ _ ?_
 rw [does_pairs]
 rfl
theorem own_k:appS ownC ⟨#[]⟩=(ownC,1):=appS_no _ _ (does_short _ _ (by decide))
theorem apply2_c (C D:Cfg) (S:SlC) (s:ByteArray) (n:Int) (e:appS C s=(D,n)) (w:World) (h:CV w C S) (hs:SmallC C):Calls Try.prog 11 #[.agg (cellsC C S),.string s] w fun e w'=>∃ S',e=.returned (.tuple #[.agg (cellsC D S'),.int .i64 n])∧OC w.heap.size w' D S'∧Below w.heap.size w w':=by
 have q:=apply_c C S s w h hs
 rw [e] at q
 exact q
end Go.Proofs.Ytkgbhlcbjflnlaa.Fl
end
