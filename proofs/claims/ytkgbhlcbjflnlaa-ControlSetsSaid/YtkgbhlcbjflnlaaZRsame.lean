/- Commands and settings: contracts by hand, and the laws over them. -/
import Derived.Test.YtkgbhlcbjflnlaaZOwn
import Derived.Test.YtkgbhlcbjflnlaaZFSm
import Derived.Test.YtkgbhlcbjflnlaaZPart
import Derived.Test.YtkgbhlcbjflnlaaZPx16
namespace Go.Proofs.Ytkgbhlcbjflnlaa.Fl
open Go Go.RowKit Go.Proofs.YtkgbhlcbjflnlaaW.PrintWords Go.Proofs.YtkgbhlcbjflnlaaW.PrintLast Go.Proofs.YtkgbhlcbjflnlaaW.PrintMore Go.Proofs.Ytkgbhlcbjflnlaa.Mth Go.Proofs.Ytkgbhlcbjflnlaa.P Go.Proofs.Ytkgbhlcbjflnlaa.Own Go.Proofs
set_option linter.unusedVariables false
set_option linter.unusedSimpArgs false
/-! ### The document's Same of numbers, at the same numbers -/
theorem rs11_l (l:List Int) (hl:l.length≤1099511627776):∀ (n i k:Nat),n+i=l.length→n < k→aqueductref11_Same.l0 k l l (i:Int)=some true:=by
 intro n
 induction n with
 | zero =>
  intro i k h hk
  obtain ⟨k,rfl⟩:∃ m,k=m+1:=⟨k - 1,by omega⟩
  rw [aqueductref11_Same.l0,if_neg (by omega)]
 | succ n ih =>
  intro i k h hk
  obtain ⟨k,rfl⟩:∃ m,k=m+1:=⟨k - 1,by omega⟩
  rw [aqueductref11_Same.l0,if_pos (show (i:Int) < (l.length:Int) by omega),if_pos (by omega),if_pos (show (i:Int) < (l.length:Int) by omega),if_pos rfl,w1 (show i < l.length by omega) hl]
  exact ih (i+1) k (by omega) (by omega)
theorem rsame11 (l:List Int) (A:Option Addr) (c:Nat) (A2:Option Addr) (c2:Nat) (w:World) (h:ReadsOf (Value.int .i64) 0 w A l.length l) (hc:l.length≤c) (h2:ReadsOf (Value.int .i64) 0 w A2 l.length l) (hc2:l.length≤c2) (hl:l.length≤100000) :
  Calls Try.prog 25 #[.slice A l.length c,.slice A2 l.length c2] w fun e w'=>e=.returned (.bool true)∧Below w.heap.size w w':=by
 refine (aqueductref11_Same.calls (l.length+1) A c l A2 c2 l true w (Kd.C_of_reads h) hc (Kd.C_of_reads h2) hc2 ?_).mono ?_
 ·unfold aqueductref11_Same.f
  rw [if_pos rfl]
  exact rs11_l l (by omega) l.length 0 (l.length+1) (by omega) (by omega)
 ·rintro e w' ⟨rfl,hd⟩
  exact ⟨rfl,hd.below⟩
set_option maxHeartbeats 16000000 in
set_option maxRecDepth 100000 in
theorem rsame_c (C:Cfg) (S S2:SlC) (w:World) (h:CV w C S) (h2:CV w C S2) (hs:SmallC C):Calls Try.prog 12 #[.agg (cellsC C S),.agg (cellsC C S2)] w fun e w'=>e=.returned (.bool true)∧Below w.heap.size w w':=by
 have HV:=amk h
 have HV2:=amk h2
 have HS:=amk hs
 clear h h2 hs
 have hu25:=Try.underlying25
 have hu27:=Try.underlying27
 have hu29:=Try.underlying29
 go_enter Try.func12,Try.ntmps12
 go_upto_region 1 with (fail)
 obtain ⟨w_1,hw_g1⟩:∃ w_,w.alloc (.cells (cellsC C S) 29)=w_:=⟨_,rfl⟩
 rw [hw_g1]
 obtain ⟨w_2,hw_g2⟩:∃ w_,w_1.alloc (.cells (cellsC C S2) 29)=w_:=⟨_,rfl⟩
 rw [hw_g2]
 have z_g1:w_1.heap.size=w.heap.size+1:=by rw [← hw_g1];simp
 have ha_:Below w.heap.size w w_1:=by rw [← hw_g1];exact bwa (Below.refl _ _) _
 have BX1:Aside0 (w_1.heap[w.heap.size]?=some (.cells (cellsC C S) 29 (0,0))):=⟨by rw [← hw_g1];exact blk_new w _⟩
 have hgB:w.heap.size≤w.heap.size:=((Below.refl w.heap.size w)).size
 clear hw_g1
 obtain ⟨g1,hg_⟩:∃ g_,w.heap.size=g_:=⟨_,rfl⟩
 have G_g1:Aside0 (w.heap.size≤g1):=⟨Nat.le_trans hgB (Nat.le_of_eq hg_)⟩
 rw [hg_] at BX1 z_g1
 (try rw [hg_])
 clear hgB
 clear hg_
 have B3:=amk (bws (Below.refl w.heap.size w) ha_)
 clear ha_ 
 have z_g2:w_2.heap.size=w_1.heap.size+1:=by rw [← hw_g2];simp
 have ha_:Below w_1.heap.size w_1 w_2:=by rw [← hw_g2];exact bwa (Below.refl _ _) _
 have BX2:Aside0 (w_2.heap[w_1.heap.size]?=some (.cells (cellsC C S2) 29 (0,0))):=⟨by rw [← hw_g2];exact blk_new w_1 _⟩
 have hgB:w.heap.size≤w_1.heap.size:=(B3.out).size
 have hl_g1:g1 < w_1.heap.size:=blk_lt BX1.out
 clear hw_g2
 obtain ⟨g2,hg_⟩:∃ g_,w_1.heap.size=g_:=⟨_,rfl⟩
 have G_g2:Aside0 (w.heap.size≤g2):=⟨Nat.le_trans hgB (Nat.le_of_eq hg_)⟩
 rw [hg_] at BX2 z_g2 hl_g1
 have E_g1_g2:=amk hl_g1
 clear hl_g1
 (try rw [hg_])
 clear hgB
 have zz_:g1+1=g2:=by omega
 (try rw [zz_])
 clear zz_
 clear hg_
 have B4:=amk (bws B3.out ha_)
 have K4_g1:=amk (bkb BX1.out ha_)
 clear ha_ B3 BX1
 clear z_g1 z_g2
 go_wp2_with (first | (refine wpList_load_part (by rfl) 25 (.tmp 5) rfl g1 0 rfl 29 (cellsC C S) (cellsF C.F S.S) (0,0) _ K4_g1.out Try.underlying25 rfl (by kernel_rfl) rfl ?_) | (refine wpList_load_part (by rfl) 25 (.tmp 7) rfl g2 0 rfl 29 (cellsC C S2) (cellsF C.F S2.S) (0,0) _ BX2.out Try.underlying25 rfl (by kernel_rfl) rfl ?_))
 refine (same_f C.F S.S S2.S _ (HV.out.f.below B4.out) (HV2.out.f.below B4.out) HS.out.1).mono ?_
 rintro e w_5 ⟨rfl,hb_⟩
 have B6:=amk (bws B4.out hb_)
 have K6_g1:=amk (bkb K4_g1.out hb_)
 have K6_g2:=amk (bkb BX2.out hb_)
 clear hb_ B4 K4_g1 BX2
 have pc11:w_5.cell? ⟨g1,11,none⟩=some (.int .i64 C.p):=(bkc K6_g1.out 11).trans rfl
 have pf11:=bkf K6_g1.out 11
 have pc12:w_5.cell? ⟨g1,12,none⟩=some (.int .i64 C.mx):=(bkc K6_g1.out 12).trans rfl
 have pf12:=bkf K6_g1.out 12
 have pc13:w_5.cell? ⟨g1,13,none⟩=some (.bool C.on):=(bkc K6_g1.out 13).trans rfl
 have pf13:=bkf K6_g1.out 13
 have pc14:w_5.cell? ⟨g1,14,none⟩=some (.int .i64 C.kn):=(bkc K6_g1.out 14).trans rfl
 have pf14:=bkf K6_g1.out 14
 have pc15:w_5.cell? ⟨g1,15,none⟩=some (.slice S.A C.tab.length S.c):=(bkc K6_g1.out 15).trans rfl
 have pf15:=bkf K6_g1.out 15
 have pc16:w_5.cell? ⟨g1,16,none⟩=some (.string C.key):=(bkc K6_g1.out 16).trans rfl
 have pf16:=bkf K6_g1.out 16
 have pc17:w_5.cell? ⟨g1,17,none⟩=some (.int .i64 C.df):=(bkc K6_g1.out 17).trans rfl
 have pf17:=bkf K6_g1.out 17
 have qc11:w_5.cell? ⟨g2,11,none⟩=some (.int .i64 C.p):=(bkc K6_g2.out 11).trans rfl
 have qf11:=bkf K6_g2.out 11
 have qc12:w_5.cell? ⟨g2,12,none⟩=some (.int .i64 C.mx):=(bkc K6_g2.out 12).trans rfl
 have qf12:=bkf K6_g2.out 12
 have qc13:w_5.cell? ⟨g2,13,none⟩=some (.bool C.on):=(bkc K6_g2.out 13).trans rfl
 have qf13:=bkf K6_g2.out 13
 have qc14:w_5.cell? ⟨g2,14,none⟩=some (.int .i64 C.kn):=(bkc K6_g2.out 14).trans rfl
 have qf14:=bkf K6_g2.out 14
 have qc15:w_5.cell? ⟨g2,15,none⟩=some (.slice S2.A C.tab.length S2.c):=(bkc K6_g2.out 15).trans rfl
 have qf15:=bkf K6_g2.out 15
 have qc16:w_5.cell? ⟨g2,16,none⟩=some (.string C.key):=(bkc K6_g2.out 16).trans rfl
 have qf16:=bkf K6_g2.out 16
 have qc17:w_5.cell? ⟨g2,17,none⟩=some (.int .i64 C.df):=(bkc K6_g2.out 17).trans rfl
 have qf17:=bkf K6_g2.out 17
 go_wp2_with fail
 refine (rsame11 C.tab S.A S.c S2.A S2.c _ (HV.out.r.below B6.out) HV.out.l (HV2.out.r.below B6.out) HV2.out.l HS.out.2).mono ?_
 rintro e w_7 ⟨rfl,hb_⟩
 go_wp2_with fail
 go_ret
 exact ⟨rfl,bws B6.out hb_⟩
end Go.Proofs.Ytkgbhlcbjflnlaa.Fl
