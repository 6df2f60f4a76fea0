/- Commands and settings: contracts by hand, and the laws over them. -/
import Derived.Test.YtkgbhlcbjflnlaaZG1
import Derived.Test.YtkgbhlcbjflnlaaZRru
import Derived.Test.YtkgbhlcbjflnlaaZG23
import Derived.Test.YtkgbhlcbjflnlaaZG29
import Derived.Test.YtkgbhlcbjflnlaaZFx
import Derived.Deep.DeepCutAuto
import Derived.Deep.CutBlock
import Derived.Test.YtkgbhlcbjflnlaaZBs
namespace Go.Proofs.Ytkgbhlcbjflnlaa.Fl
open Go Go.RowKit Go.Proofs.YtkgbhlcbjflnlaaW.PrintWords Go.Proofs.YtkgbhlcbjflnlaaW.PrintLast Go.Proofs.YtkgbhlcbjflnlaaW.PrintMore Go.Proofs.Ytkgbhlcbjflnlaa.Mth Go.Proofs.Ytkgbhlcbjflnlaa.P Go.Proofs.Ytkgbhlcbjflnlaa.Own Go.Proofs
set_option linter.unusedVariables false
set_option linter.unusedSimpArgs false
/-! ### The document's commands of pairs -/
def badR (C:Cfg) (cmd:Int) (R:RR):Bool:=cmd != 1 || !R.ok || rssS R.kn (intsOf R.tab) R.key R.df != 0 || decide (R.p < 1) || decide (R.p > C.mx) || decide (R.df ≥ C.mx)
def rpS (C:Cfg) (cmd:Int) (s:ByteArray):Option Cfg :=
 if cmd=0 then (if s.size=2∧1≤nat s 0 2∧(nat s 0 2:Int)≤C.mx then some { C with p:=(nat s 0 2:Nat),on:=false } else none) else
 if badR C cmd (rrS s)=false∧((intsOf (rrS s).tab).all fun q=>decide (q < C.mx))=true then some { C with kn:=(rrS s).kn,tab:=intsOf (rrS s).tab,key:=(rrS s).key,df:=(rrS s).df,p:=(rrS s).p,on:=true } else none
def RprP (C:Cfg) (S:SlC) (Q:Option Cfg) (w:World) (e:Ending) (w':World):Prop:=∃ D S' ok,e=.returned (.tuple #[.agg (cellsC D S'),.bool ok])∧(ok=true→Q=some D∧CX w.heap.size C S w' D S')∧(ok=false→Q=none)∧Below w.heap.size w w'
theorem RprP.of {C:Cfg} {S:SlC} {Q:Option Cfg} {w:World} {e:Ending} {w':World} (h:∃ D S' ok,e=.returned (.tuple #[.agg (cellsC D S'),.bool ok])∧(ok=true→Q=some D∧CX w.heap.size C S w' D S')∧(ok=false→Q=none)∧Below w.heap.size w w'):RprP C S Q w e w':=h
theorem res33 (tmps:Array Value) (w:World) (g:Nat) (c0 c1 c2 c3 c4 c5 c6 c7 c8 c9 c10 c11 c12 c13 c14 c15 c16 c17 m7:Value) (hp:tmps.getD 6 undef=.pointer (some ⟨g,0,none⟩)) (h7:tmps.getD 7 undef=m7) (hg:w.heap[g]?=some (.cells #[c0,c1,c2,c3,c4,c5,c6,c7,c8,c9,c10,c11,c12,c13,c14,c15,c16,c17] 29 (0,0))) :
  (results Try.f33 tmps).run Try.prog w=.ok (.tuple #[.agg #[c0,c1,c2,c3,c4,c5,c6,c7,c8,c9,c10,c11,c12,c13,c14,c15,c16,c17],m7]) w:=by
 have q_:tmps[6]?.getD undef=.pointer (some ⟨g,0,none⟩):=by simpa using hp
 have r7:tmps[7]?.getD undef=m7:=by simpa using h7
 have l_:=run_loadVar_row (P:=Try.prog) w g 29 29 _ (0,0) _ hg Try.underlying29 rfl (by kernel_rfl)
 simp [results,Try.results33,q_,r7,asAddr,l_]
set_option maxHeartbeats 16000000 in
set_option maxRecDepth 100000 in
theorem rpr_c (C:Cfg) (S:SlC) (cmd:Int) (s:ByteArray) (w:World) (h:CV w C S) (hsz:s.size≤1000000) :
  Calls Try.prog 33 #[.agg (cellsC C S),.int .i64 cmd,.string s] w fun e w'=>RprP C S (rpS C cmd s) w e w':=by
 have HV:=amk h
 have HZ:=amk hsz
 obtain ⟨Q,hQ⟩:∃ Q,rpS C cmd s=Q:=⟨_,rfl⟩
 rw [hQ]
 have HQ:=amk hQ
 clear h hsz hQ
 have hu25:=Try.underlying25
 have hu27:=Try.underlying27
 have hu29:=Try.underlying29
 go_enter Try.func33,Try.ntmps33
 have hu23:=Try.underlying23
 go_upto_region 1 with (fail)
 obtain ⟨w_1,hw_gc⟩:∃ w_,w.alloc (.cells (cellsC C S) 29)=w_:=⟨_,rfl⟩
 rw [hw_gc]
 obtain ⟨w_2,hw_gr⟩:∃ w_,w_1.alloc (.cells zeroC 29)=w_:=⟨_,rfl⟩
 rw [hw_gr]
 have z_gc:w_1.heap.size=w.heap.size+1:=by rw [← hw_gc];simp
 have ha_:Below w.heap.size w w_1:=by rw [← hw_gc];exact bwa (Below.refl _ _) _
 have BX1:Aside0 (w_1.heap[w.heap.size]?=some (.cells (cellsC C S) 29 (0,0))):=⟨by rw [← hw_gc];exact blk_new w _⟩
 have hgB:w.heap.size≤w.heap.size:=((Below.refl w.heap.size w)).size
 clear hw_gc
 obtain ⟨gc,hg_⟩:∃ g_,w.heap.size=g_:=⟨_,rfl⟩
 have G_gc:Aside0 (w.heap.size≤gc):=⟨Nat.le_trans hgB (Nat.le_of_eq hg_)⟩
 rw [hg_] at BX1 z_gc
 (try rw [hg_])
 clear hgB
 clear hg_
 have B3:=amk (bws (Below.refl w.heap.size w) ha_)
 clear ha_ 
 have z_gr:w_2.heap.size=w_1.heap.size+1:=by rw [← hw_gr];simp
 have ha_:Below w_1.heap.size w_1 w_2:=by rw [← hw_gr];exact bwa (Below.refl _ _) _
 have BX2:Aside0 (w_2.heap[w_1.heap.size]?=some (.cells zeroC 29 (0,0))):=⟨by rw [← hw_gr];exact blk_new w_1 _⟩
 have hgB:w.heap.size≤w_1.heap.size:=(B3.out).size
 have hl_gc:gc < w_1.heap.size:=blk_lt BX1.out
 clear hw_gr
 obtain ⟨gr,hg_⟩:∃ g_,w_1.heap.size=g_:=⟨_,rfl⟩
 have G_gr:Aside0 (w.heap.size≤gr):=⟨Nat.le_trans hgB (Nat.le_of_eq hg_)⟩
 rw [hg_] at BX2 z_gr hl_gc
 have E_gc_gr:=amk hl_gc
 clear hl_gc
 (try rw [hg_])
 clear hgB
 have zz_:gc+1=gr:=by omega
 (try rw [zz_])
 clear zz_
 clear hg_
 have B4:=amk (bws B3.out ha_)
 have K4_gc:=amk (bkb BX1.out ha_)
 clear ha_ B3 BX1
 clear z_gc z_gr
 by_cases c0:cmd=0
 ·have d0:(cmd == 0)=true:=beq_iff_eq.2 c0
  have C0:=amk c0
  clear c0
  by_cases h2:s.size=2
  ·have e2:((s.size:Int) == 2)=true:=beq_iff_eq.2 (by omega)
   have e3:(s.size == 2)=true:=beq_iff_eq.2 h2
   have H2:=amk h2
   obtain ⟨v,hv⟩:∃ v,nat s 0 2=v:=⟨_,rfl⟩
   have HVV:=amk hv
   have NN:∀ w,Calls Try.prog 32 #[.string s,.int .i64 0,.int .i64 2] w fun e w'=>e=.returned (.int .i64 (v:Int))∧Below w.heap.size w w':=fun w=>by
    rw [← hv]
    exact rnum_c s 0 2 (by decide) (by omega) (by omega) w
   clear h2 hv
   go_wp2_with fail
   refine (NN _).mono ?_
   rintro e w1 ⟨rfl,hb_⟩
   have B5:=amk (bws B4.out hb_)
   have K5_gc:=amk (bkb K4_gc.out hb_)
   have K5_gr:=amk (bkb BX2.out hb_)
   clear hb_ B4 K4_gc BX2
   have pc11:w1.cell? ⟨gc,11,none⟩=some (.int .i64 C.p):=(bkc K5_gc.out 11).trans rfl
   have pf11:=bkf K5_gc.out 11
   go_upto_region 5 with fail
   clear pc11 pf11
   obtain ⟨w_6,hw_⟩:∃ w_,(w1.setCell ⟨gc,11,none⟩ (.int .i64 (v:Int)))=w_:=⟨_,rfl⟩
   have hu_:Upd w1 w_6 (fun k=>k=gc):=by rw [← hw_];exact (Upd.refl w1 (fun k=>k=gc)).set (p:=⟨gc,11,none⟩) (.inl rfl) _
   have kf_:w_6.heap[gc]?=some (.cells #[.string C.F.m,.bool C.F.b1,.bool C.F.b2,.bool C.F.b3,.bool C.F.b4,.bool C.F.b5,.bool C.F.b6,.slice S.S.A7 C.F.us.length S.S.c7,.slice S.S.A8 C.F.ms.length S.S.c8,.bool C.F.b9,.slice S.S.A10 C.F.vs.length S.S.c10,.int .i64 (v:Int),.int .i64 C.mx,.bool C.on,.int .i64 C.kn,.slice S.A C.tab.length S.c,.string C.key,.int .i64 C.df] 29 (0,0)):=by rw [← hw_];exact (blk_put (cs:=(cellsC C S)) K5_gc.out 11 _ rfl)
   rw [hw_]
   clear hw_
   have K7_gc:=amk (kf_)
   have B7:=amk (B5.out.trans (hu_.toBelow (B:=w.heap.size) (fun k hk=>by rw [hk];exact G_gc.out) (B5.out).size))
   have K7_gr:=amk (hu_.blk K5_gr.out (by have:=E_gc_gr.out;omega))
   clear hu_ B5 K5_gr K5_gc
   clear kf_
   have pc13:w_6.cell? ⟨gc,13,none⟩=some (.bool C.on):=(bkc K7_gc.out 13).trans rfl
   have pf13:=bkf K7_gc.out 13
   go_upto_region 6 with fail
   clear pc13 pf13
   obtain ⟨w_8,hw_⟩:∃ w_,(w_6.setCell ⟨gc,13,none⟩ (.bool false))=w_:=⟨_,rfl⟩
   have hu_:Upd w_6 w_8 (fun k=>k=gc):=by rw [← hw_];exact (Upd.refl w_6 (fun k=>k=gc)).set (p:=⟨gc,13,none⟩) (.inl rfl) _
   have kf_:w_8.heap[gc]?=some (.cells #[.string C.F.m,.bool C.F.b1,.bool C.F.b2,.bool C.F.b3,.bool C.F.b4,.bool C.F.b5,.bool C.F.b6,.slice S.S.A7 C.F.us.length S.S.c7,.slice S.S.A8 C.F.ms.length S.S.c8,.bool C.F.b9,.slice S.S.A10 C.F.vs.length S.S.c10,.int .i64 (v:Int),.int .i64 C.mx,.bool false,.int .i64 C.kn,.slice S.A C.tab.length S.c,.string C.key,.int .i64 C.df] 29 (0,0)):=by rw [← hw_];exact (blk_put (cs:=#[.string C.F.m,.bool C.F.b1,.bool C.F.b2,.bool C.F.b3,.bool C.F.b4,.bool C.F.b5,.bool C.F.b6,.slice S.S.A7 C.F.us.length S.S.c7,.slice S.S.A8 C.F.ms.length S.S.c8,.bool C.F.b9,.slice S.S.A10 C.F.vs.length S.S.c10,.int .i64 (v:Int),.int .i64 C.mx,.bool C.on,.int .i64 C.kn,.slice S.A C.tab.length S.c,.string C.key,.int .i64 C.df]) K7_gc.out 13 _ rfl)
   rw [hw_]
   clear hw_
   have K9_gc:=amk (kf_)
   have B9:=amk (B7.out.trans (hu_.toBelow (B:=w.heap.size) (fun k hk=>by rw [hk];exact G_gc.out) (B7.out).size))
   have K9_gr:=amk (hu_.blk K7_gr.out (by have:=E_gc_gr.out;omega))
   clear hu_ B7 K7_gr K7_gc
   clear kf_
   by_cases hp:(v:Int) ≥ 1
   ·have p1:decide ((v:Int) ≥ 1)=true:=decide_eq_true hp
    have p2:decide (1≤v)=true:=decide_eq_true (by omega)
    have p5:(1≤v)=True:=eq_true (by omega)
    have HP:=amk hp
    clear hp
    by_cases hm:(v:Int)≤C.mx
    ·have p3:decide ((v:Int)≤C.mx)=true:=decide_eq_true hm
     have HM:=amk hm
     clear hm
     refine start_ (n:=13) (S:=fun w'=>w'.heap[gc]?=some (.cells #[.string C.F.m,.bool C.F.b1,.bool C.F.b2,.bool C.F.b3,.bool C.F.b4,.bool C.F.b5,.bool C.F.b6,.slice S.S.A7 C.F.us.length S.S.c7,.slice S.S.A8 C.F.ms.length S.S.c8,.bool C.F.b9,.slice S.S.A10 C.F.vs.length S.S.c10,.int .i64 (v:Int),.int .i64 C.mx,.bool false,.int .i64 C.kn,.slice S.A C.tab.length S.c,.string C.key,.int .i64 C.df] 29 (0,0))∧w'.cell? ⟨gc,11,none⟩=some (.int .i64 (v:Int))∧w'.cell? ⟨gc,12,none⟩=some (.int .i64 C.mx)) (ds:=[]) (bsq 13 0) (by kernel_rfl) rfl rfl ⟨(bkb K9_gc.out (bwd (Below.refl _ _))),(bkc K9_gc.out 11).trans rfl,(bkc K9_gc.out 12).trans rfl⟩ (fun hHeld=>?_)
     refine pure_ (i:=1) (N:=some 23) (v:=?_) (a':=?_) (bsq 13 2) rfl rfl (by kernel_rfl) (fun _ _ _ h=>h) (Or.inl ⟨by rfl,?_⟩) ?_ ?_
     rotate_left
     ·intro w'
      go_simp
      with_reducible rfl
     rotate_left
     ·simp only [Act.put,bq1,bq2,bq3,i64_w,i32_w]
      rfl
     refine take_ (i:=0) (N:=some 22) (v:=?_) (a':=?_) (bsq 13 3) rfl rfl (by kernel_rfl) (fun _ _ _ h=>h) (Or.inl ⟨by rfl,?_⟩) hHeld ?_ ?_
     rotate_left
     ·rintro w' ⟨s0,s1,s2⟩
      refine exec_load_part 29 (.tmp 3) ?_ gc 0 ?_ 29 #[.string C.F.m,.bool C.F.b1,.bool C.F.b2,.bool C.F.b3,.bool C.F.b4,.bool C.F.b5,.bool C.F.b6,.slice S.S.A7 C.F.us.length S.S.c7,.slice S.S.A8 C.F.ms.length S.S.c8,.bool C.F.b9,.slice S.S.A10 C.F.vs.length S.S.c10,.int .i64 (v:Int),.int .i64 C.mx,.bool false,.int .i64 C.kn,.slice S.A C.tab.length S.c,.string C.key,.int .i64 C.df] (cellsC ({ C with p:=(v:Int),on:=false }) S) (0,0) _ s0 Try.underlying29 rfl (by kernel_rfl) rfl
      ·rfl
      ·rfl
     rotate_left
     ·simp only [Act.put,bq1,bq2,bq3,i64_w,i32_w]
      rfl
     refine take_ (i:=2) (N:=some 24) (v:=?_) (a':=?_) (bsq 13 7) rfl rfl (by kernel_rfl) (fun _ _ _ h=>h) (Or.inl ⟨by rfl,?_⟩) hHeld ?_ ?_
     rotate_left
     ·rintro w' ⟨s0,s1,s2⟩
      go_simp
      with_reducible rfl
     rotate_left
     ·simp only [Act.put,bq1,bq2,bq3,i64_w,i32_w]
      rfl
     refine pure_ (i:=3) (N:=some 25) (v:=?_) (a':=?_) (bsq 13 15) rfl rfl (by kernel_rfl) (fun _ _ _ h=>h) (Or.inl ⟨by rfl,?_⟩) ?_ ?_
     rotate_left
     ·intro w'
      go_simp
      with_reducible rfl
     rotate_left
     ·simp only [Act.put,bq1,bq2,bq3,i64_w,i32_w]
      rfl
     refine pure_ (i:=4) (N:=some 26) (v:=?_) (a':=?_) (bsq 13 31) rfl rfl (by kernel_rfl) (fun _ _ _ h=>h) (Or.inl ⟨by rfl,?_⟩) ?_ ?_
     rotate_left
     ·intro w'
      go_simp
      with_reducible rfl
     rotate_left
     ·simp only [Act.put,bq1,bq2,bq3,i64_w,i32_w]
      rfl
     refine pure_ (i:=5) (N:=some 27) (v:=?_) (a':=?_) (bsq 13 63) rfl rfl (by kernel_rfl) (fun _ _ _ h=>h) (Or.inl ⟨by rfl,?_⟩) ?_ ?_
     rotate_left
     ·intro w'
      go_simp
      with_reducible rfl
     rotate_left
     ·simp only [Act.put,bq1,bq2,bq3,i64_w,i32_w]
      rfl
     refine pure_ (i:=7) (N:=some 29) (v:=?_) (a':=?_) (bsq 13 191) rfl rfl (by kernel_rfl) (fun _ _ _ h=>h) (Or.inl ⟨by rfl,?_⟩) ?_ ?_
     rotate_left
     ·intro w'
      go_simp
      with_reducible rfl
     rotate_left
     ·simp only [Act.put,bq1,bq2,bq3,i64_w,i32_w]
      rfl
     refine take_ (i:=6) (N:=some 28) (v:=?_) (a':=?_) (bsq 13 255) rfl rfl (by kernel_rfl) (fun _ _ _ h=>h) (Or.inl ⟨by rfl,?_⟩) hHeld ?_ ?_
     rotate_left
     ·rintro w' ⟨s0,s1,s2⟩
      go_simp
      with_reducible rfl
     rotate_left
     ·simp only [Act.put,bq1,bq2,bq3,i64_w,i32_w]
      rfl
     refine take_ (i:=8) (N:=some 30) (v:=?_) (a':=?_) (bsq 13 511) rfl rfl (by kernel_rfl) (fun _ _ _ h=>h) (Or.inl ⟨by rfl,?_⟩) hHeld ?_ ?_
     rotate_left
     ·rintro w' ⟨s0,s1,s2⟩
      go_simp
      with_reducible rfl
     rotate_left
     ·simp only [Act.put,bq1,bq2,bq3,i64_w,i32_w]
      rfl
     refine pure_ (i:=9) (N:=some 31) (v:=?_) (a':=?_) (bsq 13 1023) rfl rfl (by kernel_rfl) (fun _ _ _ h=>h) (Or.inl ⟨by rfl,?_⟩) ?_ ?_
     rotate_left
     ·intro w'
      go_simp
      with_reducible rfl
     rotate_left
     ·simp only [Act.put,bq1,bq2,bq3,i64_w,i32_w]
      rfl
     refine pure_ (i:=10) (N:=some 32) (v:=?_) (a':=?_) (bsq 13 2047) rfl rfl (by kernel_rfl) (fun _ _ _ h=>h) (Or.inl ⟨by rfl,?_⟩) ?_ ?_
     rotate_left
     ·intro w'
      go_simp
      with_reducible rfl
     rotate_left
     ·simp only [Act.put,bq1,bq2,bq3,i64_w,i32_w]
      rfl
     refine one_ (i:=11) (N:=none) (bsq 13 4095) rfl rfl (by kernel_rfl) (by decide) (fun K hK=>?_)
     refine skip_ (w1:=?_) (by rfl) rfl ?_ ?_
     rotate_left
     ·refine exec_store_part 29 (.tmp 6) (.tmp 22) ?_ gr 0 (cellsC ({ C with p:=(v:Int),on:=false }) S) ?_ ?_ 29 _ (cellsC ({ C with p:=(v:Int),on:=false }) S) (bkb K9_gr.out (bwd (Below.refl _ _))) (by kernel_rfl) (Nat.le_of_ble_eq_true rfl) (by kernel_rfl) rfl
      ·rfl
      ·rfl
      ·rfl
     refine hK.out _ _ ⟨((setRow_other _ _ _ _ (by have:=E_gc_gr.out;omega)).trans hHeld.1),(bkc ((setRow_other _ _ _ _ (by have:=E_gc_gr.out;omega)).trans hHeld.1) 11).trans rfl,(bkc ((setRow_other _ _ _ _ (by have:=E_gc_gr.out;omega)).trans hHeld.1) 12).trans rfl⟩ (fun hHeld=>?_)
     clear hK K
     refine pure_ (i:=12) (N:=some 7) (v:=?_) (a':=?_) (bsq 13 8191) rfl rfl (by kernel_rfl) (fun _ _ _ h=>h) (Or.inl ⟨by rfl,?_⟩) ?_ ?_
     rotate_left
     ·intro w'
      go_simp
      with_reducible rfl
     rotate_left
     ·simp only [Act.put,bq1,bq2,bq3,i64_w,i32_w]
      rfl
     refine done_ (by kernel_rfl) ?_
     have hb_:=bwd (Below.refl w_8.heap.size w_8)
     obtain ⟨w_10,hw_⟩:∃ x,w_8.drew=x:=⟨_,rfl⟩
     rw [hw_] at hb_ ⊢
     clear hw_
     have B11:=amk (bws B9.out hb_)
     have K11_gc:=amk (bkb K9_gc.out hb_)
     have K11_gr:=amk (bkb K9_gr.out hb_)
     clear hb_ B9 K9_gc K9_gr
     obtain ⟨w_12,hw_⟩:∃ w_,w_10.setRow gr #[.string C.F.m,.bool C.F.b1,.bool C.F.b2,.bool C.F.b3,.bool C.F.b4,.bool C.F.b5,.bool C.F.b6,.slice S.S.A7 C.F.us.length S.S.c7,.slice S.S.A8 C.F.ms.length S.S.c8,.bool C.F.b9,.slice S.S.A10 C.F.vs.length S.S.c10,.int .i64 (v:Int),.int .i64 C.mx,.bool false,.int .i64 C.kn,.slice S.A C.tab.length S.c,.string C.key,.int .i64 C.df]=w_:=⟨_,rfl⟩
     have hu_:Upd w_10 w_12 (fun k=>k=gr):=by rw [← hw_];exact Upd.setRow (Upd.refl w_10 (fun k=>k=gr)) (.inl rfl) _
     have kf_:w_12.heap[gr]?=some (.cells #[.string C.F.m,.bool C.F.b1,.bool C.F.b2,.bool C.F.b3,.bool C.F.b4,.bool C.F.b5,.bool C.F.b6,.slice S.S.A7 C.F.us.length S.S.c7,.slice S.S.A8 C.F.ms.length S.S.c8,.bool C.F.b9,.slice S.S.A10 C.F.vs.length S.S.c10,.int .i64 (v:Int),.int .i64 C.mx,.bool false,.int .i64 C.kn,.slice S.A C.tab.length S.c,.string C.key,.int .i64 C.df] 29 (0,0)):=by rw [← hw_];exact setRow_heap w_10 gr _ #[.string C.F.m,.bool C.F.b1,.bool C.F.b2,.bool C.F.b3,.bool C.F.b4,.bool C.F.b5,.bool C.F.b6,.slice S.S.A7 C.F.us.length S.S.c7,.slice S.S.A8 C.F.ms.length S.S.c8,.bool C.F.b9,.slice S.S.A10 C.F.vs.length S.S.c10,.int .i64 (v:Int),.int .i64 C.mx,.bool false,.int .i64 C.kn,.slice S.A C.tab.length S.c,.string C.key,.int .i64 C.df] 29 (0,0) K11_gr.out
     rw [hw_]
     clear hw_
     have K13_gr:=amk (kf_)
     have B13:=amk (B11.out.trans (hu_.toBelow (B:=w.heap.size) (fun k hk=>by rw [hk];exact G_gr.out) (B11.out).size))
     have K13_gc:=amk (hu_.blk K11_gc.out (by have:=E_gc_gr.out;omega))
     clear hu_ B11 K11_gc K11_gr
     clear kf_
     go_wp2_with fail
     refine bodyPost_ret (res33 _ _ gr _ _ _ _ _ _ _ _ _ _ _ _ _ _ _ _ _ _ _ rfl rfl K13_gr.out) rfl (RprP.of ⟨{ C with p:=(v:Int),on:=false },S,true,rfl,fun _=>⟨by rw [← HQ.out];unfold rpS;rw [if_pos C0.out,HVV.out,if_pos ⟨H2.out,by have:=HP.out;omega,HM.out⟩],?_⟩,fun e=>by (cases e),B13.out⟩)
     exact ⟨FX.refl _ _ _ _ _ rfl rfl rfl,.inl ⟨rfl,rfl,rfl⟩⟩
    ·have p3:decide ((v:Int)≤C.mx)=false:=decide_eq_false hm
     have HM:=amk hm
     clear hm
     refine start_ (n:=13) (S:=fun w'=>w'.heap[gc]?=some (.cells #[.string C.F.m,.bool C.F.b1,.bool C.F.b2,.bool C.F.b3,.bool C.F.b4,.bool C.F.b5,.bool C.F.b6,.slice S.S.A7 C.F.us.length S.S.c7,.slice S.S.A8 C.F.ms.length S.S.c8,.bool C.F.b9,.slice S.S.A10 C.F.vs.length S.S.c10,.int .i64 (v:Int),.int .i64 C.mx,.bool false,.int .i64 C.kn,.slice S.A C.tab.length S.c,.string C.key,.int .i64 C.df] 29 (0,0))∧w'.cell? ⟨gc,11,none⟩=some (.int .i64 (v:Int))∧w'.cell? ⟨gc,12,none⟩=some (.int .i64 C.mx)) (ds:=[]) (bsq 13 0) (by kernel_rfl) rfl rfl ⟨(bkb K9_gc.out (bwd (Below.refl _ _))),(bkc K9_gc.out 11).trans rfl,(bkc K9_gc.out 12).trans rfl⟩ (fun hHeld=>?_)
     refine pure_ (i:=1) (N:=some 23) (v:=?_) (a':=?_) (bsq 13 2) rfl rfl (by kernel_rfl) (fun _ _ _ h=>h) (Or.inl ⟨by rfl,?_⟩) ?_ ?_
     rotate_left
     ·intro w'
      go_simp
      with_reducible rfl
     rotate_left
     ·simp only [Act.put,bq1,bq2,bq3,i64_w,i32_w]
      rfl
     refine take_ (i:=0) (N:=some 22) (v:=?_) (a':=?_) (bsq 13 3) rfl rfl (by kernel_rfl) (fun _ _ _ h=>h) (Or.inl ⟨by rfl,?_⟩) hHeld ?_ ?_
     rotate_left
     ·rintro w' ⟨s0,s1,s2⟩
      refine exec_load_part 29 (.tmp 3) ?_ gc 0 ?_ 29 #[.string C.F.m,.bool C.F.b1,.bool C.F.b2,.bool C.F.b3,.bool C.F.b4,.bool C.F.b5,.bool C.F.b6,.slice S.S.A7 C.F.us.length S.S.c7,.slice S.S.A8 C.F.ms.length S.S.c8,.bool C.F.b9,.slice S.S.A10 C.F.vs.length S.S.c10,.int .i64 (v:Int),.int .i64 C.mx,.bool false,.int .i64 C.kn,.slice S.A C.tab.length S.c,.string C.key,.int .i64 C.df] (cellsC ({ C with p:=(v:Int),on:=false }) S) (0,0) _ s0 Try.underlying29 rfl (by kernel_rfl) rfl
      ·rfl
      ·rfl
     rotate_left
     ·simp only [Act.put,bq1,bq2,bq3,i64_w,i32_w]
      rfl
     refine take_ (i:=2) (N:=some 24) (v:=?_) (a':=?_) (bsq 13 7) rfl rfl (by kernel_rfl) (fun _ _ _ h=>h) (Or.inl ⟨by rfl,?_⟩) hHeld ?_ ?_
     rotate_left
     ·rintro w' ⟨s0,s1,s2⟩
      go_simp
      with_reducible rfl
     rotate_left
     ·simp only [Act.put,bq1,bq2,bq3,i64_w,i32_w]
      rfl
     refine pure_ (i:=3) (N:=some 25) (v:=?_) (a':=?_) (bsq 13 15) rfl rfl (by kernel_rfl) (fun _ _ _ h=>h) (Or.inl ⟨by rfl,?_⟩) ?_ ?_
     rotate_left
     ·intro w'
      go_simp
      with_reducible rfl
     rotate_left
     ·simp only [Act.put,bq1,bq2,bq3,i64_w,i32_w]
      rfl
     refine pure_ (i:=4) (N:=some 26) (v:=?_) (a':=?_) (bsq 13 31) rfl rfl (by kernel_rfl) (fun _ _ _ h=>h) (Or.inl ⟨by rfl,?_⟩) ?_ ?_
     rotate_left
     ·intro w'
      go_simp
      with_reducible rfl
     rotate_left
     ·simp only [Act.put,bq1,bq2,bq3,i64_w,i32_w]
      rfl
     refine pure_ (i:=5) (N:=some 27) (v:=?_) (a':=?_) (bsq 13 63) rfl rfl (by kernel_rfl) (fun _ _ _ h=>h) (Or.inl ⟨by rfl,?_⟩) ?_ ?_
     rotate_left
     ·intro w'
      go_simp
      with_reducible rfl
     rotate_left
     ·simp only [Act.put,bq1,bq2,bq3,i64_w,i32_w]
      rfl
     refine pure_ (i:=7) (N:=some 29) (v:=?_) (a':=?_) (bsq 13 191) rfl rfl (by kernel_rfl) (fun _ _ _ h=>h) (Or.inl ⟨by rfl,?_⟩) ?_ ?_
     rotate_left
     ·intro w'
      go_simp
      with_reducible rfl
     rotate_left
     ·simp only [Act.put,bq1,bq2,bq3,i64_w,i32_w]
      rfl
     refine take_ (i:=6) (N:=some 28) (v:=?_) (a':=?_) (bsq 13 255) rfl rfl (by kernel_rfl) (fun _ _ _ h=>h) (Or.inl ⟨by rfl,?_⟩) hHeld ?_ ?_
     rotate_left
     ·rintro w' ⟨s0,s1,s2⟩
      go_simp
      with_reducible rfl
     rotate_left
     ·simp only [Act.put,bq1,bq2,bq3,i64_w,i32_w]
      rfl
     refine take_ (i:=8) (N:=some 30) (v:=?_) (a':=?_) (bsq 13 511) rfl rfl (by kernel_rfl) (fun _ _ _ h=>h) (Or.inl ⟨by rfl,?_⟩) hHeld ?_ ?_
     rotate_left
     ·rintro w' ⟨s0,s1,s2⟩
      go_simp
      with_reducible rfl
     rotate_left
     ·simp only [Act.put,bq1,bq2,bq3,i64_w,i32_w]
      rfl
     refine pure_ (i:=9) (N:=some 31) (v:=?_) (a':=?_) (bsq 13 1023) rfl rfl (by kernel_rfl) (fun _ _ _ h=>h) (Or.inl ⟨by rfl,?_⟩) ?_ ?_
     rotate_left
     ·intro w'
      go_simp
      with_reducible rfl
     rotate_left
     ·simp only [Act.put,bq1,bq2,bq3,i64_w,i32_w]
      rfl
     refine pure_ (i:=10) (N:=some 32) (v:=?_) (a':=?_) (bsq 13 2047) rfl rfl (by kernel_rfl) (fun _ _ _ h=>h) (Or.inl ⟨by rfl,?_⟩) ?_ ?_
     rotate_left
     ·intro w'
      go_simp
      with_reducible rfl
     rotate_left
     ·simp only [Act.put,bq1,bq2,bq3,i64_w,i32_w]
      rfl
     refine one_ (i:=11) (N:=none) (bsq 13 4095) rfl rfl (by kernel_rfl) (by decide) (fun K hK=>?_)
     refine skip_ (w1:=?_) (by rfl) rfl ?_ ?_
     rotate_left
     ·refine exec_store_part 29 (.tmp 6) (.tmp 22) ?_ gr 0 (cellsC ({ C with p:=(v:Int),on:=false }) S) ?_ ?_ 29 _ (cellsC ({ C with p:=(v:Int),on:=false }) S) (bkb K9_gr.out (bwd (Below.refl _ _))) (by kernel_rfl) (Nat.le_of_ble_eq_true rfl) (by kernel_rfl) rfl
      ·rfl
      ·rfl
      ·rfl
     refine hK.out _ _ ⟨((setRow_other _ _ _ _ (by have:=E_gc_gr.out;omega)).trans hHeld.1),(bkc ((setRow_other _ _ _ _ (by have:=E_gc_gr.out;omega)).trans hHeld.1) 11).trans rfl,(bkc ((setRow_other _ _ _ _ (by have:=E_gc_gr.out;omega)).trans hHeld.1) 12).trans rfl⟩ (fun hHeld=>?_)
     clear hK K
     refine pure_ (i:=12) (N:=some 7) (v:=?_) (a':=?_) (bsq 13 8191) rfl rfl (by kernel_rfl) (fun _ _ _ h=>h) (Or.inl ⟨by rfl,?_⟩) ?_ ?_
     rotate_left
     ·intro w'
      go_simp
      with_reducible rfl
     rotate_left
     ·simp only [Act.put,bq1,bq2,bq3,i64_w,i32_w]
      rfl
     refine done_ (by kernel_rfl) ?_
     have hb_:=bwd (Below.refl w_8.heap.size w_8)
     obtain ⟨w_14,hw_⟩:∃ x,w_8.drew=x:=⟨_,rfl⟩
     rw [hw_] at hb_ ⊢
     clear hw_
     have B15:=amk (bws B9.out hb_)
     have K15_gc:=amk (bkb K9_gc.out hb_)
     have K15_gr:=amk (bkb K9_gr.out hb_)
     clear hb_ B9 K9_gc K9_gr
     obtain ⟨w_16,hw_⟩:∃ w_,w_14.setRow gr #[.string C.F.m,.bool C.F.b1,.bool C.F.b2,.bool C.F.b3,.bool C.F.b4,.bool C.F.b5,.bool C.F.b6,.slice S.S.A7 C.F.us.length S.S.c7,.slice S.S.A8 C.F.ms.length S.S.c8,.bool C.F.b9,.slice S.S.A10 C.F.vs.length S.S.c10,.int .i64 (v:Int),.int .i64 C.mx,.bool false,.int .i64 C.kn,.slice S.A C.tab.length S.c,.string C.key,.int .i64 C.df]=w_:=⟨_,rfl⟩
     have hu_:Upd w_14 w_16 (fun k=>k=gr):=by rw [← hw_];exact Upd.setRow (Upd.refl w_14 (fun k=>k=gr)) (.inl rfl) _
     have kf_:w_16.heap[gr]?=some (.cells #[.string C.F.m,.bool C.F.b1,.bool C.F.b2,.bool C.F.b3,.bool C.F.b4,.bool C.F.b5,.bool C.F.b6,.slice S.S.A7 C.F.us.length S.S.c7,.slice S.S.A8 C.F.ms.length S.S.c8,.bool C.F.b9,.slice S.S.A10 C.F.vs.length S.S.c10,.int .i64 (v:Int),.int .i64 C.mx,.bool false,.int .i64 C.kn,.slice S.A C.tab.length S.c,.string C.key,.int .i64 C.df] 29 (0,0)):=by rw [← hw_];exact setRow_heap w_14 gr _ #[.string C.F.m,.bool C.F.b1,.bool C.F.b2,.bool C.F.b3,.bool C.F.b4,.bool C.F.b5,.bool C.F.b6,.slice S.S.A7 C.F.us.length S.S.c7,.slice S.S.A8 C.F.ms.length S.S.c8,.bool C.F.b9,.slice S.S.A10 C.F.vs.length S.S.c10,.int .i64 (v:Int),.int .i64 C.mx,.bool false,.int .i64 C.kn,.slice S.A C.tab.length S.c,.string C.key,.int .i64 C.df] 29 (0,0) K15_gr.out
     rw [hw_]
     clear hw_
     have K17_gr:=amk (kf_)
     have B17:=amk (B15.out.trans (hu_.toBelow (B:=w.heap.size) (fun k hk=>by rw [hk];exact G_gr.out) (B15.out).size))
     have K17_gc:=amk (hu_.blk K15_gc.out (by have:=E_gc_gr.out;omega))
     clear hu_ B15 K15_gc K15_gr
     clear kf_
     go_wp2_with fail
     refine bodyPost_ret (res33 _ _ gr _ _ _ _ _ _ _ _ _ _ _ _ _ _ _ _ _ _ _ rfl rfl K17_gr.out) rfl (RprP.of ⟨{ C with p:=(v:Int),on:=false },S,false,rfl,fun e=>by (cases e),fun _=>by rw [← HQ.out];unfold rpS;rw [if_pos C0.out,HVV.out,if_neg (fun q=>by have q1:=q.2.2;have:=HM.out;omega)],B17.out⟩)
   ·have p1:decide ((v:Int) ≥ 1)=false:=decide_eq_false hp
    have p2:decide (1≤v)=false:=decide_eq_false (by omega)
    have p5:(1≤v)=False:=eq_false (by omega)
    have HP:=amk hp
    clear hp
    refine start_ (n:=13) (S:=fun w'=>w'.heap[gc]?=some (.cells #[.string C.F.m,.bool C.F.b1,.bool C.F.b2,.bool C.F.b3,.bool C.F.b4,.bool C.F.b5,.bool C.F.b6,.slice S.S.A7 C.F.us.length S.S.c7,.slice S.S.A8 C.F.ms.length S.S.c8,.bool C.F.b9,.slice S.S.A10 C.F.vs.length S.S.c10,.int .i64 (v:Int),.int .i64 C.mx,.bool false,.int .i64 C.kn,.slice S.A C.tab.length S.c,.string C.key,.int .i64 C.df] 29 (0,0))∧w'.cell? ⟨gc,11,none⟩=some (.int .i64 (v:Int))∧w'.cell? ⟨gc,12,none⟩=some (.int .i64 C.mx)) (ds:=[]) (bsq 13 0) (by kernel_rfl) rfl rfl ⟨(bkb K9_gc.out (bwd (Below.refl _ _))),(bkc K9_gc.out 11).trans rfl,(bkc K9_gc.out 12).trans rfl⟩ (fun hHeld=>?_)
    refine pure_ (i:=1) (N:=some 23) (v:=?_) (a':=?_) (bsq 13 2) rfl rfl (by kernel_rfl) (fun _ _ _ h=>h) (Or.inl ⟨by rfl,?_⟩) ?_ ?_
    rotate_left
    ·intro w'
     go_simp
     with_reducible rfl
    rotate_left
    ·simp only [Act.put,bq1,bq2,bq3,i64_w,i32_w]
     rfl
    refine take_ (i:=0) (N:=some 22) (v:=?_) (a':=?_) (bsq 13 3) rfl rfl (by kernel_rfl) (fun _ _ _ h=>h) (Or.inl ⟨by rfl,?_⟩) hHeld ?_ ?_
    rotate_left
    ·rintro w' ⟨s0,s1,s2⟩
     refine exec_load_part 29 (.tmp 3) ?_ gc 0 ?_ 29 #[.string C.F.m,.bool C.F.b1,.bool C.F.b2,.bool C.F.b3,.bool C.F.b4,.bool C.F.b5,.bool C.F.b6,.slice S.S.A7 C.F.us.length S.S.c7,.slice S.S.A8 C.F.ms.length S.S.c8,.bool C.F.b9,.slice S.S.A10 C.F.vs.length S.S.c10,.int .i64 (v:Int),.int .i64 C.mx,.bool false,.int .i64 C.kn,.slice S.A C.tab.length S.c,.string C.key,.int .i64 C.df] (cellsC ({ C with p:=(v:Int),on:=false }) S) (0,0) _ s0 Try.underlying29 rfl (by kernel_rfl) rfl
     ·rfl
     ·rfl
    rotate_left
    ·simp only [Act.put,bq1,bq2,bq3,i64_w,i32_w]
     rfl
    refine take_ (i:=2) (N:=some 24) (v:=?_) (a':=?_) (bsq 13 7) rfl rfl (by kernel_rfl) (fun _ _ _ h=>h) (Or.inl ⟨by rfl,?_⟩) hHeld ?_ ?_
    rotate_left
    ·rintro w' ⟨s0,s1,s2⟩
     go_simp
     with_reducible rfl
    rotate_left
    ·simp only [Act.put,bq1,bq2,bq3,i64_w,i32_w]
     rfl
    refine pure_ (i:=3) (N:=some 25) (v:=?_) (a':=?_) (bsq 13 15) rfl rfl (by kernel_rfl) (fun _ _ _ h=>h) (Or.inl ⟨by rfl,?_⟩) ?_ ?_
    rotate_left
    ·intro w'
     go_simp
     with_reducible rfl
    rotate_left
    ·simp only [Act.put,bq1,bq2,bq3,i64_w,i32_w]
     rfl
    refine pure_ (i:=4) (N:=some 26) (v:=?_) (a':=?_) (bsq 13 31) rfl rfl (by kernel_rfl) (fun _ _ _ h=>h) (Or.inl ⟨by rfl,?_⟩) ?_ ?_
    rotate_left
    ·intro w'
     go_simp
     with_reducible rfl
    rotate_left
    ·simp only [Act.put,bq1,bq2,bq3,i64_w,i32_w]
     rfl
    refine pure_ (i:=5) (N:=some 27) (v:=undef) (a':=?_) (bsq 13 63) rfl rfl (by kernel_rfl) (fun _ _ _ h=>h) (Or.inr ⟨by rfl,rfl⟩) ?_ ?_
    rotate_left
    ·simp only [Act.put,bq1,bq2,bq3,i64_w,i32_w]
     rfl
    refine pure_ (i:=6) (N:=some 28) (v:=undef) (a':=?_) (bsq 13 127) rfl rfl (by kernel_rfl) (fun _ _ _ h=>h) (Or.inr ⟨by rfl,rfl⟩) ?_ ?_
    rotate_left
    ·simp only [Act.put,bq1,bq2,bq3,i64_w,i32_w]
     rfl
    refine pure_ (i:=7) (N:=some 29) (v:=undef) (a':=?_) (bsq 13 255) rfl rfl (by kernel_rfl) (fun _ _ _ h=>h) (Or.inr ⟨by rfl,rfl⟩) ?_ ?_
    rotate_left
    ·simp only [Act.put,bq1,bq2,bq3,i64_w,i32_w]
     rfl
    refine pure_ (i:=8) (N:=some 30) (v:=undef) (a':=?_) (bsq 13 511) rfl rfl (by kernel_rfl) (fun _ _ _ h=>h) (Or.inr ⟨by rfl,rfl⟩) ?_ ?_
    rotate_left
    ·simp only [Act.put,bq1,bq2,bq3,i64_w,i32_w]
     rfl
    refine pure_ (i:=9) (N:=some 31) (v:=undef) (a':=?_) (bsq 13 1023) rfl rfl (by kernel_rfl) (fun _ _ _ h=>h) (Or.inr ⟨by rfl,rfl⟩) ?_ ?_
    rotate_left
    ·simp only [Act.put,bq1,bq2,bq3,i64_w,i32_w]
     rfl
    refine pure_ (i:=10) (N:=some 32) (v:=?_) (a':=?_) (bsq 13 2047) rfl rfl (by kernel_rfl) (fun _ _ _ h=>h) (Or.inl ⟨by rfl,?_⟩) ?_ ?_
    rotate_left
    ·intro w'
     go_simp
     with_reducible rfl
    rotate_left
    ·simp only [Act.put,bq1,bq2,bq3,i64_w,i32_w]
     rfl
    refine one_ (i:=11) (N:=none) (bsq 13 4095) rfl rfl (by kernel_rfl) (by decide) (fun K hK=>?_)
    refine skip_ (w1:=?_) (by rfl) rfl ?_ ?_
    rotate_left
    ·refine exec_store_part 29 (.tmp 6) (.tmp 22) ?_ gr 0 (cellsC ({ C with p:=(v:Int),on:=false }) S) ?_ ?_ 29 _ (cellsC ({ C with p:=(v:Int),on:=false }) S) (bkb K9_gr.out (bwd (Below.refl _ _))) (by kernel_rfl) (Nat.le_of_ble_eq_true rfl) (by kernel_rfl) rfl
     ·rfl
     ·rfl
     ·rfl
    refine hK.out _ _ ⟨((setRow_other _ _ _ _ (by have:=E_gc_gr.out;omega)).trans hHeld.1),(bkc ((setRow_other _ _ _ _ (by have:=E_gc_gr.out;omega)).trans hHeld.1) 11).trans rfl,(bkc ((setRow_other _ _ _ _ (by have:=E_gc_gr.out;omega)).trans hHeld.1) 12).trans rfl⟩ (fun hHeld=>?_)
    clear hK K
    refine pure_ (i:=12) (N:=some 7) (v:=?_) (a':=?_) (bsq 13 8191) rfl rfl (by kernel_rfl) (fun _ _ _ h=>h) (Or.inl ⟨by rfl,?_⟩) ?_ ?_
    rotate_left
    ·intro w'
     go_simp
     with_reducible rfl
    rotate_left
    ·simp only [Act.put,bq1,bq2,bq3,i64_w,i32_w]
     rfl
    refine done_ (by kernel_rfl) ?_
    have hb_:=bwd (Below.refl w_8.heap.size w_8)
    obtain ⟨w_18,hw_⟩:∃ x,w_8.drew=x:=⟨_,rfl⟩
    rw [hw_] at hb_ ⊢
    clear hw_
    have B19:=amk (bws B9.out hb_)
    have K19_gc:=amk (bkb K9_gc.out hb_)
    have K19_gr:=amk (bkb K9_gr.out hb_)
    clear hb_ B9 K9_gc K9_gr
    obtain ⟨w_20,hw_⟩:∃ w_,w_18.setRow gr #[.string C.F.m,.bool C.F.b1,.bool C.F.b2,.bool C.F.b3,.bool C.F.b4,.bool C.F.b5,.bool C.F.b6,.slice S.S.A7 C.F.us.length S.S.c7,.slice S.S.A8 C.F.ms.length S.S.c8,.bool C.F.b9,.slice S.S.A10 C.F.vs.length S.S.c10,.int .i64 (v:Int),.int .i64 C.mx,.bool false,.int .i64 C.kn,.slice S.A C.tab.length S.c,.string C.key,.int .i64 C.df]=w_:=⟨_,rfl⟩
    have hu_:Upd w_18 w_20 (fun k=>k=gr):=by rw [← hw_];exact Upd.setRow (Upd.refl w_18 (fun k=>k=gr)) (.inl rfl) _
    have kf_:w_20.heap[gr]?=some (.cells #[.string C.F.m,.bool C.F.b1,.bool C.F.b2,.bool C.F.b3,.bool C.F.b4,.bool C.F.b5,.bool C.F.b6,.slice S.S.A7 C.F.us.length S.S.c7,.slice S.S.A8 C.F.ms.length S.S.c8,.bool C.F.b9,.slice S.S.A10 C.F.vs.length S.S.c10,.int .i64 (v:Int),.int .i64 C.mx,.bool false,.int .i64 C.kn,.slice S.A C.tab.length S.c,.string C.key,.int .i64 C.df] 29 (0,0)):=by rw [← hw_];exact setRow_heap w_18 gr _ #[.string C.F.m,.bool C.F.b1,.bool C.F.b2,.bool C.F.b3,.bool C.F.b4,.bool C.F.b5,.bool C.F.b6,.slice S.S.A7 C.F.us.length S.S.c7,.slice S.S.A8 C.F.ms.length S.S.c8,.bool C.F.b9,.slice S.S.A10 C.F.vs.length S.S.c10,.int .i64 (v:Int),.int .i64 C.mx,.bool false,.int .i64 C.kn,.slice S.A C.tab.length S.c,.string C.key,.int .i64 C.df] 29 (0,0) K19_gr.out
    rw [hw_]
    clear hw_
    have K21_gr:=amk (kf_)
    have B21:=amk (B19.out.trans (hu_.toBelow (B:=w.heap.size) (fun k hk=>by rw [hk];exact G_gr.out) (B19.out).size))
    have K21_gc:=amk (hu_.blk K19_gc.out (by have:=E_gc_gr.out;omega))
    clear hu_ B19 K19_gc K19_gr
    clear kf_
    go_wp2_with fail
    refine bodyPost_ret (res33 _ _ gr _ _ _ _ _ _ _ _ _ _ _ _ _ _ _ _ _ _ _ rfl rfl K21_gr.out) rfl (RprP.of ⟨{ C with p:=(v:Int),on:=false },S,false,rfl,fun e=>by (cases e),fun _=>by rw [← HQ.out];unfold rpS;rw [if_pos C0.out,HVV.out,if_neg (fun q=>by have q1:=q.2.1;have:=HP.out;omega)],B21.out⟩)
  ·have e2:((s.size:Int) == 2)=false:=beq_eq_false_iff_ne.2 (by omega)
   have e3:(s.size == 2)=false:=beq_eq_false_iff_ne.2 h2
   have H2:=amk h2
   clear h2
   go_wp2_with (first | (refine wpList_load_row rfl 29 (.tmp 3) rfl gc rfl 29 (cellsC C S) (0,0) _ K4_gc.out Try.underlying29 rfl (by kernel_rfl) ?_) | (refine wpList_store_row rfl 29 (.tmp 6) (.tmp 17) rfl gr (cellsC C S) rfl rfl 29 zeroC BX2.out (by kernel_rfl) rfl (by kernel_rfl) ?_))
   obtain ⟨w_22,hw_⟩:∃ w_,w_2.setRow gr (cellsC C S)=w_:=⟨_,rfl⟩
   have hu_:Upd w_2 w_22 (fun k=>k=gr):=by rw [← hw_];exact Upd.setRow (Upd.refl w_2 (fun k=>k=gr)) (.inl rfl) _
   have kf_:w_22.heap[gr]?=some (.cells (cellsC C S) 29 (0,0)):=by rw [← hw_];exact setRow_heap w_2 gr _ (cellsC C S) 29 (0,0) BX2.out
   rw [hw_]
   clear hw_
   have K23_gr:=amk (kf_)
   have B23:=amk (B4.out.trans (hu_.toBelow (B:=w.heap.size) (fun k hk=>by rw [hk];exact G_gr.out) (B4.out).size))
   have K23_gc:=amk (hu_.blk K4_gc.out (by have:=E_gc_gr.out;omega))
   clear hu_ B4 K4_gc BX2
   clear kf_
   refine bodyPost_ret (res33 _ _ gr _ _ _ _ _ _ _ _ _ _ _ _ _ _ _ _ _ _ _ rfl rfl K23_gr.out) rfl (RprP.of ⟨C,S,false,rfl,fun e=>by (cases e),fun _=>by rw [← HQ.out];unfold rpS;rw [if_pos C0.out,if_neg (fun q=>H2.out q.1)],B23.out⟩)
 have d0:(cmd == 0)=false:=beq_eq_false_iff_ne.2 c0
 have C0:=amk c0
 clear c0
 obtain ⟨R,hR⟩:∃ R,rrS s=R:=⟨_,rfl⟩
 have NRU:∀ w,Calls Try.prog 48 #[.string s] w fun e w'=>∃ A c,e=.returned (.tuple #[.agg #[.int .i64 R.kn,.slice A (intsOf R.tab).length c,.string R.key,.int .i64 R.df],.int .i64 R.p,.bool R.ok])∧w'.ownsRow w.heap.size 3 1 (.slice A (intsOf R.tab).length c) (intsOf R.tab).length (encs (Value.int .i64) (intsOf R.tab))∧Below w.heap.size w w':=fun w=>by
  have q:=rru_c s w (by have:=HZ.out;omega)
  rw [hR] at q
  rw [intsOf_len]
  exact q
 have lR:(intsOf R.tab).length≤1000000:=by
  rw [intsOf_len,← hR]
  unfold rrS
  split
  ·exact Nat.zero_le _
  ·split
   ·exact Nat.zero_le _
   ·dsimp only
    rw [numsAt_len]
    have:=nat_lt s 4 2
    omega
 obtain ⟨L,hL⟩:∃ L,intsOf R.tab=L:=⟨_,rfl⟩
 rw [hL] at NRU lR
 have HRR:=amk hR
 have HLL:=amk hL
 have HLR:=amk lR
 clear hR hL lR
 go_wp2_with fail
 refine (NRU _).mono ?_
 rintro e w1 ⟨A,c,rfl,ho,hb_⟩
 have HO:Aside0 (OR w.heap.size w1 3 A L.length c (encs (Value.int .i64) L)):=⟨⟨own_weaken ho (B4.out).size,.inr rfl⟩⟩
 clear ho NRU
 have B24:=amk (bws B4.out hb_)
 have K24_gc:=amk (bkb K4_gc.out hb_)
 have K24_gr:=amk (bkb BX2.out hb_)
 clear hb_ B4 K4_gc BX2
 go_upto_region 8 with (refine wpList_store_row rfl 27 (.tmp 8) (.tmp 36) rfl w1.heap.size #[.int .i64 R.kn,.slice A L.length c,.string R.key,.int .i64 R.df] rfl rfl 27 #[.int .i64 0,.slice none 0 0,.string ⟨#[]⟩,.int .i64 0] (blk_new w1 _) (by kernel_rfl) rfl (by kernel_rfl) ?_)
 obtain ⟨w_25,hw_⟩:∃ x,(w1.alloc (.cells #[.int .i64 0,.slice none 0 0,.string ⟨#[]⟩,.int .i64 0] 27)).setRow w1.heap.size #[.int .i64 R.kn,.slice A L.length c,.string R.key,.int .i64 R.df]=x:=⟨_,rfl⟩
 have hb_:Below w1.heap.size w1 w_25:=by
  rw [← hw_]
  exact (bwa (Below.refl _ _) _).trans ((Upd.setRow (Upd.refl (w1.alloc (.cells #[.int .i64 0,.slice none 0 0,.string ⟨#[]⟩,.int .i64 0] 27)) (fun k=>k=w1.heap.size)) (.inl rfl) #[.int .i64 R.kn,.slice A L.length c,.string R.key,.int .i64 R.df]).toBelow (B:=w1.heap.size) (fun k hk=>by rw [hk];exact Nat.le_refl _) (by simp))
 have hblk_:w_25.heap[w1.heap.size]?=some (.cells #[.int .i64 R.kn,.slice A L.length c,.string R.key,.int .i64 R.df] 27 (0,0)):=by
  rw [← hw_]
  exact setRow_heap _ w1.heap.size _ #[.int .i64 R.kn,.slice A L.length c,.string R.key,.int .i64 R.df] 27 (0,0) (blk_new w1 _)
 rw [hw_]
 clear hw_
 obtain ⟨gx,hg_⟩:∃ x,w1.heap.size=x:=⟨_,rfl⟩
 rw [hg_] at hblk_
 have hge_:w1.heap.size≤gx:=Nat.le_of_eq hg_
 (try rw [hg_])
 clear hg_
 have E_gc_gx:=amk (Nat.lt_of_lt_of_le (blk_lt K24_gc.out) hge_)
 have E_gr_gx:=amk (Nat.lt_of_lt_of_le (blk_lt K24_gr.out) hge_)
 have G_gx:=amk (Nat.le_trans (B24.out).size hge_)
 have BX_gx:=amk hblk_
 have B26:=amk (bws B24.out hb_)
 have K26_gc:=amk (bkb K24_gc.out hb_)
 have K26_gr:=amk (bkb K24_gr.out hb_)
 have O26_X:=amk (HO.out.below hb_)
 clear hb_ B24 K24_gc K24_gr HO
 clear hblk_ hge_
 go_upto_region 9 with (first | (refine wpList_load_part (by rfl) 27 (.tmp 8) rfl gx 0 rfl 27 #[.int .i64 R.kn,.slice A L.length c,.string R.key,.int .i64 R.df] #[.int .i64 R.kn,.slice A L.length c,.string R.key,.int .i64 R.df] (0,0) _ BX_gx.out Try.underlying27 rfl (by kernel_rfl) rfl ?_) | (refine wpList_store_part (by rfl) 27 (.tmp 40) (.tmp 39) rfl gc 14 #[.int .i64 R.kn,.slice A L.length c,.string R.key,.int .i64 R.df] rfl rfl 29 (cellsC C S) #[.string C.F.m,.bool C.F.b1,.bool C.F.b2,.bool C.F.b3,.bool C.F.b4,.bool C.F.b5,.bool C.F.b6,.slice S.S.A7 C.F.us.length S.S.c7,.slice S.S.A8 C.F.ms.length S.S.c8,.bool C.F.b9,.slice S.S.A10 C.F.vs.length S.S.c10,.int .i64 C.p,.int .i64 C.mx,.bool C.on,.int .i64 R.kn,.slice A L.length c,.string R.key,.int .i64 R.df] K26_gc.out (by kernel_rfl) (Nat.le_of_ble_eq_true rfl) (by kernel_rfl) rfl ?_))
 obtain ⟨w_27,hw_⟩:∃ w_,w_25.setRow gc #[.string C.F.m,.bool C.F.b1,.bool C.F.b2,.bool C.F.b3,.bool C.F.b4,.bool C.F.b5,.bool C.F.b6,.slice S.S.A7 C.F.us.length S.S.c7,.slice S.S.A8 C.F.ms.length S.S.c8,.bool C.F.b9,.slice S.S.A10 C.F.vs.length S.S.c10,.int .i64 C.p,.int .i64 C.mx,.bool C.on,.int .i64 R.kn,.slice A L.length c,.string R.key,.int .i64 R.df]=w_:=⟨_,rfl⟩
 have hu_:Upd w_25 w_27 (fun k=>k=gc):=by rw [← hw_];exact Upd.setRow (Upd.refl w_25 (fun k=>k=gc)) (.inl rfl) _
 have kf_:w_27.heap[gc]?=some (.cells #[.string C.F.m,.bool C.F.b1,.bool C.F.b2,.bool C.F.b3,.bool C.F.b4,.bool C.F.b5,.bool C.F.b6,.slice S.S.A7 C.F.us.length S.S.c7,.slice S.S.A8 C.F.ms.length S.S.c8,.bool C.F.b9,.slice S.S.A10 C.F.vs.length S.S.c10,.int .i64 C.p,.int .i64 C.mx,.bool C.on,.int .i64 R.kn,.slice A L.length c,.string R.key,.int .i64 R.df] 29 (0,0)):=by rw [← hw_];exact setRow_heap w_25 gc _ #[.string C.F.m,.bool C.F.b1,.bool C.F.b2,.bool C.F.b3,.bool C.F.b4,.bool C.F.b5,.bool C.F.b6,.slice S.S.A7 C.F.us.length S.S.c7,.slice S.S.A8 C.F.ms.length S.S.c8,.bool C.F.b9,.slice S.S.A10 C.F.vs.length S.S.c10,.int .i64 C.p,.int .i64 C.mx,.bool C.on,.int .i64 R.kn,.slice A L.length c,.string R.key,.int .i64 R.df] 29 (0,0) K26_gc.out
 rw [hw_]
 clear hw_
 have K28_gc:=amk (kf_)
 have B28:=amk (B26.out.trans (hu_.toBelow (B:=w.heap.size) (fun k hk=>by rw [hk];exact G_gc.out) (B26.out).size))
 have K28_gr:=amk (hu_.blk K26_gr.out (by have:=E_gc_gr.out;omega))
 have K28_gx:=amk (hu_.blk BX_gx.out (by have:=E_gc_gx.out;omega))
 have O28_X:=amk (O26_X.out.boxT K26_gc.out (by decide) (by decide) hu_)
 clear hu_ B26 K26_gr BX_gx O26_X K26_gc
 clear kf_
 have pc11:w_27.cell? ⟨gc,11,none⟩=some (.int .i64 C.p):=(bkc K28_gc.out 11).trans rfl
 have pf11:=bkf K28_gc.out 11
 go_upto_region 10 with fail
 clear pc11 pf11
 obtain ⟨w_29,hw_⟩:∃ w_,(w_27.setCell ⟨gc,11,none⟩ (.int .i64 R.p))=w_:=⟨_,rfl⟩
 have hu_:Upd w_27 w_29 (fun k=>k=gc):=by rw [← hw_];exact (Upd.refl w_27 (fun k=>k=gc)).set (p:=⟨gc,11,none⟩) (.inl rfl) _
 have kf_:w_29.heap[gc]?=some (.cells #[.string C.F.m,.bool C.F.b1,.bool C.F.b2,.bool C.F.b3,.bool C.F.b4,.bool C.F.b5,.bool C.F.b6,.slice S.S.A7 C.F.us.length S.S.c7,.slice S.S.A8 C.F.ms.length S.S.c8,.bool C.F.b9,.slice S.S.A10 C.F.vs.length S.S.c10,.int .i64 R.p,.int .i64 C.mx,.bool C.on,.int .i64 R.kn,.slice A L.length c,.string R.key,.int .i64 R.df] 29 (0,0)):=by rw [← hw_];exact (blk_put (cs:=#[.string C.F.m,.bool C.F.b1,.bool C.F.b2,.bool C.F.b3,.bool C.F.b4,.bool C.F.b5,.bool C.F.b6,.slice S.S.A7 C.F.us.length S.S.c7,.slice S.S.A8 C.F.ms.length S.S.c8,.bool C.F.b9,.slice S.S.A10 C.F.vs.length S.S.c10,.int .i64 C.p,.int .i64 C.mx,.bool C.on,.int .i64 R.kn,.slice A L.length c,.string R.key,.int .i64 R.df]) K28_gc.out 11 _ rfl)
 rw [hw_]
 clear hw_
 have K30_gc:=amk (kf_)
 have B30:=amk (B28.out.trans (hu_.toBelow (B:=w.heap.size) (fun k hk=>by rw [hk];exact G_gc.out) (B28.out).size))
 have K30_gr:=amk (hu_.blk K28_gr.out (by have:=E_gc_gr.out;omega))
 have K30_gx:=amk (hu_.blk K28_gx.out (by have:=E_gc_gx.out;omega))
 have O30_X:=amk (O28_X.out.boxT K28_gc.out (by decide) (by decide) hu_)
 clear hu_ B28 K28_gr K28_gx O28_X K28_gc
 clear kf_
 have pc13:w_29.cell? ⟨gc,13,none⟩=some (.bool C.on):=(bkc K30_gc.out 13).trans rfl
 have pf13:=bkf K30_gc.out 13
 go_upto_region 11 with fail
 clear pc13 pf13
 obtain ⟨w_31,hw_⟩:∃ w_,(w_29.setCell ⟨gc,13,none⟩ (.bool true))=w_:=⟨_,rfl⟩
 have hu_:Upd w_29 w_31 (fun k=>k=gc):=by rw [← hw_];exact (Upd.refl w_29 (fun k=>k=gc)).set (p:=⟨gc,13,none⟩) (.inl rfl) _
 have kf_:w_31.heap[gc]?=some (.cells #[.string C.F.m,.bool C.F.b1,.bool C.F.b2,.bool C.F.b3,.bool C.F.b4,.bool C.F.b5,.bool C.F.b6,.slice S.S.A7 C.F.us.length S.S.c7,.slice S.S.A8 C.F.ms.length S.S.c8,.bool C.F.b9,.slice S.S.A10 C.F.vs.length S.S.c10,.int .i64 R.p,.int .i64 C.mx,.bool true,.int .i64 R.kn,.slice A L.length c,.string R.key,.int .i64 R.df] 29 (0,0)):=by rw [← hw_];exact (blk_put (cs:=#[.string C.F.m,.bool C.F.b1,.bool C.F.b2,.bool C.F.b3,.bool C.F.b4,.bool C.F.b5,.bool C.F.b6,.slice S.S.A7 C.F.us.length S.S.c7,.slice S.S.A8 C.F.ms.length S.S.c8,.bool C.F.b9,.slice S.S.A10 C.F.vs.length S.S.c10,.int .i64 R.p,.int .i64 C.mx,.bool C.on,.int .i64 R.kn,.slice A L.length c,.string R.key,.int .i64 R.df]) K30_gc.out 13 _ rfl)
 rw [hw_]
 clear hw_
 have K32_gc:=amk (kf_)
 have B32:=amk (B30.out.trans (hu_.toBelow (B:=w.heap.size) (fun k hk=>by rw [hk];exact G_gc.out) (B30.out).size))
 have K32_gr:=amk (hu_.blk K30_gr.out (by have:=E_gc_gr.out;omega))
 have K32_gx:=amk (hu_.blk K30_gx.out (by have:=E_gc_gx.out;omega))
 have O32_X:=amk (O30_X.out.boxT K30_gc.out (by decide) (by decide) hu_)
 clear hu_ B30 K30_gr K30_gx O30_X K30_gc
 clear kf_
 obtain ⟨z,hz⟩:∃ z,rssS R.kn L R.key R.df=z:=⟨_,rfl⟩
 have N24:∀ w',ReadsOf (Value.int .i64) 0 w' A L.length L→L.length≤c→Calls Try.prog 24 #[.agg #[.int .i64 R.kn,.slice A L.length c,.string R.key,.int .i64 R.df]] w' fun e w''=>e=.returned (.int .i64 z)∧Below w'.heap.size w' w'':=fun w' h1 h2=>by
  rw [← hz]
  exact r11_c R.kn A c L R.key R.df w' h1 h2 HLR.out
 obtain ⟨bad,hbad⟩:∃ b,badR C cmd R=b:=⟨_,rfl⟩
 have hbd:badR C cmd R=(cmd != 1 || !R.ok || z != 0 || decide (R.p < 1) || decide (R.p > C.mx) || decide (R.df ≥ C.mx)):=by unfold badR;rw [HLL.out,hz]
 rw [hbad] at hbd
 have HBD:=amk hbd
 have HBAD:=amk hbad
 clear hz hbad hbd
 go_cut [10,71] (fun v10 v w'=>v=.bool bad∧Aside0 (w'.heap[gc]?=some (.cells #[.string C.F.m,.bool C.F.b1,.bool C.F.b2,.bool C.F.b3,.bool C.F.b4,.bool C.F.b5,.bool C.F.b6,.slice S.S.A7 C.F.us.length S.S.c7,.slice S.S.A8 C.F.ms.length S.S.c8,.bool C.F.b9,.slice S.S.A10 C.F.vs.length S.S.c10,.int .i64 R.p,.int .i64 C.mx,.bool true,.int .i64 R.kn,.slice A L.length c,.string R.key,.int .i64 R.df] 29 (0,0)))∧Aside0 (w'.heap[gr]?=some (.cells zeroC 29 (0,0)))∧Aside0 (w'.heap[gx]?=some (.cells #[.int .i64 R.kn,.slice A L.length c,.string R.key,.int .i64 R.df] 27 (0,0)))∧Aside0 (OR w.heap.size w' 3 A L.length c (encs (Value.int .i64) L))∧Aside0 (Below w.heap.size w w'))
 case first =>
  have pc12:w_31.cell? ⟨gc,12,none⟩=some (.int .i64 C.mx):=(bkc K32_gc.out 12).trans rfl
  have pf12:=bkf K32_gc.out 12
  have qc3:w_31.cell? ⟨gx,3,none⟩=some (.int .i64 R.df):=(bkc K32_gx.out 3).trans rfl
  have qf3:=bkf K32_gx.out 3
  cases f1:(cmd != 1)
  ·rcases (show R.ok=false∨R.ok=true by cases R.ok <;> simp) with f2 | f2
   ·go_wp2_with fail
    go_meet
    case rel=>exact ⟨by have q:=HBD.out;rw [f1,f2] at q;rw [q];simp,K32_gc,K32_gr,K32_gx,O32_X,B32⟩
   ·go_wp2_with (refine wpList_load_part_g (by rfl) 27 (.tmp 8) rfl gx 0 rfl 27 #[.int .i64 R.kn,.slice A L.length c,.string R.key,.int .i64 R.df] (#[.int .i64 R.kn,.slice A L.length c,.string R.key,.int .i64 R.df]) (0,0) _ K32_gx.out Try.underlying27 rfl (by kernel_rfl) rfl ?_)
    refine (N24 _ (own_reads_of' O32_X.out.h) (own_cap O32_X.out.h)).mono ?_
    rintro e w_33 ⟨rfl,hb_⟩
    clear N24 pc12 pf12 qc3 qf3
    have B34:=amk (bws B32.out hb_)
    have K34_gc:=amk (bkb K32_gc.out hb_)
    have K34_gr:=amk (bkb K32_gr.out hb_)
    have K34_gx:=amk (bkb K32_gx.out hb_)
    have O34_X:=amk (O32_X.out.below hb_)
    clear hb_ B32 K32_gc K32_gr K32_gx O32_X
    have pc12:w_33.cell? ⟨gc,12,none⟩=some (.int .i64 C.mx):=(bkc K34_gc.out 12).trans rfl
    have pf12:=bkf K34_gc.out 12
    have qc3:w_33.cell? ⟨gx,3,none⟩=some (.int .i64 R.df):=(bkc K34_gx.out 3).trans rfl
    have qf3:=bkf K34_gx.out 3
    cases f3:(z != 0)
    ·cases f4:decide (R.p < 1)
     ·cases f5:decide (R.p > C.mx)
      ·cases f6:decide (R.df ≥ C.mx)
       ·go_wp2_with fail
        go_meet
        case rel=>exact ⟨by have q:=HBD.out;rw [f1,f2,f3,f4,f5,f6] at q;rw [q];rfl,K34_gc,K34_gr,K34_gx,O34_X,B34⟩
       ·go_wp2_with fail
        go_meet
        case rel=>exact ⟨by have q:=HBD.out;rw [f1,f2,f3,f4,f5,f6] at q;rw [q];simp,K34_gc,K34_gr,K34_gx,O34_X,B34⟩
      ·go_wp2_with fail
       go_meet
       case rel=>exact ⟨by have q:=HBD.out;rw [f1,f2,f3,f4,f5] at q;rw [q];simp,K34_gc,K34_gr,K34_gx,O34_X,B34⟩
     ·go_wp2_with fail
      go_meet
      case rel=>exact ⟨by have q:=HBD.out;rw [f1,f2,f3,f4] at q;rw [q];simp,K34_gc,K34_gr,K34_gx,O34_X,B34⟩
    ·go_wp2_with fail
     go_meet
     case rel=>exact ⟨by have q:=HBD.out;rw [f1,f2,f3] at q;rw [q];simp,K34_gc,K34_gr,K34_gx,O34_X,B34⟩
  ·go_wp2_with fail
   go_meet
   case rel=>exact ⟨by have q:=HBD.out;rw [f1] at q;rw [q];simp,K32_gc,K32_gr,K32_gx,O32_X,B32⟩
 case rest =>
  revert wc
  intro wq hcut
  obtain ⟨rfl,LC,LR,LX,LO,LB⟩:=hcut
  clear N24 HBD
  cases bad
  rotate_left
  ·go_wp2_with (first | (refine wpList_load_row rfl 29 (.tmp 3) rfl gc rfl 29 #[.string C.F.m,.bool C.F.b1,.bool C.F.b2,.bool C.F.b3,.bool C.F.b4,.bool C.F.b5,.bool C.F.b6,.slice S.S.A7 C.F.us.length S.S.c7,.slice S.S.A8 C.F.ms.length S.S.c8,.bool C.F.b9,.slice S.S.A10 C.F.vs.length S.S.c10,.int .i64 R.p,.int .i64 C.mx,.bool true,.int .i64 R.kn,.slice A L.length c,.string R.key,.int .i64 R.df] (0,0) _ LC.out Try.underlying29 rfl (by kernel_rfl) ?_) | (refine wpList_store_row rfl 29 (.tmp 6) (.tmp 72) rfl gr #[.string C.F.m,.bool C.F.b1,.bool C.F.b2,.bool C.F.b3,.bool C.F.b4,.bool C.F.b5,.bool C.F.b6,.slice S.S.A7 C.F.us.length S.S.c7,.slice S.S.A8 C.F.ms.length S.S.c8,.bool C.F.b9,.slice S.S.A10 C.F.vs.length S.S.c10,.int .i64 R.p,.int .i64 C.mx,.bool true,.int .i64 R.kn,.slice A L.length c,.string R.key,.int .i64 R.df] rfl rfl 29 zeroC LR.out (by kernel_rfl) rfl (by kernel_rfl) ?_))
   obtain ⟨w_1,hw_⟩:∃ w_,wq.setRow gr #[.string C.F.m,.bool C.F.b1,.bool C.F.b2,.bool C.F.b3,.bool C.F.b4,.bool C.F.b5,.bool C.F.b6,.slice S.S.A7 C.F.us.length S.S.c7,.slice S.S.A8 C.F.ms.length S.S.c8,.bool C.F.b9,.slice S.S.A10 C.F.vs.length S.S.c10,.int .i64 R.p,.int .i64 C.mx,.bool true,.int .i64 R.kn,.slice A L.length c,.string R.key,.int .i64 R.df]=w_:=⟨_,rfl⟩
   have hu_:Upd wq w_1 (fun k=>k=gr):=by rw [← hw_];exact Upd.setRow (Upd.refl wq (fun k=>k=gr)) (.inl rfl) _
   have kf_:w_1.heap[gr]?=some (.cells #[.string C.F.m,.bool C.F.b1,.bool C.F.b2,.bool C.F.b3,.bool C.F.b4,.bool C.F.b5,.bool C.F.b6,.slice S.S.A7 C.F.us.length S.S.c7,.slice S.S.A8 C.F.ms.length S.S.c8,.bool C.F.b9,.slice S.S.A10 C.F.vs.length S.S.c10,.int .i64 R.p,.int .i64 C.mx,.bool true,.int .i64 R.kn,.slice A L.length c,.string R.key,.int .i64 R.df] 29 (0,0)):=by rw [← hw_];exact setRow_heap wq gr _ #[.string C.F.m,.bool C.F.b1,.bool C.F.b2,.bool C.F.b3,.bool C.F.b4,.bool C.F.b5,.bool C.F.b6,.slice S.S.A7 C.F.us.length S.S.c7,.slice S.S.A8 C.F.ms.length S.S.c8,.bool C.F.b9,.slice S.S.A10 C.F.vs.length S.S.c10,.int .i64 R.p,.int .i64 C.mx,.bool true,.int .i64 R.kn,.slice A L.length c,.string R.key,.int .i64 R.df] 29 (0,0) LR.out
   rw [hw_]
   clear hw_
   have K2_gr:=amk (kf_)
   have B2:=amk (LB.out.trans (hu_.toBelow (B:=w.heap.size) (fun k hk=>by rw [hk];exact G_gr.out) (LB.out).size))
   have K2_gc:=amk (hu_.blk LC.out (by have:=E_gc_gr.out;omega))
   have K2_gx:=amk (hu_.blk LX.out (by have:=E_gr_gx.out;omega))
   have O2_X:=amk (LO.out.boxT LR.out (by decide) (by decide) hu_)
   clear hu_ LB LC LX LO LR
   clear kf_
   refine bodyPost_ret (res33 _ _ gr _ _ _ _ _ _ _ _ _ _ _ _ _ _ _ _ _ _ _ rfl rfl K2_gr.out) rfl (RprP.of ⟨({ C with kn:=R.kn,tab:=L,key:=R.key,df:=R.df,p:=R.p,on:=true }:Cfg),(⟨S.S,A,c⟩:SlC),false,rfl,fun e=>by (cases e),fun _=>by rw [← HQ.out];unfold rpS;rw [if_neg C0.out,HRR.out,HLL.out,HBAD.out,if_neg (fun q=>by cases q.1)],B2.out⟩)
  have hcut:=0
  clear hcut
  obtain ⟨fa,hfa⟩:∃ b,(L.all fun q=>decide (q < C.mx))=b:=⟨_,rfl⟩
  have HFA:=amk hfa
  clear hfa
  go_wp2_with fail
  go_loopg [11] L.length (fun gk v11 w'=>∃ i:Nat,v11=.int .i64 (i:Int)∧Aside0 (i+gk=L.length)∧Aside0 (∀ j (h:j < L.length),j < i→L[j] < C.mx)∧Aside0 (Below wq.heap.size wq w'))
  case atStart=>exact ⟨0,rfl,⟨by omega⟩,⟨fun j _ h=>absurd h (Nat.not_lt_zero _)⟩,⟨Below.refl _ _⟩⟩
  case round =>
   obtain ⟨i,rfl,hk,HJ,hL⟩:=hrel
   have hkk:=hk.out
   have MC:=amk (bkb LC.out hL.out)
   have MR:=amk (bkb LR.out hL.out)
   have MX:=amk (bkb LX.out hL.out)
   have MO:=amk (LO.out.below hL.out)
   have MB:=amk (bws LB.out hL.out)
   have wi:IntKind.i64.wrap ((i:Int)+1)=((i+1:Nat):Int):=by rw [IntKind.wrap_i64];have:=HLR.out;omega
   by_cases hc:i < L.length
   rotate_left
   ·skip
    have c1:decide ((i:Int) < (L.length:Int))=false:=decide_eq_false (by omega)
    have c2:decide (i < L.length)=false:=decide_eq_false hc
    have hall:(L.all fun q=>decide (q < C.mx))=true:=by
     rw [List.all_eq_true]
     intro x hx
     obtain ⟨j,hj,rfl⟩:=List.getElem_of_mem hx
     exact decide_eq_true (HJ.out j hj (by omega))
    have HALL:=amk hall
    clear hall hkk hc
    have qc1:wr.cell? ⟨gx,1,none⟩=some (.slice A L.length c):=(bkc MX.out 1).trans rfl
    go_wp2_with (first | (refine wpList_load_row rfl 29 (.tmp 3) rfl gc rfl 29 #[.string C.F.m,.bool C.F.b1,.bool C.F.b2,.bool C.F.b3,.bool C.F.b4,.bool C.F.b5,.bool C.F.b6,.slice S.S.A7 C.F.us.length S.S.c7,.slice S.S.A8 C.F.ms.length S.S.c8,.bool C.F.b9,.slice S.S.A10 C.F.vs.length S.S.c10,.int .i64 R.p,.int .i64 C.mx,.bool true,.int .i64 R.kn,.slice A L.length c,.string R.key,.int .i64 R.df] (0,0) _ MC.out Try.underlying29 rfl (by kernel_rfl) ?_) | (refine wpList_store_row rfl 29 (.tmp 6) (.tmp 89) rfl gr #[.string C.F.m,.bool C.F.b1,.bool C.F.b2,.bool C.F.b3,.bool C.F.b4,.bool C.F.b5,.bool C.F.b6,.slice S.S.A7 C.F.us.length S.S.c7,.slice S.S.A8 C.F.ms.length S.S.c8,.bool C.F.b9,.slice S.S.A10 C.F.vs.length S.S.c10,.int .i64 R.p,.int .i64 C.mx,.bool true,.int .i64 R.kn,.slice A L.length c,.string R.key,.int .i64 R.df] rfl rfl 29 zeroC MR.out (by kernel_rfl) rfl (by kernel_rfl) ?_))
    obtain ⟨w_1,hw_⟩:∃ w_,wr.setRow gr #[.string C.F.m,.bool C.F.b1,.bool C.F.b2,.bool C.F.b3,.bool C.F.b4,.bool C.F.b5,.bool C.F.b6,.slice S.S.A7 C.F.us.length S.S.c7,.slice S.S.A8 C.F.ms.length S.S.c8,.bool C.F.b9,.slice S.S.A10 C.F.vs.length S.S.c10,.int .i64 R.p,.int .i64 C.mx,.bool true,.int .i64 R.kn,.slice A L.length c,.string R.key,.int .i64 R.df]=w_:=⟨_,rfl⟩
    have hu_:Upd wr w_1 (fun k=>k=gr):=by rw [← hw_];exact Upd.setRow (Upd.refl wr (fun k=>k=gr)) (.inl rfl) _
    have kf_:w_1.heap[gr]?=some (.cells #[.string C.F.m,.bool C.F.b1,.bool C.F.b2,.bool C.F.b3,.bool C.F.b4,.bool C.F.b5,.bool C.F.b6,.slice S.S.A7 C.F.us.length S.S.c7,.slice S.S.A8 C.F.ms.length S.S.c8,.bool C.F.b9,.slice S.S.A10 C.F.vs.length S.S.c10,.int .i64 R.p,.int .i64 C.mx,.bool true,.int .i64 R.kn,.slice A L.length c,.string R.key,.int .i64 R.df] 29 (0,0)):=by rw [← hw_];exact setRow_heap wr gr _ #[.string C.F.m,.bool C.F.b1,.bool C.F.b2,.bool C.F.b3,.bool C.F.b4,.bool C.F.b5,.bool C.F.b6,.slice S.S.A7 C.F.us.length S.S.c7,.slice S.S.A8 C.F.ms.length S.S.c8,.bool C.F.b9,.slice S.S.A10 C.F.vs.length S.S.c10,.int .i64 R.p,.int .i64 C.mx,.bool true,.int .i64 R.kn,.slice A L.length c,.string R.key,.int .i64 R.df] 29 (0,0) MR.out
    rw [hw_]
    clear hw_
    have K2_gr:=amk (kf_)
    have B2:=amk (MB.out.trans (hu_.toBelow (B:=w.heap.size) (fun k hk=>by rw [hk];exact G_gr.out) (MB.out).size))
    have K2_gc:=amk (hu_.blk MC.out (by have:=E_gc_gr.out;omega))
    have K2_gx:=amk (hu_.blk MX.out (by have:=E_gr_gx.out;omega))
    have O2_X:=amk (MO.out.boxT MR.out (by decide) (by decide) hu_)
    clear hu_ MB MC MX MO MR
    clear kf_
    refine bodyPost_ret (res33 _ _ gr _ _ _ _ _ _ _ _ _ _ _ _ _ _ _ _ _ _ _ rfl rfl K2_gr.out) rfl (RprP.of ⟨({ C with kn:=R.kn,tab:=L,key:=R.key,df:=R.df,p:=R.p,on:=true }:Cfg),(⟨S.S,A,c⟩:SlC),true,rfl,fun _=>⟨by rw [← HQ.out];unfold rpS;rw [if_neg C0.out,HRR.out,HLL.out,HBAD.out,if_pos ⟨rfl,HALL.out⟩],⟨FX.refl _ _ _ _ _ rfl rfl rfl,.inr O2_X.out.h⟩⟩,fun e=>by (cases e),B2.out⟩)
   have c1:decide ((i:Int) < (L.length:Int))=true:=decide_eq_true (by omega)
   have c2:decide (i < L.length)=true:=decide_eq_true hc
   have c3:decide (0≤(i:Int))=true:=decide_eq_true (by omega)
   have c4:((i:Int) < (L.length:Int))=True:=eq_true (by omega)
   have c5:(i < L.length)=True:=eq_true hc
   have c6:(0≤(i:Int))=True:=eq_true (by omega)
   obtain ⟨ki,rfl⟩:∃ m,gk=m+1:=⟨gk - 1,by omega⟩
   have rd_:=own_reads_of' (d:=(0:Int)) (enc:=Value.int .i64) MO.out.h
   obtain ⟨ad,had,hcell⟩:=rd_.2.2 (by omega)
   have hcl0:=hcell i hc
   obtain ⟨x,hx⟩:∃ x,L.getD i 0=x:=⟨_,rfl⟩
   rw [hx] at hcl0
   have hxi:L[i]=x:=by rw [← hx,List.getD_eq_getElem?_getD,List.getElem?_eq_getElem hc];rfl
   have HXI:=amk hxi
   have HC:=amk hc
   have HWI:=amk wi
   subst had
   clear rd_ hcell hx hkk hxi
   have qc1:wr.cell? ⟨gx,1,none⟩=some (.slice (some ad) L.length c):=(bkc MX.out 1).trans rfl
   go_upto_region 16 with fail
   clear qc1
   refine start_ (n:=8) (S:=fun w'=>w'.cell? ⟨gx,1,none⟩=some (.slice (some ad) L.length c)∧w'.cell? ⟨gc,12,none⟩=some (.int .i64 C.mx)∧w'.cell? (ad.add i)=some (.int .i64 x)∧Below wr.heap.size wr w') (ds:=[]) (bsq 8 0) (by kernel_rfl) rfl rfl ⟨(bkc MX.out 1).trans rfl,(bkc MC.out 12).trans rfl,hcl0,bwd (Below.refl _ _)⟩ (fun hHeld=>?_)
   refine pure_ (i:=0) (N:=some 80) (v:=?_) (a':=?_) (bsq 8 1) rfl rfl (by kernel_rfl) (fun _ _ _ h=>h) (Or.inl ⟨by rfl,?_⟩) ?_ ?_
   rotate_left
   ·intro w'
    go_simp
    with_reducible rfl
   rotate_left
   ·simp only [Act.put,bq1,bq2,bq3,i64_w,i32_w]
    rfl
   refine pure_ (i:=2) (N:=some 82) (v:=?_) (a':=?_) (bsq 8 5) rfl rfl (by kernel_rfl) (fun _ _ _ h=>h) (Or.inl ⟨by rfl,?_⟩) ?_ ?_
   rotate_left
   ·intro w'
    go_simp
    with_reducible rfl
   rotate_left
   ·simp only [Act.put,bq1,bq2,bq3,i64_w,i32_w]
    rfl
   refine pure_ (i:=5) (N:=some 85) (v:=?_) (a':=?_) (bsq 8 37) rfl rfl (by kernel_rfl) (fun _ _ _ h=>h) (Or.inl ⟨by rfl,?_⟩) ?_ ?_
   rotate_left
   ·intro w'
    go_simp
    with_reducible rfl
   rotate_left
   ·simp only [Act.put,bq1,bq2,bq3,i64_w,i32_w]
    rfl
   refine take_ (i:=1) (N:=some 81) (v:=?_) (a':=?_) (bsq 8 39) rfl rfl (by kernel_rfl) (fun _ _ _ h=>h) (Or.inl ⟨by rfl,?_⟩) hHeld ?_ ?_
   rotate_left
   ·rintro w' ⟨s0,s1,s2,s3⟩
    go_simp
    with_reducible rfl
   rotate_left
   ·simp only [Act.put,bq1,bq2,bq3,i64_w,i32_w]
    rfl
   refine pure_ (i:=3) (N:=some 83) (v:=?_) (a':=?_) (bsq 8 47) rfl rfl (by kernel_rfl) (fun _ _ _ h=>h) (Or.inl ⟨by rfl,?_⟩) ?_ ?_
   rotate_left
   ·intro w'
    go_simp
    with_reducible rfl
   rotate_left
   ·simp only [Act.put,bq1,bq2,bq3,i64_w,i32_w]
    rfl
   refine take_ (i:=4) (N:=some 84) (v:=?_) (a':=?_) (bsq 8 63) rfl rfl (by kernel_rfl) (fun _ _ _ h=>h) (Or.inl ⟨by rfl,?_⟩) hHeld ?_ ?_
   rotate_left
   ·rintro w' ⟨s0,s1,s2,s3⟩
    go_simp
    with_reducible rfl
   rotate_left
   ·simp only [Act.put,bq1,bq2,bq3,i64_w,i32_w]
    rfl
   refine take_ (i:=6) (N:=some 86) (v:=?_) (a':=?_) (bsq 8 127) rfl rfl (by kernel_rfl) (fun _ _ _ h=>h) (Or.inl ⟨by rfl,?_⟩) hHeld ?_ ?_
   rotate_left
   ·rintro w' ⟨s0,s1,s2,s3⟩
    go_simp
    with_reducible rfl
   rotate_left
   ·simp only [Act.put,bq1,bq2,bq3,i64_w,i32_w]
    rfl
   refine pure_ (i:=7) (N:=some 87) (v:=?_) (a':=?_) (bsq 8 255) rfl rfl (by kernel_rfl) (fun _ _ _ h=>h) (Or.inl ⟨by rfl,?_⟩) ?_ ?_
   rotate_left
   ·intro w'
    go_simp
    with_reducible rfl
   rotate_left
   ·simp only [Act.put,bq1,bq2,bq3,i64_w,i32_w]
    rfl
   refine done_ (by kernel_rfl) ?_
   have hb_:=bwd (Below.refl wr.heap.size wr)
   obtain ⟨w_1,hw_⟩:∃ x,wr.drew=x:=⟨_,rfl⟩
   rw [hw_] at hb_ ⊢
   clear hw_
   have hL2:=amk (bws hL.out hb_)
   have B2:=amk (bws MB.out hb_)
   have K2_gc:=amk (bkb MC.out hb_)
   have K2_gr:=amk (bkb MR.out hb_)
   have K2_gx:=amk (bkb MX.out hb_)
   have O2_X:=amk (MO.out.below hb_)
   clear hb_ MB MC MR MX MO
   cases hxm:decide (x ≥ C.mx)
   rotate_left
   ·have HXM:=amk (of_decide_eq_true hxm)
    go_wp2_with (first | (refine wpList_load_row rfl 29 (.tmp 3) rfl gc rfl 29 #[.string C.F.m,.bool C.F.b1,.bool C.F.b2,.bool C.F.b3,.bool C.F.b4,.bool C.F.b5,.bool C.F.b6,.slice S.S.A7 C.F.us.length S.S.c7,.slice S.S.A8 C.F.ms.length S.S.c8,.bool C.F.b9,.slice S.S.A10 C.F.vs.length S.S.c10,.int .i64 R.p,.int .i64 C.mx,.bool true,.int .i64 R.kn,.slice (some ad) L.length c,.string R.key,.int .i64 R.df] (0,0) _ K2_gc.out Try.underlying29 rfl (by kernel_rfl) ?_) | (refine wpList_store_row rfl 29 (.tmp 6) (.tmp 88) rfl gr #[.string C.F.m,.bool C.F.b1,.bool C.F.b2,.bool C.F.b3,.bool C.F.b4,.bool C.F.b5,.bool C.F.b6,.slice S.S.A7 C.F.us.length S.S.c7,.slice S.S.A8 C.F.ms.length S.S.c8,.bool C.F.b9,.slice S.S.A10 C.F.vs.length S.S.c10,.int .i64 R.p,.int .i64 C.mx,.bool true,.int .i64 R.kn,.slice (some ad) L.length c,.string R.key,.int .i64 R.df] rfl rfl 29 zeroC K2_gr.out (by kernel_rfl) rfl (by kernel_rfl) ?_))
    obtain ⟨w_3,hw_⟩:∃ w_,w_1.setRow gr #[.string C.F.m,.bool C.F.b1,.bool C.F.b2,.bool C.F.b3,.bool C.F.b4,.bool C.F.b5,.bool C.F.b6,.slice S.S.A7 C.F.us.length S.S.c7,.slice S.S.A8 C.F.ms.length S.S.c8,.bool C.F.b9,.slice S.S.A10 C.F.vs.length S.S.c10,.int .i64 R.p,.int .i64 C.mx,.bool true,.int .i64 R.kn,.slice (some ad) L.length c,.string R.key,.int .i64 R.df]=w_:=⟨_,rfl⟩
    have hu_:Upd w_1 w_3 (fun k=>k=gr):=by rw [← hw_];exact Upd.setRow (Upd.refl w_1 (fun k=>k=gr)) (.inl rfl) _
    have kf_:w_3.heap[gr]?=some (.cells #[.string C.F.m,.bool C.F.b1,.bool C.F.b2,.bool C.F.b3,.bool C.F.b4,.bool C.F.b5,.bool C.F.b6,.slice S.S.A7 C.F.us.length S.S.c7,.slice S.S.A8 C.F.ms.length S.S.c8,.bool C.F.b9,.slice S.S.A10 C.F.vs.length S.S.c10,.int .i64 R.p,.int .i64 C.mx,.bool true,.int .i64 R.kn,.slice (some ad) L.length c,.string R.key,.int .i64 R.df] 29 (0,0)):=by rw [← hw_];exact setRow_heap w_1 gr _ #[.string C.F.m,.bool C.F.b1,.bool C.F.b2,.bool C.F.b3,.bool C.F.b4,.bool C.F.b5,.bool C.F.b6,.slice S.S.A7 C.F.us.length S.S.c7,.slice S.S.A8 C.F.ms.length S.S.c8,.bool C.F.b9,.slice S.S.A10 C.F.vs.length S.S.c10,.int .i64 R.p,.int .i64 C.mx,.bool true,.int .i64 R.kn,.slice (some ad) L.length c,.string R.key,.int .i64 R.df] 29 (0,0) K2_gr.out
    rw [hw_]
    clear hw_
    have K4_gr:=amk (kf_)
    have B4:=amk (B2.out.trans (hu_.toBelow (B:=w.heap.size) (fun k hk=>by rw [hk];exact G_gr.out) (B2.out).size))
    have K4_gc:=amk (hu_.blk K2_gc.out (by have:=E_gc_gr.out;omega))
    have K4_gx:=amk (hu_.blk K2_gx.out (by have:=E_gr_gx.out;omega))
    have O4_X:=amk (O2_X.out.boxT K2_gr.out (by decide) (by decide) hu_)
    clear hu_ B2 K2_gc K2_gx O2_X K2_gr
    clear kf_
    refine bodyPost_ret (res33 _ _ gr _ _ _ _ _ _ _ _ _ _ _ _ _ _ _ _ _ _ _ rfl rfl K4_gr.out) rfl (RprP.of ⟨({ C with kn:=R.kn,tab:=L,key:=R.key,df:=R.df,p:=R.p,on:=true }:Cfg),(⟨S.S,some ad,c⟩:SlC),false,rfl,fun e=>by (cases e),fun _=>by rw [← HQ.out];unfold rpS;rw [if_neg C0.out,HRR.out,HLL.out,HBAD.out,if_neg (fun q=>by have q2:=List.all_eq_true.1 q.2 x (by have:=HXI.out;have:=HC.out;rw [← HXI.out];exact List.getElem_mem HC.out);have q3:=of_decide_eq_true q2;have:=HXM.out;omega)],B4.out⟩)
   have HXM:=amk (of_decide_eq_false hxm)
   clear wi
   have wi:=HWI.out
   go_wp2_with fail
   try rw [wi]
   go_roundg ki
   case measure=>omega
   case rel=>exact ⟨i+1,rfl,⟨by have:=hk.out;omega⟩,⟨fun j hj hji=>by
    by_cases hij:j < i
    ·exact HJ.out j hj hij
    ·have e:j=i:=by omega
     subst e
     rw [HXI.out]
     have:=HXM.out
     omega⟩,hL2⟩
end Go.Proofs.Ytkgbhlcbjflnlaa.Fl
