/- Commands and settings: contracts by hand, and the laws over them. -/
import Derived.Test.YtkgbhlcbjflnlaaZOwn
import Derived.Test.YtkgbhlcbjflnlaaZDoes
namespace Go.Proofs.Ytkgbhlcbjflnlaa.Fl
open Go Go.RowKit Go.Proofs.YtkgbhlcbjflnlaaW.PrintWords Go.Proofs.YtkgbhlcbjflnlaaW.PrintLast Go.Proofs.YtkgbhlcbjflnlaaW.PrintMore Go.Proofs.Ytkgbhlcbjflnlaa.Mth Go.Proofs.Ytkgbhlcbjflnlaa.P Go.Proofs.Ytkgbhlcbjflnlaa.Own Go.Proofs
set_option linter.unusedVariables false
set_option linter.unusedSimpArgs false
/-- What a command's bytes make of settings, and the answer. -/
def chkF (F:Flt):Int:=checkS F.m F.us F.ms F.vs
def appS (C:Cfg) (s:ByteArray):Cfg × Int:=if (doesS C (s,false)).2=true∧chkF (doesS C (s,false)).1.F=0 then ((doesS C (s,false)).1,0) else (C,1)
theorem res11 (tmps:Array Value) (w:World) (g:Nat) (c0 c1 c2 c3 c4 c5 c6 c7 c8 c9 c10 c11 c12 c13 c14 c15 c16 c17 m5:Value) (hp:tmps.getD 4 undef=.pointer (some ⟨g,0,none⟩)) (h5:tmps.getD 5 undef=m5) (hg:w.heap[g]?=some (.cells #[c0,c1,c2,c3,c4,c5,c6,c7,c8,c9,c10,c11,c12,c13,c14,c15,c16,c17] 29 (0,0))) :
  (results Try.f11 tmps).run Try.prog w=.ok (.tuple #[.agg #[c0,c1,c2,c3,c4,c5,c6,c7,c8,c9,c10,c11,c12,c13,c14,c15,c16,c17],m5]) w:=by
 have q_:tmps[4]?.getD undef=.pointer (some ⟨g,0,none⟩):=by simpa using hp
 have r5:tmps[5]?.getD undef=m5:=by simpa using h5
 have l_:=run_loadVar_row (P:=Try.prog) w g 29 29 _ (0,0) _ hg Try.underlying29 rfl (by kernel_rfl)
 simp [results,Try.results11,q_,r5,asAddr,l_]
set_option maxHeartbeats 16000000 in
set_option maxRecDepth 100000 in
theorem apply_c (C:Cfg) (S:SlC) (s:ByteArray) (w:World) (h:CV w C S) (hs:SmallC C):Calls Try.prog 11 #[.agg (cellsC C S),.string s] w fun e w'=>∃ S',e=.returned (.tuple #[.agg (cellsC (appS C s).1 S'),.int .i64 (appS C s).2])∧OC w.heap.size w' (appS C s).1 S'∧Below w.heap.size w w':=by
 unfold appS
 obtain ⟨⟨D,ok⟩,ed⟩:∃ x,doesS C (s,false)=x:=⟨_,rfl⟩
 have ND:=fun W0 g S w hb hg hI ho hs=>does_c W0 g C S (s,false) w hb hg hI ho hs
 rw [ed] at ND ⊢
 dsimp only at ND ⊢
 have HV:=amk h
 have HS:=amk hs
 obtain ⟨z,hz⟩:∃ z,chkF D.F=z:=⟨_,rfl⟩
 have NC:∀ (S:Sl) (w:World),FV w D.F S→Calls Try.prog 18 #[.agg (cellsF D.F S)] w fun e w'=>e=.returned (.int .i64 z)∧Below w.heap.size w w':=fun S w h=>by
  rw [← hz]
  exact check_f D.F S w h
 rw [hz]
 obtain ⟨R,hR⟩:∃ R,(if ok=true∧z=0 then (D,0) else (C,1):Cfg × Int)=R:=⟨_,rfl⟩
 rw [hR]
 have HR:=amk hR
 clear h hs ed hz hR
 have hu25:=Try.underlying25
 have hu27:=Try.underlying27
 have hu29:=Try.underlying29
 go_enter Try.func11,Try.ntmps11
 go_upto_region 1 with (fail)
 obtain ⟨w_1,hw_g1⟩:∃ w_,w.alloc (.cells (cellsC C S) 29)=w_:=⟨_,rfl⟩
 rw [hw_g1]
 obtain ⟨w_2,hw_g2⟩:∃ w_,w_1.alloc (.cells zeroC 29)=w_:=⟨_,rfl⟩
 rw [hw_g2]
 have z_g1:w_1.heap.size=w.heap.size+1:=by rw [← hw_g1];simp
 have ha_:Below w.heap.size w w_1:=by rw [← hw_g1];exact bwa (Below.refl _ _) _
 have BX1:Aside0 (w_1.heap[w.heap.size]?=some (.cells (cellsC C S) 29 (0,0))):=⟨by rw [← hw_g1];exact blk_new w _⟩
 have hgB:w.heap.size≤w.heap.size:=((Below.refl w.heap.size w)).size
 clear hw_g1
 obtain ⟨g1,hg_⟩:∃ g_,w.heap.size=g_:=⟨_,rfl⟩
 have G_g1:Aside0 (w.heap.size≤g1):=⟨Nat.le_trans hgB (Nat.le_of_eq hg_)⟩
 rw [hg_] at BX1 z_g1
 (try rw [hg_])
 clear hgB
 clear hg_
 have B3:=amk (bws (Below.refl w.heap.size w) ha_)
 clear ha_ 
 have z_g2:w_2.heap.size=w_1.heap.size+1:=by rw [← hw_g2];simp
 have ha_:Below w_1.heap.size w_1 w_2:=by rw [← hw_g2];exact bwa (Below.refl _ _) _
 have BX2:Aside0 (w_2.heap[w_1.heap.size]?=some (.cells zeroC 29 (0,0))):=⟨by rw [← hw_g2];exact blk_new w_1 _⟩
 have hgB:w.heap.size≤w_1.heap.size:=(B3.out).size
 have hl_g1:g1 < w_1.heap.size:=blk_lt BX1.out
 clear hw_g2
 obtain ⟨g2,hg_⟩:∃ g_,w_1.heap.size=g_:=⟨_,rfl⟩
 have G_g2:Aside0 (w.heap.size≤g2):=⟨Nat.le_trans hgB (Nat.le_of_eq hg_)⟩
 rw [hg_] at BX2 z_g2 hl_g1
 have E_g1_g2:=amk hl_g1
 clear hl_g1
 (try rw [hg_])
 clear hgB
 have zz_:g1+1=g2:=by omega
 (try rw [zz_])
 clear zz_
 clear hg_
 have B4:=amk (bws B3.out ha_)
 have K4_g1:=amk (bkb BX1.out ha_)
 clear ha_ B3 BX1
 clear z_g1 z_g2
 go_upto_region 2 with fail
 have BY:Aside0 (Below w_2.heap.size w_2 (w_2.alloc (.cells #[.string s,.bool false] 64))):=⟨bwa (Below.refl _ _) _⟩
 have KG:Aside0 ((w_2.alloc (.cells #[.string s,.bool false] 64)).heap[w_2.heap.size]?=some (.cells #[.string s,.bool false] 64 (0,0))):=⟨blk_new w_2 _⟩
 obtain ⟨wy,hwy⟩:∃ x,w_2.alloc (.cells #[.string s,.bool false] 64)=x:=⟨_,rfl⟩
 rw [hwy] at BY KG ⊢
 clear hwy
 go_wp2_with (refine wpList_load_row rfl 29 (.tmp 2) rfl g1 rfl 29 (cellsC C S) (0,0) _ (bkb K4_g1.out BY.out) Try.underlying29 rfl (by kernel_rfl) ?_)
 refine (copied_c C S _ ((HV.out.below B4.out).below BY.out) HS.out).mono ?_
 rintro e wx ⟨S1,rfl,ho,hb⟩
 have BX:=amk (bws BY.out hb)
 have O1:=amk (ho.weaken BY.out.size)
 have KX:=amk (bkb KG.out hb)
 clear ho hb KG BY
 go_wp2_with fail
 refine (ND w_2 w_2.heap.size S1 wx BX.out (Nat.le_refl _) KX.out O1.out HS.out).mono ?_
 rintro e wv ⟨S2,rfl,ho,hb⟩
 have BV:=amk hb
 have O2:=amk ho
 clear ho hb KX BX O1 ND
 go_upto_region 3 with (refine wpList_store_row rfl 29 (.tmp 7) (.tmp 17) rfl wv.heap.size (cellsC D S2) rfl rfl 29 zeroC (blk_new wv _) (by kernel_rfl) rfl (by kernel_rfl) ?_)
 obtain ⟨wu,hwu⟩:∃ x,(wv.alloc (.cells zeroC 29)).setRow wv.heap.size (cellsC D S2)=x:=⟨_,rfl⟩
 have BU:Aside0 (Below wv.heap.size wv wu):=⟨by
  rw [← hwu]
  exact (bwa (Below.refl _ _) _).trans ((Upd.setRow (Upd.refl (wv.alloc (.cells zeroC 29)) (fun k=>k=wv.heap.size)) (.inl rfl) (cellsC D S2)).toBelow (B:=wv.heap.size) (fun k hk=>by rw [hk];exact Nat.le_refl _) (by simp))⟩
 have KU:Aside0 (wu.heap[wv.heap.size]?=some (.cells (cellsC D S2) 29 (0,0))):=⟨by rw [← hwu];exact setRow_heap _ wv.heap.size _ (cellsC D S2) 29 (0,0) (blk_new wv _)⟩
 rw [hwu]
 clear hwu
 have BZ:=amk (bws BV.out BU.out)
 have O3:=amk (O2.out.below BU.out)
 clear O2
 have FIN:∀ (CC:Cfg) (SS:SlC) (W:World),Below w_2.heap.size w_2 W→OC w_2.heap.size W CC SS→(W.setRow g2 (cellsC CC SS)).heap[g2]?=some (.cells (cellsC CC SS) 29 (0,0))∧OC w.heap.size (W.setRow g2 (cellsC CC SS)) CC SS∧Below w.heap.size w (W.setRow g2 (cellsC CC SS)):=by
  intro CC SS W hb ho
  have k2:=bkb BX2.out hb
  have hu:Upd W (W.setRow g2 (cellsC CC SS)) (fun k=>k=g2):=Upd.setRow (Upd.refl W (fun k=>k=g2)) (.inl rfl) _
  exact ⟨setRow_heap W g2 _ _ 29 (0,0) k2,(ho.boxT k2 (by decide) (by decide) hu).weaken B4.out.size,(bws B4.out hb).trans (hu.toBelow (B:=w.heap.size) (fun k hk=>by rw [hk];exact G_g2.out) (bws B4.out hb).size)⟩
 have BACK:∀ W,Below w_2.heap.size w_2 W→W.heap[g1]?=some (.cells (cellsC C S) 29 (0,0)):=fun W hb=>bkb K4_g1.out hb
 have HF:=amk FIN
 have HK:=amk BACK
 clear FIN BACK
 cases ok
 ·go_wp2_with (refine wpList_load_row rfl 29 (.tmp 2) rfl g1 rfl 29 (cellsC C S) (0,0) _ (HK.out _ BZ.out) Try.underlying29 rfl (by kernel_rfl) ?_)
  refine (copied_c C S _ ((HV.out.below B4.out).below BZ.out) HS.out).mono ?_
  rintro e wt ⟨S3,rfl,ho,hb⟩
  have BT:=amk (bws BZ.out hb)
  have O4:=amk (ho.weaken BZ.out.size)
  clear ho hb
  go_wp2_with (refine wpList_store_row rfl 29 (.tmp 4) (.tmp 28) rfl g2 (cellsC C S3) rfl rfl 29 zeroC (bkb BX2.out BT.out) (by kernel_rfl) rfl (by kernel_rfl) ?_)
  have er:R=(C,1):=by rw [← HR.out];exact if_neg (fun h=>Bool.false_ne_true h.1)
  subst er
  refine bodyPost_ret (res11 _ _ g2 _ _ _ _ _ _ _ _ _ _ _ _ _ _ _ _ _ _ _ rfl rfl (HF.out C S3 _ BT.out O4.out).1) rfl ?_
  exact ⟨S3,rfl,(HF.out C S3 _ BT.out O4.out).2⟩
 ·go_wp2_with (refine wpList_load_part_g (by rfl) 25 (.tmp 22) rfl wv.heap.size 0 rfl 29 (cellsC D S2) (cellsF D.F S2.S) (0,0) _ KU.out Try.underlying25 rfl (by kernel_rfl) rfl ?_)
  refine (NC S2.S wu O3.out.cv.f).mono ?_
  rintro e ws ⟨rfl,hb⟩
  have BS:=amk (bws BZ.out hb)
  have O5:=amk (O3.out.below hb)
  have KS:=amk (bkb KU.out hb)
  clear hb NC KU O3
  by_cases c:z=0
  ·subst c
   go_wp2_with (first | (refine wpList_load_row rfl 29 (.tmp 7) rfl wv.heap.size rfl 29 (cellsC D S2) (0,0) _ KS.out Try.underlying29 rfl (by kernel_rfl) ?_) | (refine wpList_store_row rfl 29 (.tmp 4) (.tmp 29) rfl g2 (cellsC D S2) rfl rfl 29 zeroC (bkb BX2.out BS.out) (by kernel_rfl) rfl (by kernel_rfl) ?_))
   have er:R=(D,0):=by rw [← HR.out];simp
   subst er
   refine bodyPost_ret (res11 _ _ g2 _ _ _ _ _ _ _ _ _ _ _ _ _ _ _ _ _ _ _ rfl rfl (HF.out D S2 _ BS.out O5.out).1) rfl ?_
   exact ⟨S2,rfl,(HF.out D S2 _ BS.out O5.out).2⟩
  ·have hne:(z != 0)=true:=bne_iff_ne.2 c
   go_wp2_with (refine wpList_load_row rfl 29 (.tmp 2) rfl g1 rfl 29 (cellsC C S) (0,0) _ (HK.out _ BS.out) Try.underlying29 rfl (by kernel_rfl) ?_)
   refine (copied_c C S _ ((HV.out.below B4.out).below BS.out) HS.out).mono ?_
   rintro e wt ⟨S3,rfl,ho,hb⟩
   have BT:=amk (bws BS.out hb)
   have O4:=amk (ho.weaken BS.out.size)
   clear ho hb
   go_wp2_with (refine wpList_store_row rfl 29 (.tmp 4) (.tmp 28) rfl g2 (cellsC C S3) rfl rfl 29 zeroC (bkb BX2.out BT.out) (by kernel_rfl) rfl (by kernel_rfl) ?_)
   have er:R=(C,1):=by rw [← HR.out];exact if_neg (fun h=>c h.2)
   subst er
   refine bodyPost_ret (res11 _ _ g2 _ _ _ _ _ _ _ _ _ _ _ _ _ _ _ _ _ _ _ rfl rfl (HF.out C S3 _ BT.out O4.out).1) rfl ?_
   exact ⟨S3,rfl,(HF.out C S3 _ BT.out O4.out).2⟩
end Go.Proofs.Ytkgbhlcbjflnlaa.Fl
