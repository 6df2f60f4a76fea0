/- Commands and settings: contracts by hand, and the laws over them. -/
import Derived.Test.YtkgbhlcbjflnlaaZG1
import Derived.Test.YtkgbhlcbjflnlaaZRnum
import Derived.Test.YtkgbhlcbjflnlaaZG20
import Derived.Test.YtkgbhlcbjflnlaaZG35
import Derived.Test.YtkgbhlcbjflnlaaZBs
namespace Go.Proofs.Ytkgbhlcbjflnlaa.Fl
open Go Go.RowKit Go.Proofs.YtkgbhlcbjflnlaaW.PrintWords Go.Proofs.YtkgbhlcbjflnlaaW.PrintLast Go.Proofs.YtkgbhlcbjflnlaaW.PrintMore Go.Proofs.Ytkgbhlcbjflnlaa.Mth Go.Proofs.Ytkgbhlcbjflnlaa.P Go.Proofs.Ytkgbhlcbjflnlaa.Own Go.Proofs
set_option linter.unusedVariables false
set_option linter.unusedSimpArgs false
/-! ### The document's rules of a command -/
structure RR where
 kn:Int
 tab:List Nat
 key:ByteArray
 df:Int
 p:Int
 ok:Bool
def numsAt (t:ByteArray) (n:Nat):List Nat:=(List.range n).map fun i=>nat t (2 * i) 2
theorem numsAt_len (t:ByteArray) (n:Nat):(numsAt t n).length=n:=by unfold numsAt;rw [List.length_map,List.length_range]
theorem numsAt_succ (t:ByteArray) (n:Nat):numsAt t (n+1)=numsAt t n ++ [nat t (2 * n) 2]:=by unfold numsAt;rw [List.range_succ,List.map_append];rfl
theorem intsOf_one (l:List Nat) (a:Nat):intsOf (l ++ [a])=intsOf l ++ [(a:Int)]:=by unfold intsOf;rw [List.map_append];rfl
def rrS (s:ByteArray):RR :=
 if s.size < 8 then ⟨0,[],⟨#[]⟩,0,0,false⟩ else
 if (s.extract 8 s.size).size < 2 * (nat s 4 2+1)+3 then ⟨nat s 0 4,[],⟨#[]⟩,nat s 6 2,0,false⟩ else
 ⟨nat s 0 4,numsAt (s.extract 8 s.size) (nat s 4 2+1),(s.extract 8 s.size).extract (2 * (nat s 4 2+1)+3) (s.extract 8 s.size).size,nat s 6 2,nat (s.extract 8 s.size) (2 * (nat s 4 2+1)) 2,
  decide (((s.extract 8 s.size).extract (2 * (nat s 4 2+1)+3) (s.extract 8 s.size).size).size=nat (s.extract 8 s.size) (2 * (nat s 4 2+1)+2) 1)⟩
theorem rnum_c (s:ByteArray) (at' n:Nat) (hn:n≤4) (hs:at'+n≤s.size) (hb:s.size≤1099511627776) (w:World):Calls Try.prog 32 #[.string s,.int .i64 at',.int .i64 n] w fun e w'=>e=.returned (.int .i64 (nat s at' n:Nat))∧Below w.heap.size w w':=by
 refine (aqueductref17_Num.calls 10 s at' n _ w (rnum_spec s at' n hn hs hb 10 (Nat.le_refl _))).mono ?_
 rintro e w' ⟨rfl,hd⟩
 exact ⟨rfl,by first | exact hd | exact hd.below | (obtain ⟨q,hq⟩:=hd.out;rw [hq];exact pwd (Below.refl _ _) q)⟩
theorem nat_lt (s:ByteArray) (at' n:Nat):nat s at' n < 256 ^ n:=le_bound (((B_bt s).drop at').take n) (by rw [List.length_take];omega)
theorem res48 (tmps:Array Value) (w:World) (g:Nat) (c0 c1 c2 c3 m3 m4:Value) (hp:tmps.getD 2 undef=.pointer (some ⟨g,0,none⟩)) (h3:tmps.getD 3 undef=m3) (h4:tmps.getD 4 undef=m4) (hg:w.heap[g]?=some (.cells #[c0,c1,c2,c3] 27 (0,0))) :
  (results Try.f48 tmps).run Try.prog w=.ok (.tuple #[.agg #[c0,c1,c2,c3],m3,m4]) w:=by
 have q_:tmps[2]?.getD undef=.pointer (some ⟨g,0,none⟩):=by simpa using hp
 have r3:tmps[3]?.getD undef=m3:=by simpa using h3
 have r4:tmps[4]?.getD undef=m4:=by simpa using h4
 have l_:=run_loadVar_row (P:=Try.prog) w g 27 27 _ (0,0) _ hg Try.underlying27 rfl (by kernel_rfl)
 simp [results,Try.results48,q_,r3,r4,asAddr,l_]
set_option maxHeartbeats 16000000 in
set_option maxRecDepth 100000 in
theorem rru_c (s:ByteArray) (w:World) (hsz:s.size≤1099511627776) :
  Calls Try.prog 48 #[.string s] w fun e w'=>∃ A c,e=.returned (.tuple #[.agg #[.int .i64 (rrS s).kn,.slice A (rrS s).tab.length c,.string (rrS s).key,.int .i64 (rrS s).df],.int .i64 (rrS s).p,.bool (rrS s).ok])∧w'.ownsRow w.heap.size 3 1 (.slice A (rrS s).tab.length c) (rrS s).tab.length (encs (Value.int .i64) (intsOf (rrS s).tab))∧Below w.heap.size w w':=by
 obtain ⟨R,hR⟩:∃ R,rrS s=R:=⟨_,rfl⟩
 rw [hR]
 have HR:=amk hR
 have HZ:=amk hsz
 clear hR hsz
 have hu27:=Try.underlying27
 go_enter Try.func48,Try.ntmps48
 have hu23:=Try.underlying23
 go_upto_region 1 with (fail)
 obtain ⟨w_1,hw_gr⟩:∃ w_,w.alloc (.cells #[.int .i64 0,.slice none 0 0,.string ⟨#[]⟩,.int .i64 0] 27)=w_:=⟨_,rfl⟩
 rw [hw_gr]
 have z_gr:w_1.heap.size=w.heap.size+1:=by rw [← hw_gr];simp
 have ha_:Below w.heap.size w w_1:=by rw [← hw_gr];exact bwa (Below.refl _ _) _
 have BX1:Aside0 (w_1.heap[w.heap.size]?=some (.cells #[.int .i64 0,.slice none 0 0,.string ⟨#[]⟩,.int .i64 0] 27 (0,0))):=⟨by rw [← hw_gr];exact blk_new w _⟩
 have hgB:w.heap.size≤w.heap.size:=((Below.refl w.heap.size w)).size
 clear hw_gr
 obtain ⟨gr,hg_⟩:∃ g_,w.heap.size=g_:=⟨_,rfl⟩
 have G_gr:Aside0 (w.heap.size≤gr):=⟨Nat.le_trans hgB (Nat.le_of_eq hg_)⟩
 rw [hg_] at BX1 z_gr
 (try rw [hg_])
 clear hgB
 clear hg_
 have B2:=amk (bws (Below.refl w.heap.size w) ha_)
 clear ha_ 
 clear z_gr
 go_upto_region 2 with (refine wpList_store_row rfl 27 (.tmp 5) (.tmp 10) rfl w_1.heap.size #[.int .i64 0,.slice none 0 0,.string ⟨#[]⟩,.int .i64 0] rfl rfl 27 #[.int .i64 0,.slice none 0 0,.string ⟨#[]⟩,.int .i64 0] (blk_new w_1 _) (by kernel_rfl) rfl (by kernel_rfl) ?_)
 obtain ⟨w_3,hw_⟩:∃ x,(w_1.alloc (.cells #[.int .i64 0,.slice none 0 0,.string ⟨#[]⟩,.int .i64 0] 27)).setRow w_1.heap.size #[.int .i64 0,.slice none 0 0,.string ⟨#[]⟩,.int .i64 0]=x:=⟨_,rfl⟩
 have hb_:Below w_1.heap.size w_1 w_3:=by
  rw [← hw_]
  exact (bwa (Below.refl _ _) _).trans ((Upd.setRow (Upd.refl (w_1.alloc (.cells #[.int .i64 0,.slice none 0 0,.string ⟨#[]⟩,.int .i64 0] 27)) (fun k=>k=w_1.heap.size)) (.inl rfl) #[.int .i64 0,.slice none 0 0,.string ⟨#[]⟩,.int .i64 0]).toBelow (B:=w_1.heap.size) (fun k hk=>by rw [hk];exact Nat.le_refl _) (by simp))
 have hblk_:w_3.heap[w_1.heap.size]?=some (.cells #[.int .i64 0,.slice none 0 0,.string ⟨#[]⟩,.int .i64 0] 27 (0,0)):=by
  rw [← hw_]
  exact setRow_heap _ w_1.heap.size _ #[.int .i64 0,.slice none 0 0,.string ⟨#[]⟩,.int .i64 0] 27 (0,0) (blk_new w_1 _)
 rw [hw_]
 clear hw_
 obtain ⟨gx,hg_⟩:∃ x,w_1.heap.size=x:=⟨_,rfl⟩
 rw [hg_] at hblk_
 have hge_:w_1.heap.size≤gx:=Nat.le_of_eq hg_
 (try rw [hg_])
 clear hg_
 have E_gr_gx:=amk (Nat.lt_of_lt_of_le (blk_lt BX1.out) hge_)
 have G_gx:=amk (Nat.le_trans (B2.out).size hge_)
 have BX_gx:=amk hblk_
 have B4:=amk (bws B2.out hb_)
 have K4_gr:=amk (bkb BX1.out hb_)
 clear hb_ B2 BX1
 clear hblk_ hge_
 by_cases h8:s.size < 8
 ·have d8:decide ((s.size:Int) < 8)=true:=decide_eq_true (by omega)
  have H8:=amk h8
  clear h8
  go_wp2_with (first | (refine wpList_load_row rfl 27 (.tmp 5) rfl gx rfl 27 #[.int .i64 0,.slice none 0 0,.string ⟨#[]⟩,.int .i64 0] (0,0) _ BX_gx.out Try.underlying27 rfl (by kernel_rfl) ?_) | (refine wpList_store_row rfl 27 (.tmp 2) (.tmp 14) rfl gr #[.int .i64 0,.slice none 0 0,.string ⟨#[]⟩,.int .i64 0] rfl rfl 27 #[.int .i64 0,.slice none 0 0,.string ⟨#[]⟩,.int .i64 0] K4_gr.out (by kernel_rfl) rfl (by kernel_rfl) ?_))
  obtain ⟨w_5,hw_⟩:∃ w_,w_3.setRow gr #[.int .i64 0,.slice none 0 0,.string ⟨#[]⟩,.int .i64 0]=w_:=⟨_,rfl⟩
  have hu_:Upd w_3 w_5 (fun k=>k=gr):=by rw [← hw_];exact Upd.setRow (Upd.refl w_3 (fun k=>k=gr)) (.inl rfl) _
  have kf_:w_5.heap[gr]?=some (.cells #[.int .i64 0,.slice none 0 0,.string ⟨#[]⟩,.int .i64 0] 27 (0,0)):=by rw [← hw_];exact setRow_heap w_3 gr _ #[.int .i64 0,.slice none 0 0,.string ⟨#[]⟩,.int .i64 0] 27 (0,0) K4_gr.out
  rw [hw_]
  clear hw_
  have K6_gr:=amk (kf_)
  have B6:=amk (B4.out.trans (hu_.toBelow (B:=w.heap.size) (fun k hk=>by rw [hk];exact G_gr.out) (B4.out).size))
  have K6_gx:=amk (hu_.blk BX_gx.out (by have:=E_gr_gx.out;omega))
  clear hu_ B4 BX_gx K4_gr
  clear kf_
  have er:R=⟨0,[],⟨#[]⟩,0,0,false⟩:=by rw [← HR.out];unfold rrS;rw [if_pos H8.out]
  subst er
  refine bodyPost_ret (res48 _ _ gr _ _ _ _ _ _ rfl rfl rfl K6_gr.out) rfl ⟨none,0,rfl,own_nil _ _ _ _,B6.out⟩
 have d8:decide ((s.size:Int) < 8)=false:=decide_eq_false (by omega)
 obtain ⟨a4,ha4⟩:∃ a,nat s 4 2=a:=⟨_,rfl⟩
 obtain ⟨k0,hk0⟩:∃ a,nat s 0 4=a:=⟨_,rfl⟩
 obtain ⟨d6,hd6⟩:∃ a,nat s 6 2=a:=⟨_,rfl⟩
 have l4:a4 < 65536:=by rw [← ha4];exact nat_lt s 4 2
 obtain ⟨n,hn⟩:∃ n,a4+1=n:=⟨_,rfl⟩
 obtain ⟨t,ht⟩:∃ t,s.extract 8 s.size=t:=⟨_,rfl⟩
 have lt_:t.size=s.size - 8:=by rw [← ht];simp
 have N1:∀ w,Calls Try.prog 32 #[.string s,.int .i64 4,.int .i64 2] w fun e w'=>e=.returned (.int .i64 (a4:Int))∧Below w.heap.size w w':=fun w=>by
  rw [← ha4]
  exact rnum_c s 4 2 (by decide) (by omega) HZ.out w
 have N2:∀ w,Calls Try.prog 32 #[.string s,.int .i64 0,.int .i64 4] w fun e w'=>e=.returned (.int .i64 (k0:Int))∧Below w.heap.size w w':=fun w=>by
  rw [← hk0]
  exact rnum_c s 0 4 (by decide) (by omega) HZ.out w
 have N3:∀ w,Calls Try.prog 32 #[.string s,.int .i64 6,.int .i64 2] w fun e w'=>e=.returned (.int .i64 (d6:Int))∧Below w.heap.size w w':=fun w=>by
  rw [← hd6]
  exact rnum_c s 6 2 (by decide) (by omega) HZ.out w
 have i1:IntKind.i64.wrap ((a4:Int)+1)=(n:Int):=by rw [IntKind.wrap_i64];omega
 obtain ⟨n2,hn2⟩:∃ x,2 * n=x:=⟨_,rfl⟩
 obtain ⟨n3,hn3⟩:∃ x,2 * n+3=x:=⟨_,rfl⟩
 obtain ⟨n4,hn4⟩:∃ x,2 * n+2=x:=⟨_,rfl⟩
 have i2:IntKind.i64.wrap (2 * (n:Int))=(n2:Int):=by rw [IntKind.wrap_i64];omega
 have i3:IntKind.i64.wrap ((n2:Int)+3)=(n3:Int):=by rw [IntKind.wrap_i64];omega
 have i4:IntKind.i64.wrap ((n2:Int)+2)=(n4:Int):=by rw [IntKind.wrap_i64];omega
 have HN2:=amk (And.intro hn2 (And.intro hn3 hn4))
 clear hn2 hn3 hn4
 have e8:(8≤s.size)=True:=eq_true (by omega)
 have e9:decide ((8:Int)≤(s.size:Int))=true:=decide_eq_true (by omega)
 have e10:((8:Int)≤(s.size:Int))=True:=eq_true (by omega)
 have e11:decide (8≤s.size)=true:=decide_eq_true (by omega)
 have e12:(s.size < 8)=False:=eq_false (by omega)
 have e13:((s.size:Int) < 8)=False:=eq_false (by omega)
 have e14:s.extract 8 s.data.size=t:=ht
 have e15:(8≤s.data.size)=True:=e8
 have HN:=amk (And.intro ha4 (And.intro hk0 (And.intro hd6 (And.intro hn (And.intro ht (And.intro lt_ (And.intro l4 h8)))))))
 have HI:=amk (And.intro i1 (And.intro i2 (And.intro i3 i4)))
 clear ha4 hk0 hd6 hn l4 lt_ h8 i1 i2 i3 i4
 go_wp2_with fail
 refine (N1 _).mono ?_
 rintro e w4 ⟨rfl,hb_⟩
 have B7:=amk (bws B4.out hb_)
 have K7_gr:=amk (bkb K4_gr.out hb_)
 have K7_gx:=amk (bkb BX_gx.out hb_)
 clear hb_ B4 K4_gr BX_gx
 obtain ⟨i1,i2,i3,i4⟩:=HI.out
 go_wp2_with fail
 refine (N2 _).mono ?_
 rintro e w5 ⟨rfl,hb_⟩
 have B8:=amk (bws B7.out hb_)
 have K8_gr:=amk (bkb K7_gr.out hb_)
 have K8_gx:=amk (bkb K7_gx.out hb_)
 clear hb_ B7 K7_gr K7_gx
 have pc0:w5.cell? ⟨gx,0,none⟩=some (.int .i64 0):=(bkc K8_gx.out 0).trans rfl
 have pf0:=bkf K8_gx.out 0
 go_upto_region 6 with fail
 clear pc0 pf0
 obtain ⟨w_9,hw_⟩:∃ w_,(w5.setCell ⟨gx,0,none⟩ (.int .i64 (k0:Int)))=w_:=⟨_,rfl⟩
 have hu_:Upd w5 w_9 (fun k=>k=gx):=by rw [← hw_];exact (Upd.refl w5 (fun k=>k=gx)).set (p:=⟨gx,0,none⟩) (.inl rfl) _
 have kf_:w_9.heap[gx]?=some (.cells #[.int .i64 (k0:Int),.slice none 0 0,.string ⟨#[]⟩,.int .i64 0] 27 (0,0)):=by rw [← hw_];exact (blk_put (cs:=#[.int .i64 0,.slice none 0 0,.string ⟨#[]⟩,.int .i64 0]) K8_gx.out 0 _ rfl)
 rw [hw_]
 clear hw_
 have K10_gx:=amk (kf_)
 have B10:=amk (B8.out.trans (hu_.toBelow (B:=w.heap.size) (fun k hk=>by rw [hk];exact G_gx.out) (B8.out).size))
 have K10_gr:=amk (hu_.blk K8_gr.out (by have:=E_gr_gx.out;omega))
 clear hu_ B8 K8_gr K8_gx
 clear kf_
 go_wp2_with fail
 refine (N3 _).mono ?_
 rintro e w6 ⟨rfl,hb_⟩
 have B11:=amk (bws B10.out hb_)
 have K11_gr:=amk (bkb K10_gr.out hb_)
 have K11_gx:=amk (bkb K10_gx.out hb_)
 clear hb_ B10 K10_gr K10_gx
 have pc3:w6.cell? ⟨gx,3,none⟩=some (.int .i64 0):=(bkc K11_gx.out 3).trans rfl
 have pf3:=bkf K11_gx.out 3
 go_upto_region 7 with fail
 clear pc3 pf3
 obtain ⟨w_12,hw_⟩:∃ w_,(w6.setCell ⟨gx,3,none⟩ (.int .i64 (d6:Int)))=w_:=⟨_,rfl⟩
 have hu_:Upd w6 w_12 (fun k=>k=gx):=by rw [← hw_];exact (Upd.refl w6 (fun k=>k=gx)).set (p:=⟨gx,3,none⟩) (.inl rfl) _
 have kf_:w_12.heap[gx]?=some (.cells #[.int .i64 (k0:Int),.slice none 0 0,.string ⟨#[]⟩,.int .i64 (d6:Int)] 27 (0,0)):=by rw [← hw_];exact (blk_put (cs:=#[.int .i64 (k0:Int),.slice none 0 0,.string ⟨#[]⟩,.int .i64 0]) K11_gx.out 3 _ rfl)
 rw [hw_]
 clear hw_
 have K13_gx:=amk (kf_)
 have B13:=amk (B11.out.trans (hu_.toBelow (B:=w.heap.size) (fun k hk=>by rw [hk];exact G_gx.out) (B11.out).size))
 have K13_gr:=amk (hu_.blk K11_gr.out (by have:=E_gr_gx.out;omega))
 clear hu_ B11 K11_gr K11_gx
 clear kf_
 go_upto_region 8 with fail
 clear N1 N2 N3 e8 e9 d8 e10 e11 e12 e13 e14 e15
 by_cases h9:t.size < n3
 ·have d9:decide ((t.size:Int) < (n3:Int))=true:=decide_eq_true (by omega)
  have d10:decide (t.size < n3)=true:=decide_eq_true h9
  have H9:=amk h9
  clear h9
  have er:R=⟨(k0:Int),[],⟨#[]⟩,(d6:Int),0,false⟩:=by
   obtain ⟨ha4,hk0,hd6,hn,ht,lt_,l4,h8⟩:=HN.out
   rw [← HR.out]
   unfold rrS
   rw [if_neg h8,ha4,hn,ht,if_pos (by have:=H9.out;have:=HN2.out;omega),hk0,hd6]
  have HER:=amk er
  clear er
  go_wp2_with (first | (refine wpList_load_row rfl 27 (.tmp 5) rfl gx rfl 27 #[.int .i64 (k0:Int),.slice none 0 0,.string ⟨#[]⟩,.int .i64 (d6:Int)] (0,0) _ K13_gx.out Try.underlying27 rfl (by kernel_rfl) ?_) | (refine wpList_store_row rfl 27 (.tmp 2) (.tmp 32) rfl gr #[.int .i64 (k0:Int),.slice none 0 0,.string ⟨#[]⟩,.int .i64 (d6:Int)] rfl rfl 27 #[.int .i64 0,.slice none 0 0,.string ⟨#[]⟩,.int .i64 0] K13_gr.out (by kernel_rfl) rfl (by kernel_rfl) ?_))
  obtain ⟨w_14,hw_⟩:∃ w_,w_12.setRow gr #[.int .i64 (k0:Int),.slice none 0 0,.string ⟨#[]⟩,.int .i64 (d6:Int)]=w_:=⟨_,rfl⟩
  have hu_:Upd w_12 w_14 (fun k=>k=gr):=by rw [← hw_];exact Upd.setRow (Upd.refl w_12 (fun k=>k=gr)) (.inl rfl) _
  have kf_:w_14.heap[gr]?=some (.cells #[.int .i64 (k0:Int),.slice none 0 0,.string ⟨#[]⟩,.int .i64 (d6:Int)] 27 (0,0)):=by rw [← hw_];exact setRow_heap w_12 gr _ #[.int .i64 (k0:Int),.slice none 0 0,.string ⟨#[]⟩,.int .i64 (d6:Int)] 27 (0,0) K13_gr.out
  rw [hw_]
  clear hw_
  have K15_gr:=amk (kf_)
  have B15:=amk (B13.out.trans (hu_.toBelow (B:=w.heap.size) (fun k hk=>by rw [hk];exact G_gr.out) (B13.out).size))
  have K15_gx:=amk (hu_.blk K13_gx.out (by have:=E_gr_gx.out;omega))
  clear hu_ B13 K13_gx K13_gr
  clear kf_
  have er:R=⟨(k0:Int),[],⟨#[]⟩,(d6:Int),0,false⟩:=by rw [← HR.out];rw [HR.out];exact HER.out
  subst er
  refine bodyPost_ret (res48 _ _ gr _ _ _ _ _ _ rfl rfl rfl K15_gr.out) rfl ⟨none,0,rfl,own_nil _ _ _ _,B15.out⟩
 have d9:decide ((t.size:Int) < (n3:Int))=false:=decide_eq_false (by omega)
 have d10:decide (t.size < n3)=false:=decide_eq_false h9
 have H9:Aside0 (2 * n+3≤t.size):=⟨by have:=HN2.out;omega⟩
 have lN:n≤65536:=by have:=HN.out;omega
 have LN:=amk lN
 have lT:t.size≤1099511627776:=by have:=HN.out;have:=HZ.out;omega
 have LT:=amk lT
 obtain ⟨pp,hpp⟩:∃ a,nat t (2 * n) 2=a:=⟨_,rfl⟩
 obtain ⟨kk,hkk⟩:∃ a,nat t (2 * n+2) 1=a:=⟨_,rfl⟩
 have N4:∀ w,Calls Try.prog 32 #[.string t,.int .i64 (n2:Int),.int .i64 2] w fun e w'=>e=.returned (.int .i64 (pp:Int))∧Below w.heap.size w w':=fun w=>by
  rw [← hpp,← HN2.out.1]
  exact rnum_c t (2 * n) 2 (by decide) (by have:=H9.out;omega) lT w
 have N5:∀ w,Calls Try.prog 32 #[.string t,.int .i64 (n4:Int),.int .i64 1] w fun e w'=>e=.returned (.int .i64 (kk:Int))∧Below w.heap.size w w':=fun w=>by
  rw [← hkk,← HN2.out.2.2]
  exact rnum_c t (2 * n+2) 1 (by decide) (by have:=H9.out;omega) lT w
 have N6:∀ i:Nat,i < n→∀ w,Calls Try.prog 32 #[.string t,.int .i64 ((2 * i:Nat):Int),.int .i64 2] w fun e w'=>e=.returned (.int .i64 ((nat t (2 * i) 2:Nat):Int))∧Below w.heap.size w w':=fun i hi w=>rnum_c t (2 * i) 2 (by decide) (by have:=H9.out;omega) lT w
 have HPK:=amk (And.intro hpp hkk)
 have HN6:=amk N6
 clear h9 lN lT hpp hkk N6
 go_wp2_with fail
 go_loopg [7] n (fun gk v7 w'=>∃ (i:Nat) (Ax:Option Addr) (cx:Nat),v7=.int .i64 (i:Int)∧Aside0 (i+gk=n)∧Aside0 (w'.heap[gr]?=some (.cells #[.int .i64 0,.slice none 0 0,.string ⟨#[]⟩,.int .i64 0] 27 (0,0)))∧Aside0 (w'.heap[gx]?=some (.cells #[.int .i64 (k0:Int),.slice Ax i cx,.string ⟨#[]⟩,.int .i64 (d6:Int)] 27 (0,0)))∧Aside0 (OR w.heap.size w' 3 Ax i cx (encs (Value.int .i64) (intsOf (numsAt t i))))∧Aside0 (Below w.heap.size w w'))
 case atStart=>exact ⟨0,none,0,rfl,⟨by omega⟩,K13_gr,K13_gx,⟨⟨own_nil _ _ _ _,.inr rfl⟩⟩,B13⟩
 case round =>
  obtain ⟨i,Ax,cx,rfl,hk,LR,LX,LO,LB⟩:=hrel
  have hkk:=hk.out
  have wi:IntKind.i64.wrap ((i:Int)+1)=((i+1:Nat):Int):=by rw [IntKind.wrap_i64];have:=LN.out;omega
  by_cases hc:i < n
  ·skip
   have c1:decide ((i:Int) < (n:Int))=true:=decide_eq_true (by omega)
   have c3:decide (i < n)=true:=decide_eq_true hc
   obtain ⟨ii,hii⟩:∃ x,2 * i=x:=⟨_,rfl⟩
   have c2:IntKind.i64.wrap (2 * (i:Int))=(ii:Int):=by rw [IntKind.wrap_i64];have:=LN.out;omega
   obtain ⟨ki,rfl⟩:∃ m,gk=m+1:=⟨gk - 1,by omega⟩
   obtain ⟨q,hq⟩:∃ q,nat t (2 * i) 2=q:=⟨_,rfl⟩
   have NQ:=HN6.out i hc
   rw [hq,hii] at NQ
   have HQ:=amk hq
   have HWI:=amk wi
   have LI:Aside0 (i < 65536):=⟨by have:=LN.out;omega⟩
   clear hq hkk hc hii
   go_upto_region 13 with fail
   refine start_ (n:=10) (S:=fun w'=>w'.cell? ⟨gx,1,none⟩=some (.slice Ax i cx)∧Below wr.heap.size wr w') (ds:=[7,9]) (bsq 10 0) (by kernel_rfl) rfl rfl ⟨(bkc LX.out 1).trans rfl,bwd (Below.refl _ _)⟩ (fun hHeld=>?_)
   refine pure_ (i:=0) (N:=some 38) (v:=?_) (a':=?_) (bsq 10 1) rfl rfl (by kernel_rfl) (fun _ _ _ h=>h) (Or.inl ⟨by rfl,?_⟩) ?_ ?_
   rotate_left
   ·intro w'
    go_simp
    with_reducible rfl
   rotate_left
   ·simp only [Act.put,bq1,bq2,bq3,i64_w,i32_w]
    rfl
   refine pure_ (i:=2) (N:=some 40) (v:=?_) (a':=?_) (bsq 10 5) rfl rfl (by kernel_rfl) (fun _ _ _ h=>h) (Or.inl ⟨by rfl,?_⟩) ?_ ?_
   rotate_left
   ·intro w'
    go_simp
    with_reducible rfl
   rotate_left
   ·simp only [Act.put,bq1,bq2,bq3,i64_w,i32_w]
    rfl
   refine pure_ (i:=3) (N:=some 41) (v:=?_) (a':=?_) (bsq 10 13) rfl rfl (by kernel_rfl) (fun _ _ _ h=>h) (Or.inl ⟨by rfl,?_⟩) ?_ ?_
   rotate_left
   ·intro w'
    go_simp
    with_reducible rfl
   rotate_left
   ·simp only [Act.put,bq1,bq2,bq3,i64_w,i32_w]
    rfl
   refine pure_ (i:=4) (N:=some 42) (v:=?_) (a':=?_) (bsq 10 29) rfl rfl (by kernel_rfl) (fun _ _ _ h=>h) (Or.inl ⟨by rfl,?_⟩) ?_ ?_
   rotate_left
   ·intro w'
    go_simp
    with_reducible rfl
   rotate_left
   ·simp only [Act.put,bq1,bq2,bq3,i64_w,i32_w]
    rfl
   refine take_ (i:=1) (N:=some 39) (v:=?_) (a':=?_) (bsq 10 31) rfl rfl (by kernel_rfl) (fun _ _ _ h=>h) (Or.inl ⟨by rfl,?_⟩) hHeld ?_ ?_
   rotate_left
   ·rintro w' ⟨s0,s1⟩
    go_simp
    with_reducible rfl
   rotate_left
   ·simp only [Act.put,bq1,bq2,bq3,i64_w,i32_w]
    rfl
   refine one_ (i:=5) (N:=some 43) (bsq 10 63) rfl rfl (by kernel_rfl) (by decide) (fun K hK=>?_)
   refine goes_ Try.func32 (by kernel_rfl) rfl #[.string t,.int .i64 (ii:Int),.int .i64 2] (by rfl) rfl rfl (by simp only [List.map_toArray,List.map_cons,List.map_nil];rfl) ?_
   with_reducible refine (NQ _).mono ?_
   rintro e wn ⟨rfl,hc⟩
   refine ⟨_,rfl,?_⟩
   have HC:=amk hc
   clear hc
   refine hK.out _ _ ⟨pcb HC.out hHeld.1,bws hHeld.2 HC.out⟩ (fun hHeld=>?_)
   clear hK K
   refine norm_ (a':=?_) ?_ ?_
   rotate_left
   ·show Act.put _ (some 43) _=_
    simp only [Act.put,bq1,bq2,bq3,i64_w,i32_w]
    rfl
   refine one_ (i:=6) (N:=some 44) (bsq 10 127) rfl rfl (by kernel_rfl) (by decide) (fun K hK=>?_)
   refine value_ (w1:=?_) (v:=?_) (by rfl) rfl ?_ ?_
   rotate_left 2
   ·go_simp
    constructor
    ·rfl
    ·rfl
   have BA:=amk (hHeld.2)
   refine hK.out _ _ ⟨pcb (bwa (Below.refl _ _) (.cells #[.int .i64 (q:Int)] 3)) hHeld.1,bws hHeld.2 (bwa (Below.refl _ _) (.cells #[.int .i64 (q:Int)] 3))⟩ (fun hHeld=>?_)
   clear hK K
   refine norm_ (a':=?_) ?_ ?_
   rotate_left
   ·show Act.put _ (some 44) _=_
    simp only [Act.put,bq1,bq2,bq3,i64_w,i32_w]
    rfl
   refine last_ (i:=7) (N:=some 45) (bsq 10 255) rfl rfl (by kernel_rfl) (by decide) (fun K hK=>?_)
   have KG0:=bkb LR.out BA.out
   have KX0:=bkb LX.out BA.out
   have LO0:=LO.out.below BA.out
   refine step_append_cells (W:=wn) (w0:=w) w.heap.size (by rfl) (.tmp 39) (.tmp 44) 23 3 (.int .i64 0) 1 8 rfl Try.underlying23 info3 rfl (by decide) (by decide) (.slice Ax i cx) i (encs (Value.int .i64) (intsOf (numsAt t i))) [.int .i64 (q:Int)] rfl rfl rfl (by simp [Value.oneCell']) LO0.h (bws LB.out BA.out) (Nat.le_trans LB.out.size BA.out.size) (by have:=LI.out;omega) ?_
   intro v1 wa ho1 hb1 hg1 hat1
   obtain ⟨A1,c1_,rfl⟩:=own_slice ho1
   have HO1:Aside0 (OR w.heap.size wa 3 A1 (i+1) c1_ (encs (Value.int .i64) (intsOf (numsAt t i)) ++ [.int .i64 (q:Int)])):=⟨⟨ho1,.inr rfl⟩⟩
   have HB1:=amk hb1
   have KG1:=amk (blk_grown KG0 hg1 (own_ne LO0.h KG0 (by decide)))
   have KX1:=amk (blk_grown KX0 hg1 (own_ne LO0.h KX0 (by decide)))
   have xc1:wa.cell? ⟨gx,1,none⟩=some (.slice Ax i cx):=(bkc KX1.out 1).trans rfl
   have xf1:=bkf KX1.out 1
   clear ho1 hb1 hg1 hat1 KG0 KX0 LO0
   refine hK.out _ _ ?_
   clear hK K
   refine norm_ (a':=?_) ?_ ?_
   rotate_left
   ·show Act.put _ (some 45) _=_
    simp only [Act.put,bq1,bq2,bq3,i64_w,i32_w]
    rfl
   refine pure_ (i:=8) (N:=some 46) (v:=?_) (a':=?_) (bsq 10 511) rfl rfl (by kernel_rfl) (fun _ _ _ h=>h) (Or.inl ⟨by rfl,?_⟩) ?_ ?_
   rotate_left
   ·intro w'
    go_simp
    with_reducible rfl
   rotate_left
   ·simp only [Act.put,bq1,bq2,bq3,i64_w,i32_w]
    rfl
   refine last_ (i:=9) (N:=none) (bsq 10 1023) rfl rfl (by kernel_rfl) (by decide) (fun K hK=>?_)
   refine skip_ (w1:=?_) (by rfl) rfl ?_ ?_
   rotate_left
   ·go_simp
    rfl
   refine hK.out _ _ ?_
   clear hK K
   refine done_ (by kernel_rfl) ?_
   clear xc1 xf1 LR LX LO LB BA HC NQ c2
   obtain ⟨w_1,hw_⟩:∃ w_,(wa.setCell ⟨gx,1,none⟩ (.slice A1 (i+1) c1_))=w_:=⟨_,rfl⟩
   have hu_:Upd wa w_1 (fun k=>k=gx):=by rw [← hw_];exact (Upd.refl wa (fun k=>k=gx)).set (p:=⟨gx,1,none⟩) (.inl rfl) _
   have kf_:w_1.heap[gx]?=some (.cells #[.int .i64 (k0:Int),.slice A1 (i+1) c1_,.string ⟨#[]⟩,.int .i64 (d6:Int)] 27 (0,0)):=by rw [← hw_];exact (blk_put (cs:=#[.int .i64 (k0:Int),.slice Ax i cx,.string ⟨#[]⟩,.int .i64 (d6:Int)]) KX1.out 1 _ rfl)
   rw [hw_]
   clear hw_
   have K2_gx:=amk (kf_)
   have B2:=amk (HB1.out.trans (hu_.toBelow (B:=w.heap.size) (fun k hk=>by rw [hk];exact G_gx.out) (HB1.out).size))
   have K2_gr:=amk (hu_.blk KG1.out (by have:=E_gr_gx.out;omega))
   have O2_X:=amk (HO1.out.boxT KX1.out (by decide) (by decide) hu_)
   clear hu_ HB1 KG1 HO1 KX1
   clear kf_
   have HE:Aside0 (OR w.heap.size w_1 3 A1 (i+1) c1_ (encs (Value.int .i64) (intsOf (numsAt t (i+1))))):=⟨by
    rw [numsAt_succ,intsOf_one,encs_snoc,HQ.out]
    exact O2_X.out⟩
   clear O2_X wi
   have wi:=HWI.out
   go_wp2_with fail
   try rw [wi]
   go_roundg ki
   case measure=>omega
   case rel=>exact ⟨i+1,A1,c1_,rfl,⟨by have:=hk.out;omega⟩,K2_gr,K2_gx,HE,B2⟩
  ·skip
   obtain rfl:i=n:=by omega
   have c1:decide ((i:Int) < (i:Int))=false:=decide_eq_false (by omega)
   have c3:decide (i < i)=false:=decide_eq_false (by omega)
   obtain ⟨key,hkey⟩:∃ x,t.extract n3 t.size=x:=⟨_,rfl⟩
   have l3:n3≤t.size:=by have:=H9.out;have:=HN2.out;omega
   have e1:(n3≤t.size)=True:=eq_true l3
   have e2:decide ((n3:Int)≤(t.size:Int))=true:=decide_eq_true (by omega)
   have e3:decide (0≤(n3:Int))=true:=decide_eq_true (by omega)
   have e4:((n3:Int)≤(t.size:Int))=True:=eq_true (by omega)
   have e5:(t.size < n3)=False:=eq_false (by omega)
   have e6:((t.size:Int) < (n3:Int))=False:=eq_false (by omega)
   have e7:decide (n3≤t.size)=true:=decide_eq_true (by omega)
   clear l3
   have HKEY:=amk hkey
   clear hkk hc wi
   go_wp2_with fail
   refine (N4 _).mono ?_
   rintro e w7 ⟨rfl,hb_⟩
   have B1:=amk (bws LB.out hb_)
   have K1_gr:=amk (bkb LR.out hb_)
   have K1_gx:=amk (bkb LX.out hb_)
   have O1_X:=amk (LO.out.below hb_)
   clear hb_ LB LR LX LO
   go_wp2_with fail
   refine (N5 _).mono ?_
   rintro e w8 ⟨rfl,hb_⟩
   have B2:=amk (bws B1.out hb_)
   have K2_gr:=amk (bkb K1_gr.out hb_)
   have K2_gx:=amk (bkb K1_gx.out hb_)
   have O2_X:=amk (O1_X.out.below hb_)
   clear hb_ B1 K1_gr K1_gx O1_X
   have pc2:w8.cell? ⟨gx,2,none⟩=some (.string ⟨#[]⟩):=(bkc K2_gx.out 2).trans rfl
   have pf2:=bkf K2_gx.out 2
   go_upto_region 16 with fail
   clear pc2 pf2
   obtain ⟨w_3,hw_⟩:∃ w_,(w8.setCell ⟨gx,2,none⟩ (.string key))=w_:=⟨_,rfl⟩
   have hu_:Upd w8 w_3 (fun k=>k=gx):=by rw [← hw_];exact (Upd.refl w8 (fun k=>k=gx)).set (p:=⟨gx,2,none⟩) (.inl rfl) _
   have kf_:w_3.heap[gx]?=some (.cells #[.int .i64 (k0:Int),.slice Ax i cx,.string key,.int .i64 (d6:Int)] 27 (0,0)):=by rw [← hw_];exact (blk_put (cs:=#[.int .i64 (k0:Int),.slice Ax i cx,.string ⟨#[]⟩,.int .i64 (d6:Int)]) K2_gx.out 2 _ rfl)
   rw [hw_]
   clear hw_
   have K4_gx:=amk (kf_)
   have B4:=amk (B2.out.trans (hu_.toBelow (B:=w.heap.size) (fun k hk=>by rw [hk];exact G_gx.out) (B2.out).size))
   have K4_gr:=amk (hu_.blk K2_gr.out (by have:=E_gr_gx.out;omega))
   have O4_X:=amk (O2_X.out.boxT K2_gx.out (by decide) (by decide) hu_)
   clear hu_ B2 K2_gr O2_X K2_gx
   clear kf_
   obtain ⟨ok,hok⟩:∃ b,decide (key.size=kk)=b:=⟨_,rfl⟩
   have b1:((key.size:Int) == (kk:Int))=ok:=by
    rw [← hok];by_cases q:key.size=kk
    ·rw [decide_eq_true q,q];exact beq_iff_eq.2 rfl
    ·rw [decide_eq_false q];exact beq_eq_false_iff_ne.2 (by omega)
   have HOK:=amk hok
   clear hok
   refine start_ (n:=10) (S:=fun w'=>w'.heap[gx]?=some (.cells #[.int .i64 (k0:Int),.slice Ax i cx,.string key,.int .i64 (d6:Int)] 27 (0,0))∧w'.cell? ⟨gx,2,none⟩=some (.string key)) (ds:=[]) (bsq 10 0) (by kernel_rfl) rfl rfl ⟨(bkb K4_gx.out (bwd (Below.refl _ _))),(bkc K4_gx.out 2).trans rfl⟩ (fun hHeld=>?_)
   refine pure_ (i:=1) (N:=some 63) (v:=?_) (a':=?_) (bsq 10 2) rfl rfl (by kernel_rfl) (fun _ _ _ h=>h) (Or.inl ⟨by rfl,?_⟩) ?_ ?_
   rotate_left
   ·intro w'
    go_simp
    with_reducible rfl
   rotate_left
   ·simp only [Act.put,bq1,bq2,bq3,i64_w,i32_w]
    rfl
   refine pure_ (i:=2) (N:=some 64) (v:=?_) (a':=?_) (bsq 10 6) rfl rfl (by kernel_rfl) (fun _ _ _ h=>h) (Or.inl ⟨by rfl,?_⟩) ?_ ?_
   rotate_left
   ·intro w'
    go_simp
    with_reducible rfl
   rotate_left
   ·simp only [Act.put,bq1,bq2,bq3,i64_w,i32_w]
    rfl
   refine pure_ (i:=5) (N:=some 67) (v:=?_) (a':=?_) (bsq 10 38) rfl rfl (by kernel_rfl) (fun _ _ _ h=>h) (Or.inl ⟨by rfl,?_⟩) ?_ ?_
   rotate_left
   ·intro w'
    go_simp
    with_reducible rfl
   rotate_left
   ·simp only [Act.put,bq1,bq2,bq3,i64_w,i32_w]
    rfl
   refine take_ (i:=0) (N:=some 62) (v:=?_) (a':=?_) (bsq 10 39) rfl rfl (by kernel_rfl) (fun _ _ _ h=>h) (Or.inl ⟨by rfl,?_⟩) hHeld ?_ ?_
   rotate_left
   ·rintro w' ⟨s0,s1⟩
    refine exec_load_part 27 (.tmp 5) ?_ gx 0 ?_ 27 #[.int .i64 (k0:Int),.slice Ax i cx,.string key,.int .i64 (d6:Int)] (#[.int .i64 (k0:Int),.slice Ax i cx,.string key,.int .i64 (d6:Int)]) (0,0) _ s0 Try.underlying27 rfl (by kernel_rfl) rfl
    ·rfl
    ·rfl
   rotate_left
   ·simp only [Act.put,bq1,bq2,bq3,i64_w,i32_w]
    rfl
   refine take_ (i:=3) (N:=some 65) (v:=?_) (a':=?_) (bsq 10 47) rfl rfl (by kernel_rfl) (fun _ _ _ h=>h) (Or.inl ⟨by rfl,?_⟩) hHeld ?_ ?_
   rotate_left
   ·rintro w' ⟨s0,s1⟩
    go_simp
    with_reducible rfl
   rotate_left
   ·simp only [Act.put,bq1,bq2,bq3,i64_w,i32_w]
    rfl
   refine pure_ (i:=4) (N:=some 66) (v:=?_) (a':=?_) (bsq 10 63) rfl rfl (by kernel_rfl) (fun _ _ _ h=>h) (Or.inl ⟨by rfl,?_⟩) ?_ ?_
   rotate_left
   ·intro w'
    go_simp
    with_reducible rfl
   rotate_left
   ·simp only [Act.put,bq1,bq2,bq3,i64_w,i32_w]
    rfl
   refine pure_ (i:=6) (N:=some 68) (v:=?_) (a':=?_) (bsq 10 127) rfl rfl (by kernel_rfl) (fun _ _ _ h=>h) (Or.inl ⟨by rfl,?_⟩) ?_ ?_
   rotate_left
   ·intro w'
    go_simp
    with_reducible rfl
   rotate_left
   ·simp only [Act.put,bq1,bq2,bq3,i64_w,i32_w]
    rfl
   refine one_ (i:=7) (N:=none) (bsq 10 255) rfl rfl (by kernel_rfl) (by decide) (fun K hK=>?_)
   refine skip_ (w1:=?_) (by rfl) rfl ?_ ?_
   rotate_left
   ·refine exec_store_part 27 (.tmp 2) (.tmp 62) ?_ gr 0 #[.int .i64 (k0:Int),.slice Ax i cx,.string key,.int .i64 (d6:Int)] ?_ ?_ 27 _ #[.int .i64 (k0:Int),.slice Ax i cx,.string key,.int .i64 (d6:Int)] (bkb K4_gr.out (bwd (Below.refl _ _))) (by kernel_rfl) (Nat.le_of_ble_eq_true rfl) (by kernel_rfl) rfl
    ·rfl
    ·rfl
    ·rfl
   refine hK.out _ _ ⟨((setRow_other _ _ _ _ (by have:=E_gr_gx.out;omega)).trans hHeld.1),(bkc ((setRow_other _ _ _ _ (by have:=E_gr_gx.out;omega)).trans hHeld.1) 2).trans rfl⟩ (fun hHeld=>?_)
   clear hK K
   refine pure_ (i:=8) (N:=some 3) (v:=?_) (a':=?_) (bsq 10 511) rfl rfl (by kernel_rfl) (fun _ _ _ h=>h) (Or.inl ⟨by rfl,?_⟩) ?_ ?_
   rotate_left
   ·intro w'
    go_simp
    with_reducible rfl
   rotate_left
   ·simp only [Act.put,bq1,bq2,bq3,i64_w,i32_w]
    rfl
   refine pure_ (i:=9) (N:=some 4) (v:=?_) (a':=?_) (bsq 10 1023) rfl rfl (by kernel_rfl) (fun _ _ _ h=>h) (Or.inl ⟨by rfl,?_⟩) ?_ ?_
   rotate_left
   ·intro w'
    go_simp
    with_reducible rfl
   rotate_left
   ·simp only [Act.put,bq1,bq2,bq3,i64_w,i32_w]
    rfl
   refine done_ (by kernel_rfl) ?_
   have hb_:=bwd (Below.refl w_3.heap.size w_3)
   obtain ⟨w9,hw_⟩:∃ x,w_3.drew=x:=⟨_,rfl⟩
   rw [hw_] at hb_ ⊢
   clear hw_
   have B5:=amk (bws B4.out hb_)
   have K5_gr:=amk (bkb K4_gr.out hb_)
   have K5_gx:=amk (bkb K4_gx.out hb_)
   have O5_X:=amk (O4_X.out.below hb_)
   clear hb_ B4 K4_gr K4_gx O4_X
   obtain ⟨w_6,hw_⟩:∃ w_,w9.setRow gr #[.int .i64 (k0:Int),.slice Ax i cx,.string key,.int .i64 (d6:Int)]=w_:=⟨_,rfl⟩
   have hu_:Upd w9 w_6 (fun k=>k=gr):=by rw [← hw_];exact Upd.setRow (Upd.refl w9 (fun k=>k=gr)) (.inl rfl) _
   have kf_:w_6.heap[gr]?=some (.cells #[.int .i64 (k0:Int),.slice Ax i cx,.string key,.int .i64 (d6:Int)] 27 (0,0)):=by rw [← hw_];exact setRow_heap w9 gr _ #[.int .i64 (k0:Int),.slice Ax i cx,.string key,.int .i64 (d6:Int)] 27 (0,0) K5_gr.out
   rw [hw_]
   clear hw_
   have K7_gr:=amk (kf_)
   have B7:=amk (B5.out.trans (hu_.toBelow (B:=w.heap.size) (fun k hk=>by rw [hk];exact G_gr.out) (B5.out).size))
   have K7_gx:=amk (hu_.blk K5_gx.out (by have:=E_gr_gx.out;omega))
   have O7_X:=amk (O5_X.out.boxT K5_gr.out (by decide) (by decide) hu_)
   clear hu_ B5 K5_gx O5_X K5_gr
   clear kf_
   have er:R=⟨(k0:Int),numsAt t i,key,(d6:Int),(pp:Int),ok⟩:=by
    obtain ⟨ha4,hk0,hd6,hn,ht,lt_,l4,h8⟩:=HN.out
    rw [← HR.out]
    unfold rrS
    rw [if_neg h8,ha4,hn,ht,if_neg (by have:=H9.out;omega),hk0,hd6,HPK.out.1,HPK.out.2,HN2.out.2.1,HKEY.out,HOK.out]
   subst er
   have el:=numsAt_len t i
   go_wp2_with fail
   have ow:=O7_X.out.h
   refine bodyPost_ret (res48 _ _ gr _ _ _ _ _ _ rfl rfl rfl K7_gr.out) rfl ⟨Ax,cx,by first | rfl | (rw [el];rfl),by first | exact ow | (rw [el];exact ow),B7.out⟩
end Go.Proofs.Ytkgbhlcbjflnlaa.Fl
