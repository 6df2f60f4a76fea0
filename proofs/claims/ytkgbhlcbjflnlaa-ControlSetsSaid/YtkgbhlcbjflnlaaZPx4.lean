/- What functions of the program compute, each with the walk that shows it: by a program (a turned copy of the kit's print; wip/myprint.py). -/
import Derived.Test.YtkgbhlcbjflnlaaZPx0
import Derived.Test.YtkgbhlcbjflnlaaZPx1
import Derived.Test.YtkgbhlcbjflnlaaZPx2
import Derived.Test.YtkgbhlcbjflnlaaZBs
namespace Go.Proofs.Ytkgbhlcbjflnlaa.P
open Go.RowKit Go.Proofs.YtkgbhlcbjflnlaaW.PrintWords Go.Proofs.YtkgbhlcbjflnlaaW.PrintLast Go.Proofs.YtkgbhlcbjflnlaaW.PrintMore
attribute [local go_sem] max2_int min2_int max_two min_two max_three min_three max_four min_four   -- for this text's walks alone
set_option linter.unusedVariables false
set_option linter.unusedSimpArgs false

/-! ### control_reader_rules: function 56 -/
mutual
def control_reader_rules.j0:Nat→Int→ByteArray→Bool→Int→ByteArray→Int→Option (Int × List Int × ByteArray × Int × ByteArray × Bool)
 | 0,_,_,_,_,_,_=>none
 | k+1,x4,x1000,x1001,x125000,x125002,x125003=>control_reader_rules.l0 k x4 0 x1000 x1001 x125000 ([]:List Int) x125002 x125003
def control_reader_rules.l0:Nat→Int→Int→ByteArray→Bool→Int→List Int→ByteArray→Int→Option (Int × List Int × ByteArray × Int × ByteArray × Bool)
 | 0,_,_,_,_,_,_,_,_=>none
 | k+1,x4,x5,x1000,x1001,x125000,x125001,x125002,x125003=>if x5 < x4 then (if x1001=true then (some (x125000,x125001,x125002,x125003,x1000,x1001)) else ((control_reader_num.f k x1000 x1001 2).bind fun bt131=>(if x125001.length < 17592186044416 then (control_reader_rules.l0 k x4 (wrap64 (x5+1)) bt131.2.1 bt131.2.2 x125000 (x125001 ++ [bt131.1]) x125002 x125003) else (none)))) else (some (x125000,x125001,x125002,x125003,x1000,x1001))
end
def control_reader_rules.f (k:Nat) (s0_0:ByteArray) (s0_1:Bool):Option (Int × List Int × ByteArray × Int × ByteArray × Bool):=(control_reader_num.f k s0_0 s0_1 4).bind fun bt121=>((control_reader_num.f k bt121.2.1 bt121.2.2 2).bind fun bt125=>((control_reader_num.f k bt125.2.1 bt125.2.2 2).bind fun bt128=>(if bt128.2.2=true then (control_reader_rules.j0 k (wrap64 (bt125.1+1)) bt128.2.1 true bt121.1 (⟨#[]⟩:ByteArray) bt128.1) else (control_reader_rules.j0 k (wrap64 (bt125.1+1)) bt128.2.1 (decide ((wrap64 (bt125.1+1)) > 128)) bt121.1 (⟨#[]⟩:ByteArray) bt128.1))))
theorem control_reader_rules.mono_l:∀ k,(∀ y0 y1 y2 y3 y4 y5,LeO (control_reader_rules.j0 k y0 y1 y2 y3 y4 y5) (control_reader_rules.j0 (k+1) y0 y1 y2 y3 y4 y5))∧(∀ y0 y1 y2 y3 y4 y5 y6 y7,LeO (control_reader_rules.l0 k y0 y1 y2 y3 y4 y5 y6 y7) (control_reader_rules.l0 (k+1) y0 y1 y2 y3 y4 y5 y6 y7))
 | 0=>⟨fun _ _ _ _ _ _ r h=>by simp [control_reader_rules.j0] at h,fun _ _ _ _ _ _ _ _ r h=>by simp [control_reader_rules.l0] at h⟩
 | k+1=>by
  obtain ⟨ih0,ih1⟩:=control_reader_rules.mono_l k
  refine ⟨?_,?_⟩
  ·intro y0 y1 y2 y3 y4 y5
   unfold control_reader_rules.j0
   repeat' first
   | (with_reducible exact ih0 _ _ _ _ _ _)
   | (with_reducible exact ih1 _ _ _ _ _ _ _ _)
   | (with_reducible exact control_reader_num.mono _ _ _ _)
   | (with_reducible exact LeO.refl _)
   | (with_reducible exact LeO.none _)
   | (with_reducible refine LeO.ite ?_ ?_)
   | (with_reducible refine LeO.bind ?_ (fun _=>?_))
   | exact ih0 _ _ _ _ _ _
   | exact ih1 _ _ _ _ _ _ _ _
   | exact control_reader_num.mono _ _ _ _
   | exact LeO.none _
   | refine LeO.ite ?_ ?_
   | refine LeO.bind ?_ (fun _=>?_)
  ·intro y0 y1 y2 y3 y4 y5 y6 y7
   unfold control_reader_rules.l0
   repeat' first
   | (with_reducible exact ih0 _ _ _ _ _ _)
   | (with_reducible exact ih1 _ _ _ _ _ _ _ _)
   | (with_reducible exact control_reader_num.mono _ _ _ _)
   | (with_reducible exact LeO.refl _)
   | (with_reducible exact LeO.none _)
   | (with_reducible refine LeO.ite ?_ ?_)
   | (with_reducible refine LeO.bind ?_ (fun _=>?_))
   | exact ih0 _ _ _ _ _ _
   | exact ih1 _ _ _ _ _ _ _ _
   | exact control_reader_num.mono _ _ _ _
   | exact LeO.none _
   | refine LeO.ite ?_ ?_
   | refine LeO.bind ?_ (fun _=>?_)
theorem control_reader_rules.mono:∀ a0 a1 k,LeO (control_reader_rules.f k a0 a1) (control_reader_rules.f (k+1) a0 a1):=by
 intro a0 a1 k
 obtain ⟨ih0,ih1⟩:=control_reader_rules.mono_l k
 unfold control_reader_rules.f
 repeat' first
   | (with_reducible exact ih0 _ _ _ _ _ _)
   | (with_reducible exact ih1 _ _ _ _ _ _ _ _)
   | (with_reducible exact control_reader_num.mono _ _ _ _)
   | (with_reducible exact LeO.refl _)
   | (with_reducible exact LeO.none _)
   | (with_reducible refine LeO.ite ?_ ?_)
   | (with_reducible refine LeO.bind ?_ (fun _=>?_))
   | exact ih0 _ _ _ _ _ _
   | exact ih1 _ _ _ _ _ _ _ _
   | exact control_reader_num.mono _ _ _ _
   | exact LeO.none _
   | refine LeO.ite ?_ ?_
   | refine LeO.bind ?_ (fun _=>?_)
def control_reader_rules.T8:Bool × List (List Nat × List Nat):=(true,[([],[]),([0],[0]),([],[]),([2],[2]),([3],[3]),([1,4,3],[1,4]),([0,1,2,3,4,5],[]),([6,5,5,0,1,2,3,4,5],[5,6])])
def control_reader_rules.B8:List Nat:=[0,1,0,4,12,31,63,127]
theorem control_reader_rules.tab8:rtab .any (opsOf Try.f56 8)=control_reader_rules.T8:=by kernel_rfl
theorem control_reader_rules.bits8:waitsOk control_reader_rules.T8.2 control_reader_rules.B8=true:=by kernel_rfl
set_option maxHeartbeats 8000000 in
set_option maxRecDepth 100000 in
theorem control_reader_rules.calls (k:Nat) (g:Nat) (s0_0:ByteArray) (s0_1:Bool) (r1:Int) (r2:List Int) (r3:ByteArray) (r4:Int) (r5:ByteArray) (r6:Bool) (w0 w:World) (hI:IsS64 w0 w g s0_0 s0_1) (hB:Below w0.heap.size w0 w) (h:control_reader_rules.f k s0_0 s0_1=some (r1,r2,r3,r4,r5,r6)) :
  Calls Try.prog 56 #[.pointer (some ⟨g,0,none⟩)] w fun e w'=>∃ v1_:Value,e=.returned (.agg #[.int .i64 r1,v1_,.string r3,.int .i64 r4])∧Kd.R (Kd.int .i64) 3 w' w.heap.size (fun _=>True) v1_ r2∧IsS64 w0 w' g r5 r6∧Below w0.heap.size w0 w'∧KeepBut w w' g none:=by
 have hu27:=Try.underlying27
 have HI0:=amk hI
 have HK:=amk (KeepBut.refl w g none)
 have HL:=amk hB.size
 clear hI
 have HW0:=amk hB.size
 have HB:=amk hB
 clear hB
 have H:((control_reader_num.f k s0_0 s0_1 4).bind fun bt121=>((control_reader_num.f k bt121.2.1 bt121.2.2 2).bind fun bt125=>((control_reader_num.f k bt125.2.1 bt125.2.2 2).bind fun bt128=>(if bt128.2.2=true then (control_reader_rules.j0 k (wrap64 (bt125.1+1)) bt128.2.1 true bt121.1 (⟨#[]⟩:ByteArray) bt128.1) else (control_reader_rules.j0 k (wrap64 (bt125.1+1)) bt128.2.1 (decide ((wrap64 (bt125.1+1)) > 128)) bt121.1 (⟨#[]⟩:ByteArray) bt128.1)))))=some (r1,r2,r3,r4,r5,r6):=h
 clear h
 replace H:=Option.bind_eq_some_iff.mp H
 obtain ⟨⟨t121,t122,t123⟩,A20,H⟩:=H
 replace H:((control_reader_num.f k t122 t123 2).bind fun bt125=>((control_reader_num.f k bt125.2.1 bt125.2.2 2).bind fun bt128=>(if bt128.2.2=true then (control_reader_rules.j0 k (wrap64 (bt125.1+1)) bt128.2.1 true t121 (⟨#[]⟩:ByteArray) bt128.1) else (control_reader_rules.j0 k (wrap64 (bt125.1+1)) bt128.2.1 (decide ((wrap64 (bt125.1+1)) > 128)) t121 (⟨#[]⟩:ByteArray) bt128.1))))=some (r1,r2,r3,r4,r5,r6):=H
 have A2:=amk A20
 clear A20
 replace H:=Option.bind_eq_some_iff.mp H
 obtain ⟨⟨t125,t126,t127⟩,A30,H⟩:=H
 replace H:((control_reader_num.f k t126 t127 2).bind fun bt128=>(if bt128.2.2=true then (control_reader_rules.j0 k (wrap64 (t125+1)) bt128.2.1 true t121 (⟨#[]⟩:ByteArray) bt128.1) else (control_reader_rules.j0 k (wrap64 (t125+1)) bt128.2.1 (decide ((wrap64 (t125+1)) > 128)) t121 (⟨#[]⟩:ByteArray) bt128.1)))=some (r1,r2,r3,r4,r5,r6):=H
 have A3:=amk A30
 clear A30
 replace H:=Option.bind_eq_some_iff.mp H
 obtain ⟨⟨t128,t129,t130⟩,A40,H⟩:=H
 replace H:(if t130=true then (control_reader_rules.j0 k (wrap64 (t125+1)) t129 true t121 (⟨#[]⟩:ByteArray) t128) else (control_reader_rules.j0 k (wrap64 (t125+1)) t129 (decide ((wrap64 (t125+1)) > 128)) t121 (⟨#[]⟩:ByteArray) t128))=some (r1,r2,r3,r4,r5,r6):=H
 have A4:=amk A40
 clear A40
 have HC5:=amk H
 clear H
 go_enter Try.func56,Try.ntmps56
 go_upto_region 4 with (first | ((with_reducible refine gate_dst (N:=2) rfl ?_);refine box_event ?hg (N:=2) ?hd (cs:=#[.int .i64 0,.slice none 0 0,.string (⟨#[]⟩:ByteArray),.int .i64 0]) (t:=27) ?hr ?_;(case hd=>rfl);(case hg=>rfl);(case hr=>first | (go_simp;done) | (go_simp;rfl));intro gb120 hg w6 hbox hb;have n0_:=amk (IsS64.below (by repeat (first | (with_reducible first | exact HI0.out | apply IsS64.alloc | apply IsS64.drewN | apply IsS64.drew | apply IsS64.set_0 | apply IsS64.set_1) | exact HI0.out)) hb);have n1_:=amk (KeepBut.trans (by repeat (first | (with_reducible first | exact HK.out | apply KeepBut.set_ | apply keep_drewN | apply keep_drew | apply keep_alloc) | exact HK.out)) (KeepBut.of_below hb g none) (.inl rfl));have n2_:=amk (bws (by repeat (first | (with_reducible first | exact HB.out | apply bwa | apply pwd | apply bwd | refine bwt ?_ (IsS64.ge HI0.out)) | exact HB.out)) hb);have n3_:=amk (hbox);have n4_:=amk ((by rw [hg];exact (keep_size (w:=w) (g:=g) (row:=none) (by repeat (first | (with_reducible first | exact HK.out | apply KeepBut.set_ | apply keep_drewN | apply keep_drew | apply keep_alloc) | exact HK.out))):w.heap.size≤gb120));have n5_:=amk ((Nat.le_trans HW0.out (by rw [hg];exact (keep_size (w:=w) (g:=g) (row:=none) (by repeat (first | (with_reducible first | exact HK.out | apply KeepBut.set_ | apply keep_drewN | apply keep_drew | apply keep_alloc) | exact HK.out))):w.heap.size≤gb120):w0.heap.size≤gb120));have n6_:=amk ((by rw [hg];exact Nat.ne_of_lt (IsS64.lt (show IsS64 w0 _ g s0_0 s0_1 from by repeat (first | (with_reducible first | exact HI0.out | apply IsS64.alloc | apply IsS64.drewN | apply IsS64.drew | apply IsS64.set_0 | apply IsS64.set_1) | exact HI0.out))):g ≠ gb120));have n7_:=amk ((by rw [hg];exact Nat.ne_of_gt (IsS64.lt (show IsS64 w0 _ g s0_0 s0_1 from by repeat (first | (with_reducible first | exact HI0.out | apply IsS64.alloc | apply IsS64.drewN | apply IsS64.drew | apply IsS64.set_0 | apply IsS64.set_1) | exact HI0.out))):gb120 ≠ g));clear HI0;clear HK;clear HB;have HI0:=n0_;have HK:=n1_;have HB:=n2_;have BK120:=n3_;have GW120:=n4_;have GE120:=n5_;have NB0_120:=n6_;have NB120_0:=n7_;clear n0_ n1_ n2_ n3_ n4_ n5_ n6_ n7_;clear hb hbox hg) | ((with_reducible refine gate_callee (f:=51) rfl ?_);refine goesL_ (some 7) rfl rfl Try.func51 (by kernel_rfl) rfl #[.pointer (some ⟨g,0,none⟩),.int .i64 4] rfl (by (try simp only [List.map_toArray,List.map_cons,List.map_nil]);first | done | rfl | (simp only [List.length_drop,List.length_take];rfl)) ?_;(with_reducible refine (control_reader_num.calls k g s0_0 s0_1 4 t121 t122 t123 w0 _ ?side1 ?side2 A2.out).mono ?_);(case side1=>repeat (first | (with_reducible first | exact HI0.out | apply IsS64.alloc | apply IsS64.drewN | apply IsS64.drew | apply IsS64.set_0 | apply IsS64.set_1 | refine IsS64.far ?_ NB0_120.out _) | exact HI0.out));(case side2=>repeat (first | (with_reducible first | exact HB.out | apply bwa | apply pwd | apply bwd | refine bwt ?_ (IsS64.ge HI0.out) | refine bwt ?_ GE120.out) | exact HB.out));rintro e w7 ⟨rfl,hi,hb,hk⟩;refine ⟨_,rfl,?_⟩;have n0_:=amk (KeepBut.blk hk (g':=gb120) (o:=.cells #[.int .i64 0,.slice none 0 0,.string (⟨#[]⟩:ByteArray),.int .i64 0] 27 (0,0)) (by (with_reducible repeat (first | refine bkN ?_ _ | refine blk_drew ?_ | refine bka ?_ _));exact BK120.out) NB120_0.out (by simp));have n1_:=amk (KeepBut.trans (by repeat (first | (with_reducible first | exact HK.out | apply KeepBut.set_ | apply keep_drewN | apply keep_drew | apply keep_alloc | refine keep_far ?_ GW120.out _) | exact HK.out)) hk (.inl rfl));have n2_:=amk (hb);have n3_:=amk (hi);clear BK120;clear HK;clear HB;clear HI0;have BK120:=n0_;have HK:=n1_;have HB:=n2_;have HI0:=n3_;clear n0_ n1_ n2_ n3_;(try clear hb);(try clear hb2);(try clear hk);(try clear hi)) | ((with_reducible refine gate_dst (N:=3) rfl ?_);refine box_event ?hg (N:=3) ?hd (cs:=#[.int .i64 0,.slice none 0 0,.string (⟨#[]⟩:ByteArray),.int .i64 0]) (t:=27) ?hr ?_;(case hd=>rfl);(case hg=>rfl);(case hr=>first | (go_simp;done) | (go_simp;rfl));intro gb124 hg w8 hbox hb;have n0_:=amk (IsS64.below (by repeat (first | (with_reducible first | exact HI0.out | apply IsS64.alloc | apply IsS64.drewN | apply IsS64.drew | apply IsS64.set_0 | apply IsS64.set_1 | refine IsS64.far ?_ NB0_120.out _) | exact HI0.out)) hb);have n1_:=amk (bkb (g:=gb120) (o:=.cells #[.int .i64 0,.slice none 0 0,.string (⟨#[]⟩:ByteArray),.int .i64 0] 27 (0,0)) (by (with_reducible repeat (first | refine bkN ?_ _ | refine blk_drew ?_ | refine bka ?_ _));exact BK120.out) hb);have n2_:=amk (KeepBut.trans (by repeat (first | (with_reducible first | exact HK.out | apply KeepBut.set_ | apply keep_drewN | apply keep_drew | apply keep_alloc | refine keep_far ?_ GW120.out _) | exact HK.out)) (KeepBut.of_below hb g none) (.inl rfl));have n3_:=amk (bws (by repeat (first | (with_reducible first | exact HB.out | apply bwa | apply pwd | apply bwd | refine bwt ?_ (IsS64.ge HI0.out) | refine bwt ?_ GE120.out) | exact HB.out)) hb);have n4_:=amk (hbox);have n5_:=amk ((by rw [hg];exact (keep_size (w:=w) (g:=g) (row:=none) (by repeat (first | (with_reducible first | exact HK.out | apply KeepBut.set_ | apply keep_drewN | apply keep_drew | apply keep_alloc | refine keep_far ?_ GW120.out _) | exact HK.out))):w.heap.size≤gb124));have n6_:=amk ((Nat.le_trans HW0.out (by rw [hg];exact (keep_size (w:=w) (g:=g) (row:=none) (by repeat (first | (with_reducible first | exact HK.out | apply KeepBut.set_ | apply keep_drewN | apply keep_drew | apply keep_alloc | refine keep_far ?_ GW120.out _) | exact HK.out))):w.heap.size≤gb124):w0.heap.size≤gb124));have n7_:=amk ((by rw [hg];exact Nat.ne_of_lt (blk_lt (g:=gb120) (o:=.cells #[.int .i64 0,.slice none 0 0,.string (⟨#[]⟩:ByteArray),.int .i64 0] 27 (0,0)) (by (with_reducible repeat (first | refine bkN ?_ _ | refine blk_drew ?_ | refine bka ?_ _));exact BK120.out)):gb120 ≠ gb124));have n8_:=amk ((by rw [hg];exact Nat.ne_of_gt (blk_lt (g:=gb120) (o:=.cells #[.int .i64 0,.slice none 0 0,.string (⟨#[]⟩:ByteArray),.int .i64 0] 27 (0,0)) (by (with_reducible repeat (first | refine bkN ?_ _ | refine blk_drew ?_ | refine bka ?_ _));exact BK120.out)):gb124 ≠ gb120));have n9_:=amk ((by rw [hg];exact Nat.ne_of_lt (IsS64.lt (show IsS64 w0 _ g t122 t123 from by repeat (first | (with_reducible first | exact HI0.out | apply IsS64.alloc | apply IsS64.drewN | apply IsS64.drew | apply IsS64.set_0 | apply IsS64.set_1 | refine IsS64.far ?_ NB0_120.out _) | exact HI0.out))):g ≠ gb124));have n10_:=amk ((by rw [hg];exact Nat.ne_of_gt (IsS64.lt (show IsS64 w0 _ g t122 t123 from by repeat (first | (with_reducible first | exact HI0.out | apply IsS64.alloc | apply IsS64.drewN | apply IsS64.drew | apply IsS64.set_0 | apply IsS64.set_1 | refine IsS64.far ?_ NB0_120.out _) | exact HI0.out))):gb124 ≠ g));clear HI0;clear BK120;clear HK;clear HB;have HI0:=n0_;have BK120:=n1_;have HK:=n2_;have HB:=n3_;have BK124:=n4_;have GW124:=n5_;have GE124:=n6_;have NB120_124:=n7_;have NB124_120:=n8_;have NB0_124:=n9_;have NB124_0:=n10_;clear n0_ n1_ n2_ n3_ n4_ n5_ n6_ n7_ n8_ n9_ n10_;clear hb hbox hg;have hnb9:=NB124_120.out;have hnc9:=NB120_124.out;have hnb10:=NB124_0.out;have hnc10:=NB0_124.out;have hcz11_0:w8.cell? ⟨gb124,0,none⟩=some (.int .i64 0):=(bkc BK124.out 0).trans rfl;have hcz11_1:w8.cell? ⟨gb124,1,none⟩=some (.slice none 0 0):=(bkc BK124.out 1).trans rfl;have hcz11_2:w8.cell? ⟨gb124,2,none⟩=some (.string (⟨#[]⟩:ByteArray)):=(bkc BK124.out 2).trans rfl;have hcz11_3:w8.cell? ⟨gb124,3,none⟩=some (.int .i64 0):=(bkc BK124.out 3).trans rfl;have hfz11_0:=bkf BK124.out 0;have hfz11_1:=bkf BK124.out 1;have hfz11_2:=bkf BK124.out 2;have hfz11_3:=bkf BK124.out 3) | ((with_reducible refine gate_callee (f:=51) rfl ?_);refine goesL_ (some 10) rfl rfl Try.func51 (by kernel_rfl) rfl #[.pointer (some ⟨g,0,none⟩),.int .i64 2] rfl (by (try simp only [List.map_toArray,List.map_cons,List.map_nil]);first | done | rfl | (simp only [List.length_drop,List.length_take];rfl)) ?_;(with_reducible refine (control_reader_num.calls k g t122 t123 2 t125 t126 t127 w0 _ ?side1 ?side2 A3.out).mono ?_);(case side1=>repeat (first | (with_reducible first | exact HI0.out | apply IsS64.alloc | apply IsS64.drewN | apply IsS64.drew | apply IsS64.set_0 | apply IsS64.set_1 | refine IsS64.far ?_ NB0_120.out _ | refine IsS64.far ?_ NB0_124.out _) | exact HI0.out));(case side2=>repeat (first | (with_reducible first | exact HB.out | apply bwa | apply pwd | apply bwd | refine bwt ?_ (IsS64.ge HI0.out) | refine bwt ?_ GE120.out | refine bwt ?_ GE124.out) | exact HB.out));rintro e w12 ⟨rfl,hi,hb,hk⟩;refine ⟨_,rfl,?_⟩;have n0_:=amk (KeepBut.blk hk (g':=gb120) (o:=.cells #[.int .i64 0,.slice none 0 0,.string (⟨#[]⟩:ByteArray),.int .i64 0] 27 (0,0)) (by (with_reducible repeat (first | refine bkN ?_ _ | refine blk_drew ?_ | refine bka ?_ _));refine blk_far ?_ NB120_124.out _;(with_reducible repeat (first | refine bkN ?_ _ | refine blk_drew ?_ | refine bka ?_ _));refine blk_far ?_ NB120_124.out _;(with_reducible repeat (first | refine bkN ?_ _ | refine blk_drew ?_ | refine bka ?_ _));refine blk_far ?_ NB120_124.out _;(with_reducible repeat (first | refine bkN ?_ _ | refine blk_drew ?_ | refine bka ?_ _));refine blk_far ?_ NB120_124.out _;(with_reducible repeat (first | refine bkN ?_ _ | refine blk_drew ?_ | refine bka ?_ _));exact BK120.out) NB120_0.out (by simp));have n1_:=amk (KeepBut.blk hk (g':=gb124) (o:=.cells #[.int .i64 t121,.slice none 0 0,.string (⟨#[]⟩:ByteArray),.int .i64 0] 27 (0,0)) (by (with_reducible repeat (first | refine bkN ?_ _ | refine blk_drew ?_ | refine bka ?_ _));refine blk_put (cs:=#[.int .i64 t121,.slice none 0 0,.string (⟨#[]⟩:ByteArray),.int .i64 0]) ?_ 3 _ rfl;(with_reducible repeat (first | refine bkN ?_ _ | refine blk_drew ?_ | refine bka ?_ _));refine blk_put (cs:=#[.int .i64 t121,.slice none 0 0,.string (⟨#[]⟩:ByteArray),.int .i64 0]) ?_ 2 _ rfl;(with_reducible repeat (first | refine bkN ?_ _ | refine blk_drew ?_ | refine bka ?_ _));refine blk_put (cs:=#[.int .i64 t121,.slice none 0 0,.string (⟨#[]⟩:ByteArray),.int .i64 0]) ?_ 1 _ rfl;(with_reducible repeat (first | refine bkN ?_ _ | refine blk_drew ?_ | refine bka ?_ _));refine blk_put (cs:=#[.int .i64 0,.slice none 0 0,.string (⟨#[]⟩:ByteArray),.int .i64 0]) ?_ 0 _ rfl;(with_reducible repeat (first | refine bkN ?_ _ | refine blk_drew ?_ | refine bka ?_ _));exact BK124.out) NB124_0.out (by simp));have n2_:=amk (KeepBut.trans (by repeat (first | (with_reducible first | exact HK.out | apply KeepBut.set_ | apply keep_drewN | apply keep_drew | apply keep_alloc | refine keep_far ?_ GW120.out _ | refine keep_far ?_ GW124.out _) | exact HK.out)) hk (.inl rfl));have n3_:=amk (hb);have n4_:=amk (hi);clear BK120;clear BK124;clear HK;clear HB;clear HI0;have BK120:=n0_;have BK124:=n1_;have HK:=n2_;have HB:=n3_;have HI0:=n4_;clear n0_ n1_ n2_ n3_ n4_;(try clear hb);(try clear hb2);(try clear hk);(try clear hi)) | ((with_reducible refine gate_callee (f:=51) rfl ?_);refine goesL_ (some 13) rfl rfl Try.func51 (by kernel_rfl) rfl #[.pointer (some ⟨g,0,none⟩),.int .i64 2] rfl (by (try simp only [List.map_toArray,List.map_cons,List.map_nil]);first | done | rfl | (simp only [List.length_drop,List.length_take];rfl)) ?_;(with_reducible refine (control_reader_num.calls k g t126 t127 2 t128 t129 t130 w0 _ ?side1 ?side2 A4.out).mono ?_);(case side1=>repeat (first | (with_reducible first | exact HI0.out | apply IsS64.alloc | apply IsS64.drewN | apply IsS64.drew | apply IsS64.set_0 | apply IsS64.set_1 | refine IsS64.far ?_ NB0_120.out _ | refine IsS64.far ?_ NB0_124.out _) | exact HI0.out));(case side2=>repeat (first | (with_reducible first | exact HB.out | apply bwa | apply pwd | apply bwd | refine bwt ?_ (IsS64.ge HI0.out) | refine bwt ?_ GE120.out | refine bwt ?_ GE124.out) | exact HB.out));rintro e w13 ⟨rfl,hi,hb,hk⟩;refine ⟨_,rfl,?_⟩;have n0_:=amk (KeepBut.blk hk (g':=gb120) (o:=.cells #[.int .i64 0,.slice none 0 0,.string (⟨#[]⟩:ByteArray),.int .i64 0] 27 (0,0)) (by (with_reducible repeat (first | refine bkN ?_ _ | refine blk_drew ?_ | refine bka ?_ _));exact BK120.out) NB120_0.out (by simp));have n1_:=amk (KeepBut.blk hk (g':=gb124) (o:=.cells #[.int .i64 t121,.slice none 0 0,.string (⟨#[]⟩:ByteArray),.int .i64 0] 27 (0,0)) (by (with_reducible repeat (first | refine bkN ?_ _ | refine blk_drew ?_ | refine bka ?_ _));exact BK124.out) NB124_0.out (by simp));have n2_:=amk (KeepBut.trans (by repeat (first | (with_reducible first | exact HK.out | apply KeepBut.set_ | apply keep_drewN | apply keep_drew | apply keep_alloc | refine keep_far ?_ GW120.out _ | refine keep_far ?_ GW124.out _) | exact HK.out)) hk (.inl rfl));have n3_:=amk (hb);have n4_:=amk (hi);clear BK120;clear BK124;clear HK;clear HB;clear HI0;have BK120:=n0_;have BK124:=n1_;have HK:=n2_;have HB:=n3_;have HI0:=n4_;clear n0_ n1_ n2_ n3_ n4_;(try clear hb);(try clear hb2);(try clear hk);(try clear hi);have hcz14_0:w13.cell? ⟨gb124,0,none⟩=some (.int .i64 t121):=(bkc BK124.out 0).trans rfl;have hcz14_1:w13.cell? ⟨gb124,1,none⟩=some (.slice none 0 0):=(bkc BK124.out 1).trans rfl;have hcz14_2:w13.cell? ⟨gb124,2,none⟩=some (.string (⟨#[]⟩:ByteArray)):=(bkc BK124.out 2).trans rfl;have hcz14_3:w13.cell? ⟨gb124,3,none⟩=some (.int .i64 0):=(bkc BK124.out 3).trans rfl;have hfz14_0:=bkf BK124.out 0;have hfz14_1:=bkf BK124.out 1;have hfz14_2:=bkf BK124.out 2;have hfz14_3:=bkf BK124.out 3))
 (try simp only [Act.put,List.setIfInBounds_toArray,List.set_cons_zero,List.set_cons_succ])
 go_cut [] (fun wc=>∃ (kq:Nat) (x1001_4:Bool),Aside0 (control_reader_rules.j0 kq (wrap64 (t125+1)) t129 x1001_4 t121 (⟨#[]⟩:ByteArray) t128=some (r1,r2,r3,r4,r5,r6))∧Aside0 (kq≤k)∧Aside0 (wc.heap[gb120]?=some (.cells #[.int .i64 0,(.slice none 0 0),.string (⟨#[]⟩:ByteArray),.int .i64 0] 27 (0,0)))∧Aside0 (wc.heap[gb124]?=some (.cells #[.int .i64 t121,(.slice none 0 0),.string (⟨#[]⟩:ByteArray),.int .i64 t128] 27 (0,0)))∧Aside0 (IsS64 w0 wc g t129 x1001_4)∧Aside0 (KeepBut w wc g none)∧Aside0 (Below w0.heap.size w0 wc))
 case first =>
  have H:=HC5.out
  clear HC5
  by_cases c15:t130=true
  ·subst c15
   have H1:(control_reader_rules.j0 k (wrap64 (t125+1)) t129 true t121 (⟨#[]⟩:ByteArray) t128)=some (r1,r2,r3,r4,r5,r6):=by rw [if_pos rfl] at H;exact H
   clear H
   have H:=H1
   clear H1
   have H':=amk H
   clear H
   obtain ⟨HGz16,hgz16⟩:=HI0.out
   have hcz16_0:=cellS64_0 HGz16
   have hcz16_1:=cellS64_1 HGz16
   have hfz16_0:=bkf HGz16 0
   have hfz16_1:=bkf HGz16 1
   clear HGz16 hgz16
   go_wp2
   go_meet
   case rel=>exact ⟨_,(true),H',⟨by first | omega | exact Nat.le_refl _⟩,⟨by (with_reducible repeat (first | refine bkN ?_ _ | refine blk_drew ?_ | refine bka ?_ _));refine blk_far ?_ NB120_0.out _;(with_reducible repeat (first | refine bkN ?_ _ | refine blk_drew ?_ | refine bka ?_ _));refine blk_far ?_ NB120_124.out _;(with_reducible repeat (first | refine bkN ?_ _ | refine blk_drew ?_ | refine bka ?_ _));exact BK120.out⟩,⟨by (with_reducible repeat (first | refine bkN ?_ _ | refine blk_drew ?_ | refine bka ?_ _));refine blk_far ?_ NB124_0.out _;(with_reducible repeat (first | refine bkN ?_ _ | refine blk_drew ?_ | refine bka ?_ _));refine blk_put (cs:=#[.int .i64 t121,.slice none 0 0,.string (⟨#[]⟩:ByteArray),.int .i64 0]) ?_ 3 _ rfl;(with_reducible repeat (first | refine bkN ?_ _ | refine blk_drew ?_ | refine bka ?_ _));exact BK124.out⟩,⟨by first | exact IsS64.set_1 (IsS64.far HI0.out NB0_124.out _) _ | exact IsS64.set_1 (IsS64.far (IsS64.drewN HI0.out _) NB0_124.out _) _ | (repeat (first | (with_reducible first | exact HI0.out | apply IsS64.alloc | apply IsS64.drewN | apply IsS64.drew | apply IsS64.set_0 | apply IsS64.set_1 | refine IsS64.far ?_ NB0_120.out _ | refine IsS64.far ?_ NB0_124.out _) | exact HI0.out))⟩,⟨by repeat (first | (with_reducible first | exact HK.out | apply KeepBut.set_ | apply keep_drewN | apply keep_drew | apply keep_alloc | refine keep_far ?_ GW120.out _ | refine keep_far ?_ GW124.out _) | exact HK.out)⟩,⟨by repeat (first | (with_reducible first | exact HB.out | apply bwa | apply pwd | apply bwd | refine bwt ?_ (IsS64.ge HI0.out) | refine bwt ?_ GE120.out | refine bwt ?_ GE124.out) | exact HB.out)⟩⟩
  ·replace c15:=Bool.eq_false_iff.mpr c15
   subst c15
   have H1:(control_reader_rules.j0 k (wrap64 (t125+1)) t129 (decide ((wrap64 (t125+1)) > 128)) t121 (⟨#[]⟩:ByteArray) t128)=some (r1,r2,r3,r4,r5,r6):=by rw [if_neg (show ¬ (false=true) by decide)] at H;exact H
   clear H
   have H:=H1
   clear H1
   have H':=amk H
   clear H
   obtain ⟨HGz17,hgz17⟩:=HI0.out
   have hcz17_0:=cellS64_0 HGz17
   have hcz17_1:=cellS64_1 HGz17
   have hfz17_0:=bkf HGz17 0
   have hfz17_1:=bkf HGz17 1
   clear HGz17 hgz17
   go_wp2
   go_meet
   case rel=>exact ⟨_,(decide ((wrap64 (t125+1)) > 128)),H',⟨by first | omega | exact Nat.le_refl _⟩,⟨by (with_reducible repeat (first | refine bkN ?_ _ | refine blk_drew ?_ | refine bka ?_ _));refine blk_far ?_ NB120_0.out _;(with_reducible repeat (first | refine bkN ?_ _ | refine blk_drew ?_ | refine bka ?_ _));refine blk_far ?_ NB120_124.out _;(with_reducible repeat (first | refine bkN ?_ _ | refine blk_drew ?_ | refine bka ?_ _));exact BK120.out⟩,⟨by (with_reducible repeat (first | refine bkN ?_ _ | refine blk_drew ?_ | refine bka ?_ _));refine blk_far ?_ NB124_0.out _;(with_reducible repeat (first | refine bkN ?_ _ | refine blk_drew ?_ | refine bka ?_ _));refine blk_put (cs:=#[.int .i64 t121,.slice none 0 0,.string (⟨#[]⟩:ByteArray),.int .i64 0]) ?_ 3 _ rfl;(with_reducible repeat (first | refine bkN ?_ _ | refine blk_drew ?_ | refine bka ?_ _));exact BK124.out⟩,⟨by first | exact IsS64.set_1 (IsS64.far HI0.out NB0_124.out _) _ | exact IsS64.set_1 (IsS64.far (IsS64.drewN HI0.out _) NB0_124.out _) _ | (repeat (first | (with_reducible first | exact HI0.out | apply IsS64.alloc | apply IsS64.drewN | apply IsS64.drew | apply IsS64.set_0 | apply IsS64.set_1 | refine IsS64.far ?_ NB0_120.out _ | refine IsS64.far ?_ NB0_124.out _) | exact HI0.out))⟩,⟨by repeat (first | (with_reducible first | exact HK.out | apply KeepBut.set_ | apply keep_drewN | apply keep_drew | apply keep_alloc | refine keep_far ?_ GW120.out _ | refine keep_far ?_ GW124.out _) | exact HK.out)⟩,⟨by repeat (first | (with_reducible first | exact HB.out | apply bwa | apply pwd | apply bwd | refine bwt ?_ (IsS64.ge HI0.out) | refine bwt ?_ GE120.out | refine bwt ?_ GE124.out) | exact HB.out)⟩⟩
 case rest =>
  clear HC5
  try clear c1
  try clear p2
  try clear c5
  try clear p6
  try clear c9
  try clear c10
  try clear c15
  try clear hcz11_0
  try clear hcz11_1
  try clear hcz11_2
  try clear hcz11_3
  try clear hcz14_0
  try clear hcz14_1
  try clear hcz14_2
  try clear hcz14_3
  try clear hcz16_0
  try clear hcz16_1
  try clear hcz17_0
  try clear hcz17_1
  try clear hfz11_0
  try clear hfz11_1
  try clear hfz11_2
  try clear hfz11_3
  try clear hfz14_0
  try clear hfz14_1
  try clear hfz14_2
  try clear hfz14_3
  try clear hfz16_0
  try clear hfz16_1
  try clear hfz17_0
  try clear hfz17_1
  obtain ⟨kq,x1001_4,HA,HJ4,BK120,BK124,HI0,HK,HB⟩:=hcut
  cases kq with
  | zero=>exact absurd HA.out (by simp [control_reader_rules.j0])
  | succ kj4 =>
   have H:=HA.out
   clear HA
   simp only [control_reader_rules.j0] at H
   have H':=amk H
   clear H
   go_wp2
   go_loopg [5] kj4 (fun kq v5 w'=>∃ (x5_2:Int) (x1000_2:ByteArray) (x1001_2:Bool) (x125001_2:List Int) (u125001:Value),v5=.int .i64 x5_2∧Aside0 (control_reader_rules.l0 kq (wrap64 (t125+1)) x5_2 x1000_2 x1001_2 t121 x125001_2 (⟨#[]⟩:ByteArray) t128=some (r1,r2,r3,r4,r5,r6))∧Aside0 (kq≤kj4)∧Aside0 (Kd.R (Kd.int .i64) 3 w' w.heap.size (fun _=>True) u125001 x125001_2)∧Aside0 (w'.heap[gb120]?=some (.cells #[.int .i64 0,(.slice none 0 0),.string (⟨#[]⟩:ByteArray),.int .i64 0] 27 (0,0)))∧Aside0 (w'.heap[gb124]?=some (.cells #[.int .i64 t121,u125001,.string (⟨#[]⟩:ByteArray),.int .i64 t128] 27 (0,0)))∧Aside0 (IsS64 w0 w' g x1000_2 x1001_2)∧Aside0 (KeepBut w w' g none)∧Aside0 (Below w0.heap.size w0 w'))
   case atStart=>exact ⟨(0),(t129),(x1001_4),(([]:List Int)),(.slice none 0 0),(by first | rfl | (simp;done) | (simp [*];done)),H',⟨Nat.le_refl _⟩,⟨by first | exact Kd.R_nil _ _ _ _ _ | exact Kd.N_nil _ _ _ _ _ | exact Kd.V_nil _ _ _ _ _ | exact Kd.Q_nil _ _ _ _ _ | exact Kd.S_nil _ _ _ _ _⟩,⟨by (with_reducible repeat (first | refine bkN ?_ _ | refine blk_drew ?_ | refine bka ?_ _));exact BK120.out⟩,⟨by (with_reducible repeat (first | refine bkN ?_ _ | refine blk_drew ?_ | refine bka ?_ _));exact BK124.out⟩,⟨by first | exact IsS64.set_1 (IsS64.far HI0.out NB0_124.out _) _ | exact IsS64.set_1 (IsS64.far (IsS64.drewN HI0.out _) NB0_124.out _) _ | (repeat (first | (with_reducible first | exact HI0.out | apply IsS64.alloc | apply IsS64.drewN | apply IsS64.drew | apply IsS64.set_0 | apply IsS64.set_1 | refine IsS64.far ?_ NB0_120.out _ | refine IsS64.far ?_ NB0_124.out _) | exact HI0.out))⟩,⟨by repeat (first | (with_reducible first | exact HK.out | apply KeepBut.set_ | apply keep_drewN | apply keep_drew | apply keep_alloc | refine keep_far ?_ GW120.out _ | refine keep_far ?_ GW124.out _) | exact HK.out)⟩,⟨by repeat (first | (with_reducible first | exact HB.out | apply bwa | apply pwd | apply bwd | refine bwt ?_ (IsS64.ge HI0.out) | refine bwt ?_ GE120.out | refine bwt ?_ GE124.out) | exact HB.out)⟩⟩
   case round =>
    clear H'
    try clear c1
    try clear p2
    try clear c5
    try clear p6
    try clear c9
    try clear c10
    try clear c15
    try clear hcz11_0
    try clear hcz11_1
    try clear hcz11_2
    try clear hcz11_3
    try clear hcz14_0
    try clear hcz14_1
    try clear hcz14_2
    try clear hcz14_3
    try clear hcz16_0
    try clear hcz16_1
    try clear hcz17_0
    try clear hcz17_1
    try clear hfz11_0
    try clear hfz11_1
    try clear hfz11_2
    try clear hfz11_3
    try clear hfz14_0
    try clear hfz14_1
    try clear hfz14_2
    try clear hfz14_3
    try clear hfz16_0
    try clear hfz16_1
    try clear hfz17_0
    try clear hfz17_1
    try clear p2
    try clear p6
    obtain ⟨x5_2,x1000_2,x1001_2,x125001_2,u125001,rfl,HA,HK2,HO_125001,BK120,BK124,HI0,HK,HB⟩:=hrel
    cases gk with
    | zero=>exact absurd HA.out (by simp [control_reader_rules.l0])
    | succ k2 =>
     have H:=HA.out
     clear HA
     simp only [control_reader_rules.l0] at H
     by_cases c18:x5_2 < (wrap64 (t125+1))
     ·rw [if_pos c18] at H
      have c18b0:decide (x5_2 < (wrap64 (t125+1)))=true:=decide_eq_true c18
      clear c18
      by_cases c19:x1001_2=true
      ·subst c19
       have H1:(some (t121,x125001_2,(⟨#[]⟩:ByteArray),t128,x1000_2,true))=some (r1,r2,r3,r4,r5,r6):=by rw [if_pos rfl] at H;exact H
       clear H
       have H:=H1
       clear H1
       simp only [Option.some.injEq,Prod.mk.injEq] at H
       obtain ⟨rfl,rfl,rfl,rfl,rfl,rfl⟩:=H
       obtain ⟨HGz20,hgz20⟩:=HI0.out
       have hcz20_0:=cellS64_0 HGz20
       have hcz20_1:=cellS64_1 HGz20
       have hfz20_0:=bkf HGz20 0
       have hfz20_1:=bkf HGz20 1
       clear HGz20 hgz20
       have hnb21:=NB124_120.out
       have hnc21:=NB120_124.out
       have hnb22:=NB124_0.out
       have hnc22:=NB0_124.out
       have hcz23_0:wr.cell? ⟨gb124,0,none⟩=some (.int .i64 t121):=(bkc BK124.out 0).trans rfl
       have hcz23_1:wr.cell? ⟨gb124,1,none⟩=some (u125001):=(bkc BK124.out 1).trans rfl
       have hcz23_2:wr.cell? ⟨gb124,2,none⟩=some (.string (⟨#[]⟩:ByteArray)):=(bkc BK124.out 2).trans rfl
       have hcz23_3:wr.cell? ⟨gb124,3,none⟩=some (.int .i64 t128):=(bkc BK124.out 3).trans rfl
       have hfz23_0:=bkf BK124.out 0
       have hfz23_1:=bkf BK124.out 1
       have hfz23_2:=bkf BK124.out 2
       have hfz23_3:=bkf BK124.out 3
       have hnb24:=NB120_0.out
       have hnc24:=NB0_120.out
       have hcz25_0:wr.cell? ⟨gb120,0,none⟩=some (.int .i64 0):=(bkc BK120.out 0).trans rfl
       have hcz25_1:wr.cell? ⟨gb120,1,none⟩=some (.slice none 0 0):=(bkc BK120.out 1).trans rfl
       have hcz25_2:wr.cell? ⟨gb120,2,none⟩=some (.string (⟨#[]⟩:ByteArray)):=(bkc BK120.out 2).trans rfl
       have hcz25_3:wr.cell? ⟨gb120,3,none⟩=some (.int .i64 0):=(bkc BK120.out 3).trans rfl
       have hfz25_0:=bkf BK120.out 0
       have hfz25_1:=bkf BK120.out 1
       have hfz25_2:=bkf BK120.out 2
       have hfz25_3:=bkf BK120.out 3
       obtain ⟨Ao26,co26,eo26⟩:=Kd.R_slice HO_125001.out
       subst eo26
       go_wp2
       refine bodyPost_ret (results_cell_row rfl _ _ gb120 27 #[.int .i64 t121,.slice Ao26 x125001_2.length co26,.string (⟨#[]⟩:ByteArray),.int .i64 t128] (0,0) _ rfl (by (with_reducible repeat (first | refine bkN ?_ _ | refine blk_drew ?_ | refine bka ?_ _));refine blk_put (cs:=#[.int .i64 t121,.slice Ao26 x125001_2.length co26,.string (⟨#[]⟩:ByteArray),.int .i64 0]) ?_ 3 _ rfl;(with_reducible repeat (first | refine bkN ?_ _ | refine blk_drew ?_ | refine bka ?_ _));refine blk_put (cs:=#[.int .i64 t121,.slice Ao26 x125001_2.length co26,.string (⟨#[]⟩:ByteArray),.int .i64 0]) ?_ 2 _ rfl;(with_reducible repeat (first | refine bkN ?_ _ | refine blk_drew ?_ | refine bka ?_ _));refine blk_put (cs:=#[.int .i64 t121,.slice none 0 0,.string (⟨#[]⟩:ByteArray),.int .i64 0]) ?_ 1 _ rfl;(with_reducible repeat (first | refine bkN ?_ _ | refine blk_drew ?_ | refine bka ?_ _));refine blk_put (cs:=#[.int .i64 0,.slice none 0 0,.string (⟨#[]⟩:ByteArray),.int .i64 0]) ?_ 0 _ rfl;(with_reducible repeat (first | refine bkN ?_ _ | refine blk_drew ?_ | refine bka ?_ _));exact BK120.out) Try.underlying27 rfl (by kernel_rfl)) rfl ?_
       exact ⟨_,by first | rfl | (simp [eWn,eWs] <;> rfl) | (simp [*,eWn,eWs] <;> rfl),by (with_reducible repeat (first | apply Kd.R_alloc | apply Kd.R_drewN | apply Kd.R_drew));exact Kd.R_mono (Kd.R_far (p:=⟨gb120,3,none⟩) (Kd.R_far (p:=⟨gb120,2,none⟩) (Kd.R_far (p:=⟨gb120,1,none⟩) (Kd.R_far (p:=⟨gb120,0,none⟩) (Kd.R_types HO_125001.out BK120.out (by decide)) (fun _ hk=>hk.2) (.int .i64 t121)) (fun _ hk=>hk.2) (.slice Ao26 x125001_2.length co26)) (fun _ hk=>hk.2) (.string (⟨#[]⟩:ByteArray))) (fun _ hk=>hk.2) (.int .i64 t128)) (fun _ hk=>trivial),by repeat (first | (with_reducible first | exact HI0.out | apply IsS64.alloc | apply IsS64.drewN | apply IsS64.drew | apply IsS64.set_0 | apply IsS64.set_1 | refine IsS64.far ?_ NB0_120.out _ | refine IsS64.far ?_ NB0_124.out _) | exact HI0.out),by repeat (first | (with_reducible first | exact HB.out | apply bwa | apply pwd | apply bwd | refine bwt ?_ (IsS64.ge HI0.out) | refine bwt ?_ GE120.out | refine bwt ?_ GE124.out) | exact HB.out),by repeat (first | (with_reducible first | exact HK.out | apply KeepBut.set_ | apply keep_drewN | apply keep_drew | apply keep_alloc | refine keep_far ?_ GW120.out _ | refine keep_far ?_ GW124.out _) | exact HK.out)⟩
      ·replace c19:=Bool.eq_false_iff.mpr c19
       subst c19
       have H1:((control_reader_num.f k2 x1000_2 false 2).bind fun bt131=>(if x125001_2.length < 17592186044416 then (control_reader_rules.l0 k2 (wrap64 (t125+1)) (wrap64 (x5_2+1)) bt131.2.1 bt131.2.2 t121 (x125001_2 ++ [bt131.1]) (⟨#[]⟩:ByteArray) t128) else (none)))=some (r1,r2,r3,r4,r5,r6):=by rw [if_neg (show ¬ (false=true) by decide)] at H;exact H
       clear H
       have H:=H1
       clear H1
       replace H:=Option.bind_eq_some_iff.mp H
       obtain ⟨⟨t131,t132,t133⟩,A270,H⟩:=H
       replace H:(if x125001_2.length < 17592186044416 then (control_reader_rules.l0 k2 (wrap64 (t125+1)) (wrap64 (x5_2+1)) t132 t133 t121 (x125001_2 ++ [t131]) (⟨#[]⟩:ByteArray) t128) else (none))=some (r1,r2,r3,r4,r5,r6):=H
       have A27:=amk A270
       clear A270
       by_cases c28:x125001_2.length < 17592186044416
       ·rw [if_pos c28] at H
        have LMc28:=amk c28
        clear c28
        obtain ⟨y134,hy134⟩:∃ y_:List Int,y_=(x125001_2 ++ [t131]):=⟨_,rfl⟩
        replace H:(control_reader_rules.l0 k2 (wrap64 (t125+1)) (wrap64 (x5_2+1)) t132 t133 t121 y134 (⟨#[]⟩:ByteArray) t128)=some (r1,r2,r3,r4,r5,r6):=by first | (rw [hy134];with_reducible exact H) | (have H2_:=(Option.bind_some _ _).symm.trans H;rw [hy134];with_reducible exact H2_) | (have H2_:=(Option.bind_some _ _).symm.trans H;with_reducible exact H2_) | with_reducible exact H | (rw [hy134];exact H) | exact H
        have Ny134:=amk hy134
        clear hy134
        have H':=amk H
        clear H
        obtain ⟨HGz29,hgz29⟩:=HI0.out
        have hcz29_0:=cellS64_0 HGz29
        have hcz29_1:=cellS64_1 HGz29
        have hfz29_0:=bkf HGz29 0
        have hfz29_1:=bkf HGz29 1
        clear HGz29 hgz29
        try go_wp2
        have n0_:=amk (Kd.R_drew HO_125001.out)
        have n1_:=amk (blk_drew BK120.out)
        have n2_:=amk (blk_drew BK124.out)
        have n3_:=amk (IsS64.drew HI0.out)
        have n4_:=amk (keep_drew HK.out)
        have n5_:=amk (bwd HB.out)
        clear HO_125001
        clear BK120
        clear BK124
        clear HI0
        clear HK
        clear HB
        have HO_125001:=n0_
        have BK120:=n1_
        have BK124:=n2_
        have HI0:=n3_
        have HK:=n4_
        have HB:=n5_
        clear n0_ n1_ n2_ n3_ n4_ n5_
        refine start_ (n:=8) (S:=fun w'=>w'.cell? ⟨gb124,0,none⟩=some (.int .i64 t121)∧w'.cell? ⟨gb124,1,none⟩=some (u125001)∧w'.cell? ⟨gb124,2,none⟩=some (.string (⟨#[]⟩:ByteArray))∧w'.cell? ⟨gb124,3,none⟩=some (.int .i64 t128)) (ds:=[7]) (bsq 8 0) (by kernel_rfl) rfl rfl ⟨(bkc BK124.out 0).trans rfl,(bkc BK124.out 1).trans rfl,(bkc BK124.out 2).trans rfl,(bkc BK124.out 3).trans rfl⟩ (fun hHeld=>?_);refine with_tabW control_reader_rules.tab8 control_reader_rules.bits8 (fun HT_ HW_=>?_)
        generalize wr.drew=w30 at HO_125001 BK120 BK124 HI0 HK HB hHeld ⊢
        refine pure_ (i:=0) (N:=some 38) (v:=?_) (a':=?_) (bsq 8 1) rfl rfl (any_of HT_.out (by kernel_rfl)) (fun _ _ _ h=>h) (Or.inl ⟨by rfl,?_⟩) ?_ ?_
        rotate_left
        ·intro w'
         go_simp
         with_reducible rfl
        rotate_left
        ·simp only [Act.put,bq1,bq2,bq3,i64_w,i32_w]
         rfl
        refine pure_ (i:=2) (N:=some 40) (v:=?_) (a':=?_) (bsq 8 5) rfl rfl (any_of HT_.out (by kernel_rfl)) (fun _ _ _ h=>h) (Or.inl ⟨by rfl,?_⟩) ?_ ?_
        rotate_left
        ·intro w'
         go_simp
         with_reducible rfl
        rotate_left
        ·simp only [Act.put,bq1,bq2,bq3,i64_w,i32_w]
         rfl
        refine take_ (i:=1) (N:=some 39) (v:=?_) (a':=?_) (bsq 8 7) rfl rfl (take_ofW HT_.out HW_.out (by kernel_rfl)) (fun _ _ _ h=>h) (Or.inl ⟨by rfl,?_⟩) hHeld ?_ ?_
        rotate_left
        ·rintro w' ⟨s0,s1,s2,s3⟩
         go_simp
         with_reducible rfl
        rotate_left
        ·simp only [Act.put,bq1,bq2,bq3,i64_w,i32_w]
         rfl
        refine one_ (i:=3) (N:=some 41) (bsq 8 15) rfl rfl (one_of HT_.out (by kernel_rfl)) (by decide) (fun K hK=>?_)
        refine goes_ Try.func51 (by kernel_rfl) rfl #[.pointer (some ⟨g,0,none⟩),.int .i64 2] (by rfl) rfl rfl (by (try simp only [List.map_toArray,List.map_cons,List.map_nil]);first | done | rfl | (simp only [List.length_drop,List.length_take];rfl)) ?_
        with_reducible refine (control_reader_num.calls k2 g x1000_2 false 2 t131 t132 t133 w0 _ ?side1 ?side2 A27.out).mono ?_
        (case side1=>repeat (first | (with_reducible first | exact HI0.out | apply IsS64.alloc | apply IsS64.drewN | apply IsS64.drew | apply IsS64.set_0 | apply IsS64.set_1 | refine IsS64.far ?_ NB0_120.out _ | refine IsS64.far ?_ NB0_124.out _) | exact HI0.out))
        (case side2=>repeat (first | (with_reducible first | exact HB.out | apply bwa | apply pwd | apply bwd | refine bwt ?_ (IsS64.ge HI0.out) | refine bwt ?_ GE120.out | refine bwt ?_ GE124.out) | exact HB.out))
        rintro e w31 ⟨rfl,hi,hb,hk⟩
        refine ⟨_,rfl,?_⟩
        have n0_:=amk (Kd.R_mono (Kd.R_keep (IsS64.apart (show IsS64 w0 _ g x1000_2 false from by repeat (first | (with_reducible first | exact HI0.out | apply IsS64.alloc | apply IsS64.drewN | apply IsS64.drew | apply IsS64.set_0 | apply IsS64.set_1 | refine IsS64.far ?_ NB0_120.out _ | refine IsS64.far ?_ NB0_124.out _) | exact HI0.out)) (by (with_reducible repeat (first | apply Kd.R_alloc | apply Kd.R_drewN | apply Kd.R_drew));exact HO_125001.out) (by decide)) hk (fun _ h=>h.2)) (fun _ h=>h.1))
        have n1_:=amk (KeepBut.blk hk (g':=gb120) (o:=.cells #[.int .i64 0,.slice none 0 0,.string (⟨#[]⟩:ByteArray),.int .i64 0] 27 (0,0)) (by (with_reducible repeat (first | refine bkN ?_ _ | refine blk_drew ?_ | refine bka ?_ _));exact BK120.out) NB120_0.out (by simp))
        have n2_:=amk (KeepBut.blk hk (g':=gb124) (o:=.cells #[.int .i64 t121,u125001,.string (⟨#[]⟩:ByteArray),.int .i64 t128] 27 (0,0)) (by (with_reducible repeat (first | refine bkN ?_ _ | refine blk_drew ?_ | refine bka ?_ _));exact BK124.out) NB124_0.out (by simp))
        have n3_:=amk (KeepBut.trans (by repeat (first | (with_reducible first | exact HK.out | apply KeepBut.set_ | apply keep_drewN | apply keep_drew | apply keep_alloc | refine keep_far ?_ GW120.out _ | refine keep_far ?_ GW124.out _) | exact HK.out)) hk (.inl rfl))
        have n4_:=amk (hb)
        have n5_:=amk (hi)
        clear HO_125001
        clear BK120
        clear BK124
        clear HK
        clear HB
        clear HI0
        have HO_125001:=n0_
        have BK120:=n1_
        have BK124:=n2_
        have HK:=n3_
        have HB:=n4_
        have HI0:=n5_
        clear n0_ n1_ n2_ n3_ n4_ n5_
        (try clear hb)
        (try clear hb2)
        (try clear hk)
        (try clear hi)
        refine hK.out _ _ ⟨(bkc BK124.out 0).trans rfl,(bkc BK124.out 1).trans rfl,(bkc BK124.out 2).trans rfl,(bkc BK124.out 3).trans rfl⟩ (fun hHeld=>?_)
        clear hK K
        refine norm_ (a':=?_) ?_ ?_
        rotate_left
        ·show Act.put _ (some 41) _=_
         simp only [Act.put,bq1,bq2,bq3,i64_w,i32_w]
         rfl
        refine one_ (i:=4) (N:=some 42) (bsq 8 31) rfl rfl (one_of HT_.out (by kernel_rfl)) (by decide) (fun K hK=>?_)
        refine value_ (w1:=?_) (v:=?_) (by rfl) rfl ?_ ?_
        rotate_left 2
        ·go_simp
         constructor
         ·rfl
         ·rfl
        refine hK.out _ _ ⟨(bkc (bka BK124.out _) 0).trans rfl,(bkc (bka BK124.out _) 1).trans rfl,(bkc (bka BK124.out _) 2).trans rfl,(bkc (bka BK124.out _) 3).trans rfl⟩ (fun hHeld=>?_)
        clear hK K
        refine norm_ (a':=?_) ?_ ?_
        rotate_left
        ·show Act.put _ (some 42) _=_
         simp only [Act.put,bq1,bq2,bq3,i64_w,i32_w]
         rfl
        refine one_ (i:=5) (N:=some 43) (bsq 8 63) rfl rfl (one_of HT_.out (by kernel_rfl)) (by decide) (fun K hK=>?_)
        refine Kd.R_append_step (Kd.int .i64) w.heap.size (by rfl) (.tmp 39) (.tmp 42) 23 3 (.int .i64 0) 8 rfl Try.underlying23 info3 rfl (by decide) (by omega) u125001 x125001_2 t131 [.int .i64 t131] (fun _=>True) (fun _=>False) rfl rfl ?aP (fun _ hk=>hk.elim) ?aF ?aO (Below.refl _ _) ?aS ?aL ?_
        (case aP=>exact rfl)
        (case aF=>exact (fun _ _=>trivial))
        (case aO=>exact (by (with_reducible repeat (first | apply Kd.R_alloc | apply Kd.R_drewN | apply Kd.R_drew));exact HO_125001.out))
        (case aS=>exact (keep_size (w:=w) (g:=g) (row:=none) (by repeat (first | (with_reducible first | exact HK.out | apply KeepBut.set_ | apply keep_drewN | apply keep_drew | apply keep_alloc | refine keep_far ?_ GW120.out _ | refine keep_far ?_ GW124.out _) | exact HK.out))))
        (case aL=>have:=LMc28.out;omega)
        intro v135 w32 ho hb hg hat
        rw [← Ny134.out] at ho
        have n0_:=amk (blk_grown (g:=gb120) (o:=.cells #[.int .i64 0,.slice none 0 0,.string (⟨#[]⟩:ByteArray),.int .i64 0] 27 (0,0)) (by (with_reducible repeat (first | refine bkN ?_ _ | refine blk_drew ?_ | refine bka ?_ _));exact BK120.out) hg (Kd.R_ne HO_125001.out BK120.out (by decide)))
        have n1_:=amk (blk_grown (g:=gb124) (o:=.cells #[.int .i64 t121,u125001,.string (⟨#[]⟩:ByteArray),.int .i64 t128] 27 (0,0)) (by (with_reducible repeat (first | refine bkN ?_ _ | refine blk_drew ?_ | refine bka ?_ _));exact BK124.out) hg (Kd.R_ne HO_125001.out BK124.out (by decide)))
        have n2_:=amk (IsS64.grown (by repeat (first | (with_reducible first | exact HI0.out | apply IsS64.alloc | apply IsS64.drewN | apply IsS64.drew | apply IsS64.set_0 | apply IsS64.set_1 | refine IsS64.far ?_ NB0_120.out _ | refine IsS64.far ?_ NB0_124.out _) | exact HI0.out)) hg (IsS64.own_ne HI0.out HO_125001.out (by decide)))
        have n3_:=amk (below_weaken (by repeat (first | (with_reducible first | exact HB.out | apply bwa | apply pwd | apply bwd | refine bwt ?_ (IsS64.ge HI0.out) | refine bwt ?_ GE120.out | refine bwt ?_ GE124.out) | exact HB.out)) HL.out hb)
        have n4_:=amk (KeepBut.trans (by repeat (first | (with_reducible first | exact HK.out | apply KeepBut.set_ | apply keep_drewN | apply keep_drew | apply keep_alloc | refine keep_far ?_ GW120.out _ | refine keep_far ?_ GW124.out _) | exact HK.out)) (KeepBut.of_grown hg g) (Kd.R_base2 HO_125001.out))
        have n5_:=amk (ho)
        clear BK120
        clear BK124
        clear HI0
        clear HB
        clear HK
        clear HO_125001
        have BK120:=n0_
        have BK124:=n1_
        have HI0:=n2_
        have HB:=n3_
        have HK:=n4_
        have HO136:=n5_
        clear n0_ n1_ n2_ n3_ n4_ n5_
        clear ho hb hg hat
        obtain ⟨Ao33,co33,eo33⟩:=Kd.R_slice HO136.out
        (first | subst eo33 | (injection eo33 with f1_ f2_ f3_;have f4_:=f1_.symm;have f5_:=f3_.symm;clear f1_ f2_ f3_;subst f4_;subst f5_))
        refine hK.out _ _ ⟨(bkc BK124.out 0).trans rfl,(bkc BK124.out 1).trans rfl,(bkc BK124.out 2).trans rfl,(bkc BK124.out 3).trans rfl⟩ (fun hHeld=>?_)
        clear hK K
        refine norm_ (a':=?_) ?_ ?_
        rotate_left
        ·show Act.put _ (some 43) _=_
         simp only [Act.put,bq1,bq2,bq3,i64_w,i32_w]
         rfl
        refine pure_ (i:=6) (N:=some 44) (v:=?_) (a':=?_) (bsq 8 127) rfl rfl (any_of HT_.out (by kernel_rfl)) (fun _ _ _ h=>h) (Or.inl ⟨by rfl,?_⟩) ?_ ?_
        rotate_left
        ·intro w'
         go_simp
         with_reducible rfl
        rotate_left
        ·simp only [Act.put,bq1,bq2,bq3,i64_w,i32_w]
         rfl
        refine last_ (i:=7) (N:=none) (bsq 8 255) rfl rfl (one_of HT_.out (by kernel_rfl)) (by decide) (fun K hK=>?_)
        have hs34:w32.cell? ⟨gb124,1,none⟩=some (u125001):=(bkc BK124.out 1).trans rfl
        have hfs34:=bkf BK124.out 1
        have hns34_0:=NB120_124.out
        have hms34_0:=NB124_120.out
        refine skip_ (w1:=?_) (by rfl) rfl ?_ ?_
        rotate_left
        ·go_simp
         rfl
        refine hK.out _ _ ?_
        clear hK K
        refine done_ (done_of HT_.out (by kernel_rfl)) ?_
        try go_wp2
        go_roundg k2
        case measure=>have:=HJ4.out;have:=HK2.out;omega
        case rel=>exact ⟨(wrap64 (x5_2+1)),(t132),(t133),(y134),(.slice Ao33 y134.length co33),(by first | rfl | (simp;done) | (simp [*];done)),H',⟨by have:=HJ4.out;have:=HK2.out;omega⟩,⟨by (with_reducible repeat (first | apply Kd.R_alloc | apply Kd.R_drewN | apply Kd.R_drew));exact Kd.R_mono (Kd.R_far (p:=⟨gb124,1,none⟩) (Kd.R_types HO136.out BK124.out (by decide)) (fun _ hk=>hk.2) (.slice Ao33 y134.length co33)) (fun _ hk=>trivial)⟩,⟨by (with_reducible repeat (first | refine bkN ?_ _ | refine blk_drew ?_ | refine bka ?_ _));refine blk_far ?_ NB120_124.out _;(with_reducible repeat (first | refine bkN ?_ _ | refine blk_drew ?_ | refine bka ?_ _));exact BK120.out⟩,⟨by (with_reducible repeat (first | refine bkN ?_ _ | refine blk_drew ?_ | refine bka ?_ _));refine blk_put (cs:=#[.int .i64 t121,u125001,.string (⟨#[]⟩:ByteArray),.int .i64 t128]) ?_ 1 _ rfl;(with_reducible repeat (first | refine bkN ?_ _ | refine blk_drew ?_ | refine bka ?_ _));exact BK124.out⟩,⟨by first | exact IsS64.set_1 (IsS64.far HI0.out NB0_124.out _) _ | exact IsS64.set_1 (IsS64.far (IsS64.drewN HI0.out _) NB0_124.out _) _ | (repeat (first | (with_reducible first | exact HI0.out | apply IsS64.alloc | apply IsS64.drewN | apply IsS64.drew | apply IsS64.set_0 | apply IsS64.set_1 | refine IsS64.far ?_ NB0_120.out _ | refine IsS64.far ?_ NB0_124.out _) | exact HI0.out))⟩,⟨by repeat (first | (with_reducible first | exact HK.out | apply KeepBut.set_ | apply keep_drewN | apply keep_drew | apply keep_alloc | refine keep_far ?_ GW120.out _ | refine keep_far ?_ GW124.out _) | exact HK.out)⟩,⟨by repeat (first | (with_reducible first | exact HB.out | apply bwa | apply pwd | apply bwd | refine bwt ?_ (IsS64.ge HI0.out) | refine bwt ?_ GE120.out | refine bwt ?_ GE124.out) | exact HB.out)⟩⟩
       ·rw [if_neg c28] at H
        exact absurd H (by simp)
     ·rw [if_neg c18] at H
      have c18b0:decide (x5_2 < (wrap64 (t125+1)))=false:=decide_eq_false c18
      clear c18
      simp only [Option.some.injEq,Prod.mk.injEq] at H
      obtain ⟨rfl,rfl,rfl,rfl,rfl,rfl⟩:=H
      have hnb35:=NB124_120.out
      have hnc35:=NB120_124.out
      have hnb36:=NB124_0.out
      have hnc36:=NB0_124.out
      have hcz37_0:wr.cell? ⟨gb124,0,none⟩=some (.int .i64 t121):=(bkc BK124.out 0).trans rfl
      have hcz37_1:wr.cell? ⟨gb124,1,none⟩=some (u125001):=(bkc BK124.out 1).trans rfl
      have hcz37_2:wr.cell? ⟨gb124,2,none⟩=some (.string (⟨#[]⟩:ByteArray)):=(bkc BK124.out 2).trans rfl
      have hcz37_3:wr.cell? ⟨gb124,3,none⟩=some (.int .i64 t128):=(bkc BK124.out 3).trans rfl
      have hfz37_0:=bkf BK124.out 0
      have hfz37_1:=bkf BK124.out 1
      have hfz37_2:=bkf BK124.out 2
      have hfz37_3:=bkf BK124.out 3
      have hnb38:=NB120_0.out
      have hnc38:=NB0_120.out
      have hcz39_0:wr.cell? ⟨gb120,0,none⟩=some (.int .i64 0):=(bkc BK120.out 0).trans rfl
      have hcz39_1:wr.cell? ⟨gb120,1,none⟩=some (.slice none 0 0):=(bkc BK120.out 1).trans rfl
      have hcz39_2:wr.cell? ⟨gb120,2,none⟩=some (.string (⟨#[]⟩:ByteArray)):=(bkc BK120.out 2).trans rfl
      have hcz39_3:wr.cell? ⟨gb120,3,none⟩=some (.int .i64 0):=(bkc BK120.out 3).trans rfl
      have hfz39_0:=bkf BK120.out 0
      have hfz39_1:=bkf BK120.out 1
      have hfz39_2:=bkf BK120.out 2
      have hfz39_3:=bkf BK120.out 3
      obtain ⟨Ao40,co40,eo40⟩:=Kd.R_slice HO_125001.out
      subst eo40
      go_wp2
      refine bodyPost_ret (results_cell_row rfl _ _ gb120 27 #[.int .i64 t121,.slice Ao40 x125001_2.length co40,.string (⟨#[]⟩:ByteArray),.int .i64 t128] (0,0) _ rfl (by (with_reducible repeat (first | refine bkN ?_ _ | refine blk_drew ?_ | refine bka ?_ _));refine blk_put (cs:=#[.int .i64 t121,.slice Ao40 x125001_2.length co40,.string (⟨#[]⟩:ByteArray),.int .i64 0]) ?_ 3 _ rfl;(with_reducible repeat (first | refine bkN ?_ _ | refine blk_drew ?_ | refine bka ?_ _));refine blk_put (cs:=#[.int .i64 t121,.slice Ao40 x125001_2.length co40,.string (⟨#[]⟩:ByteArray),.int .i64 0]) ?_ 2 _ rfl;(with_reducible repeat (first | refine bkN ?_ _ | refine blk_drew ?_ | refine bka ?_ _));refine blk_put (cs:=#[.int .i64 t121,.slice none 0 0,.string (⟨#[]⟩:ByteArray),.int .i64 0]) ?_ 1 _ rfl;(with_reducible repeat (first | refine bkN ?_ _ | refine blk_drew ?_ | refine bka ?_ _));refine blk_put (cs:=#[.int .i64 0,.slice none 0 0,.string (⟨#[]⟩:ByteArray),.int .i64 0]) ?_ 0 _ rfl;(with_reducible repeat (first | refine bkN ?_ _ | refine blk_drew ?_ | refine bka ?_ _));exact BK120.out) Try.underlying27 rfl (by kernel_rfl)) rfl ?_
      exact ⟨_,by first | rfl | (simp [eWn,eWs] <;> rfl) | (simp [*,eWn,eWs] <;> rfl),by (with_reducible repeat (first | apply Kd.R_alloc | apply Kd.R_drewN | apply Kd.R_drew));exact Kd.R_mono (Kd.R_far (p:=⟨gb120,3,none⟩) (Kd.R_far (p:=⟨gb120,2,none⟩) (Kd.R_far (p:=⟨gb120,1,none⟩) (Kd.R_far (p:=⟨gb120,0,none⟩) (Kd.R_types HO_125001.out BK120.out (by decide)) (fun _ hk=>hk.2) (.int .i64 t121)) (fun _ hk=>hk.2) (.slice Ao40 x125001_2.length co40)) (fun _ hk=>hk.2) (.string (⟨#[]⟩:ByteArray))) (fun _ hk=>hk.2) (.int .i64 t128)) (fun _ hk=>trivial),by repeat (first | (with_reducible first | exact HI0.out | apply IsS64.alloc | apply IsS64.drewN | apply IsS64.drew | apply IsS64.set_0 | apply IsS64.set_1 | refine IsS64.far ?_ NB0_120.out _ | refine IsS64.far ?_ NB0_124.out _) | exact HI0.out),by repeat (first | (with_reducible first | exact HB.out | apply bwa | apply pwd | apply bwd | refine bwt ?_ (IsS64.ge HI0.out) | refine bwt ?_ GE120.out | refine bwt ?_ GE124.out) | exact HB.out),by repeat (first | (with_reducible first | exact HK.out | apply KeepBut.set_ | apply keep_drewN | apply keep_drew | apply keep_alloc | refine keep_far ?_ GW120.out _ | refine keep_far ?_ GW124.out _) | exact HK.out)⟩

end Go.Proofs.Ytkgbhlcbjflnlaa.P
