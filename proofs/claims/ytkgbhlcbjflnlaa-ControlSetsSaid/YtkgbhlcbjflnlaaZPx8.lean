/- What functions of the program compute, each with the walk that shows it: by a program (a turned copy of the kit's print; wip/myprint.py). -/
import Derived.Test.YtkgbhlcbjflnlaaZPx0
import Derived.Test.YtkgbhlcbjflnlaaZPx6
import Derived.Test.YtkgbhlcbjflnlaaZBs
namespace Go.Proofs.Ytkgbhlcbjflnlaa.P
open Go.RowKit Go.Proofs.YtkgbhlcbjflnlaaW.PrintWords Go.Proofs.YtkgbhlcbjflnlaaW.PrintLast Go.Proofs.YtkgbhlcbjflnlaaW.PrintMore
attribute [local go_sem] max2_int min2_int max_two min_two max_three min_three max_four min_four   -- for this text's walks alone
set_option linter.unusedVariables false
set_option linter.unusedSimpArgs false

/-! ### control_Rules: function 23 -/
def control_Rules.l0:Nat→Int→ByteArray→List Int→Int→Int→Int→List Int→ByteArray→Int→Option (ByteArray)
 | 0,_,_,_,_,_,_,_,_,_=>none
 | k+1,x1,x5,x23,x24,x25,x188000,x188001,x188002,x188003=>if x25 < x24 then (if 0≤x25 then (if x25 < (x23.length:Int) then ((control_low.f k (rd x23 x25) 2).bind fun t196=>(if x5.size+t196.size≤9223372036854775807 then (control_Rules.l0 k x1 (x5 ++ t196) x23 x24 (wrap64 (x25+1)) x188000 x188001 x188002 x188003) else (none))) else (none)) else (none)) else ((control_low.f k x1 2).bind fun t197=>(if x5.size+t197.size≤9223372036854775807 then ((control_low.f k (x188002.size:Int) 1).bind fun t198=>(if (x5 ++ t197).size+t198.size≤9223372036854775807 then (if ((x5 ++ t197) ++ t198).size+x188002.size≤9223372036854775807 then (some (((x5 ++ t197) ++ t198) ++ x188002)) else (none)) else (none))) else (none)))
def control_Rules.f (k:Nat) (a0_0:Int) (l0_1:List Int) (a0_2:ByteArray) (a0_3:Int) (a1:Int):Option (ByteArray):=(control_low.f k a0_0 4).bind fun t188=>((control_low.f k (wrap64 ((wrap64 ((l0_1.length:Int) - 1))+65536)) 2).bind fun t189=>((control_low.f k a0_3 2).bind fun t190=>((control_cmd.f k 4 1 (([t188,t189,t190]:List ByteArray))).bind fun t194=>(control_Rules.l0 k a1 t194 l0_1 (l0_1.length:Int) 0 a0_0 l0_1 a0_2 a0_3))))
theorem control_Rules.mono_l:∀ k,(∀ y0 y1 y2 y3 y4 y5 y6 y7 y8,LeO (control_Rules.l0 k y0 y1 y2 y3 y4 y5 y6 y7 y8) (control_Rules.l0 (k+1) y0 y1 y2 y3 y4 y5 y6 y7 y8))
 | 0=>fun _ _ _ _ _ _ _ _ _ r h=>by simp [control_Rules.l0] at h
 | k+1=>by
  have ih0:=control_Rules.mono_l k
  ·intro y0 y1 y2 y3 y4 y5 y6 y7 y8
   unfold control_Rules.l0
   repeat' first
   | (with_reducible exact ih0 _ _ _ _ _ _ _ _ _)
   | (with_reducible exact control_cmd.mono _ _ _ _)
   | (with_reducible exact control_low.mono _ _ _)
   | (with_reducible exact LeO.refl _)
   | (with_reducible exact LeO.none _)
   | (with_reducible refine LeO.ite ?_ ?_)
   | (with_reducible refine LeO.bind ?_ (fun _=>?_))
   | exact ih0 _ _ _ _ _ _ _ _ _
   | exact control_cmd.mono _ _ _ _
   | exact control_low.mono _ _ _
   | exact LeO.none _
   | refine LeO.ite ?_ ?_
   | refine LeO.bind ?_ (fun _=>?_)
theorem control_Rules.mono:∀ a0 a1 a2 a3 a4 k,LeO (control_Rules.f k a0 a1 a2 a3 a4) (control_Rules.f (k+1) a0 a1 a2 a3 a4):=by
 intro a0 a1 a2 a3 a4 k
 have ih0:=control_Rules.mono_l k
 unfold control_Rules.f
 repeat' first
   | (with_reducible exact ih0 _ _ _ _ _ _ _ _ _)
   | (with_reducible exact control_cmd.mono _ _ _ _)
   | (with_reducible exact control_low.mono _ _ _)
   | (with_reducible exact LeO.refl _)
   | (with_reducible exact LeO.none _)
   | (with_reducible refine LeO.ite ?_ ?_)
   | (with_reducible refine LeO.bind ?_ (fun _=>?_))
   | exact ih0 _ _ _ _ _ _ _ _ _
   | exact control_cmd.mono _ _ _ _
   | exact control_low.mono _ _ _
   | exact LeO.none _
   | refine LeO.ite ?_ ?_
   | refine LeO.bind ?_ (fun _=>?_)
def control_Rules.T1:Bool × List (List Nat × List Nat):=(true,[([],[]),([0],[0]),([1],[1]),([],[]),([3],[3]),([4],[4]),([5],[5]),([6],[6]),([7,2],[7]),([],[]),([9],[9]),([10,8],[10]),([2,8,11],[2,8,11]),([12,11],[12]),([13,13,0,1,2,3,4,5,6,7,8,9,10,11,12,13],[13])])
def control_Rules.B1:List Nat:=[0,1,3,0,8,24,56,120,255,0,512,2047,4095,8191,16383]
theorem control_Rules.tab1:rtab .any (opsOf Try.f23 1)=control_Rules.T1:=by kernel_rfl
theorem control_Rules.bits1:waitsOk control_Rules.T1.2 control_Rules.B1=true:=by kernel_rfl
def control_Rules.T7:Bool × List (List Nat × List Nat):=(true,[([],[]),([],[]),([1],[1]),([0,2],[0,2]),([],[]),([4],[4]),([5],[5]),([6,2],[6]),([3,7],[3,7]),([],[]),([9],[9]),([8,10],[8,10]),([11,7,0,1,2,3,4,5,6,7,8,9,10,11],[11])])
def control_Rules.B7:List Nat:=[0,0,2,7,0,16,48,118,255,0,512,2047,4095]
theorem control_Rules.tab7:rtab .any (opsOf Try.f23 7)=control_Rules.T7:=by kernel_rfl
theorem control_Rules.bits7:waitsOk control_Rules.T7.2 control_Rules.B7=true:=by kernel_rfl
set_option maxHeartbeats 8000000 in
set_option maxRecDepth 100000 in
theorem control_Rules.calls (k:Nat) (a0_0:Int) (A0_1:Option Addr) (c0_1:Nat) (l0_1:List Int) (a0_2:ByteArray) (a0_3:Int) (a1:Int) (r:ByteArray) (w:World) (hr0_1:Kd.C (Kd.int .i64) w A0_1 l0_1.length l0_1) (hc0_1:l0_1.length≤c0_1) (h:control_Rules.f k a0_0 l0_1 a0_2 a0_3 a1=some r) :
  Calls Try.prog 23 #[.agg #[.int .i64 a0_0,.slice A0_1 l0_1.length c0_1,.string a0_2,.int .i64 a0_3],.int .i64 a1] w fun e w'=>e=.returned (.string r)∧Below w.heap.size w w':=by
 have hu27:=Try.underlying27
 have HR0_1:=amk hr0_1
 have HC0_1:=amk hc0_1
 clear hr0_1 hc0_1
 have HB:=amk (Below.refl w.heap.size w)
 have H:((control_low.f k a0_0 4).bind fun t188=>((control_low.f k (wrap64 ((wrap64 ((l0_1.length:Int) - 1))+65536)) 2).bind fun t189=>((control_low.f k a0_3 2).bind fun t190=>((control_cmd.f k 4 1 (([t188,t189,t190]:List ByteArray))).bind fun t194=>(control_Rules.l0 k a1 t194 l0_1 (l0_1.length:Int) 0 a0_0 l0_1 a0_2 a0_3)))))=some r:=h
 clear h
 replace H:=Option.bind_eq_some_iff.mp H
 obtain ⟨t188,A30,H⟩:=H
 replace H:((control_low.f k (wrap64 ((wrap64 ((l0_1.length:Int) - 1))+65536)) 2).bind fun t189=>((control_low.f k a0_3 2).bind fun t190=>((control_cmd.f k 4 1 (([t188,t189,t190]:List ByteArray))).bind fun t194=>(control_Rules.l0 k a1 t194 l0_1 (l0_1.length:Int) 0 a0_0 l0_1 a0_2 a0_3))))=some r:=H
 have A3:=amk A30
 clear A30
 replace H:=Option.bind_eq_some_iff.mp H
 obtain ⟨t189,A40,H⟩:=H
 replace H:((control_low.f k a0_3 2).bind fun t190=>((control_cmd.f k 4 1 (([t188,t189,t190]:List ByteArray))).bind fun t194=>(control_Rules.l0 k a1 t194 l0_1 (l0_1.length:Int) 0 a0_0 l0_1 a0_2 a0_3)))=some r:=H
 have A4:=amk A40
 clear A40
 replace H:=Option.bind_eq_some_iff.mp H
 obtain ⟨t190,A50,H⟩:=H
 replace H:((control_cmd.f k 4 1 (([t188,t189,t190]:List ByteArray))).bind fun t194=>(control_Rules.l0 k a1 t194 l0_1 (l0_1.length:Int) 0 a0_0 l0_1 a0_2 a0_3))=some r:=H
 have A5:=amk A50
 clear A50
 obtain ⟨y191,hy191⟩:∃ y_:List ByteArray,y_=(([t188,t189,t190]:List ByteArray)):=⟨_,rfl⟩
 replace H:((control_cmd.f k 4 1 y191).bind fun t194=>(control_Rules.l0 k a1 t194 l0_1 (l0_1.length:Int) 0 a0_0 l0_1 a0_2 a0_3))=some r:=by first | (rw [hy191];with_reducible exact H) | (have H2_:=(Option.bind_some _ _).symm.trans H;rw [hy191];with_reducible exact H2_) | (have H2_:=(Option.bind_some _ _).symm.trans H;with_reducible exact H2_) | with_reducible exact H | (rw [hy191];exact H) | exact H
 have Ny191:=amk hy191
 clear hy191
 replace H:=Option.bind_eq_some_iff.mp H
 obtain ⟨t194,A60,H⟩:=H
 replace H:(control_Rules.l0 k a1 t194 l0_1 (l0_1.length:Int) 0 a0_0 l0_1 a0_2 a0_3)=some r:=H
 have A6:=amk A60
 clear A60
 have H':=amk H
 clear H
 go_enter Try.func23,Try.ntmps23
 try go_wp2_with (first | ((with_reducible refine gate_dst (N:=2) rfl ?_);refine box_event ?hg (N:=2) ?hd (cs:=#[.int .i64 a0_0,.slice A0_1 l0_1.length c0_1,.string a0_2,.int .i64 a0_3]) (t:=27) ?hr ?_;(case hd=>rfl);(case hg=>rfl);(case hr=>first | (go_simp;done) | (go_simp;rfl));intro gb187 hg w7 hbox hb;have n0_:=amk (bws (by repeat (first | (with_reducible first | exact HB.out | apply bwa | apply pwd | apply bwd) | exact HB.out)) hb);have n1_:=amk (hbox);have n2_:=amk ((by rw [hg];exact (below_size (by repeat (first | (with_reducible first | exact HB.out | apply bwa | apply pwd | apply bwd) | exact HB.out))):w.heap.size≤gb187));have n3_:=amk ((by rw [hg];exact (below_size (by repeat (first | (with_reducible first | exact HB.out | apply bwa | apply pwd | apply bwd) | exact HB.out))):w.heap.size≤gb187));clear HB;have HB:=n0_;have BK187:=n1_;have GW187:=n2_;have GE187:=n3_;clear n0_ n1_ n2_ n3_;clear hb hbox hg))
 have n0_:=amk (blk_drew BK187.out)
 have n1_:=amk (bwd HB.out)
 clear BK187
 clear HB
 have BK187:=n0_
 have HB:=n1_
 clear n0_ n1_
 refine start_ (n:=15) (S:=fun w'=>w'.cell? ⟨gb187,0,none⟩=some (.int .i64 a0_0)∧w'.cell? ⟨gb187,1,none⟩=some (.slice A0_1 l0_1.length c0_1)∧w'.cell? ⟨gb187,2,none⟩=some (.string a0_2)∧w'.cell? ⟨gb187,3,none⟩=some (.int .i64 a0_3)) (ds:=[]) (bsq 15 0) (by kernel_rfl) rfl rfl ⟨(bkc BK187.out 0).trans rfl,(bkc BK187.out 1).trans rfl,(bkc BK187.out 2).trans rfl,(bkc BK187.out 3).trans rfl⟩ (fun hHeld=>?_);refine with_tabW control_Rules.tab1 control_Rules.bits1 (fun HT_ HW_=>?_)
 generalize w7.drew=w8 at BK187 HB hHeld ⊢
 refine pure_ (i:=0) (N:=some 8) (v:=?_) (a':=?_) (bsq 15 1) rfl rfl (any_of HT_.out (by kernel_rfl)) (fun _ _ _ h=>h) (Or.inl ⟨by rfl,?_⟩) ?_ ?_
 rotate_left
 ·intro w'
  go_simp
  with_reducible rfl
 rotate_left
 ·simp only [Act.put,bq1,bq2,bq3,i64_w,i32_w]
  rfl
 refine pure_ (i:=3) (N:=some 11) (v:=?_) (a':=?_) (bsq 15 9) rfl rfl (any_of HT_.out (by kernel_rfl)) (fun _ _ _ h=>h) (Or.inl ⟨by rfl,?_⟩) ?_ ?_
 rotate_left
 ·intro w'
  go_simp
  with_reducible rfl
 rotate_left
 ·simp only [Act.put,bq1,bq2,bq3,i64_w,i32_w]
  rfl
 refine pure_ (i:=9) (N:=some 17) (v:=?_) (a':=?_) (bsq 15 521) rfl rfl (any_of HT_.out (by kernel_rfl)) (fun _ _ _ h=>h) (Or.inl ⟨by rfl,?_⟩) ?_ ?_
 rotate_left
 ·intro w'
  go_simp
  with_reducible rfl
 rotate_left
 ·simp only [Act.put,bq1,bq2,bq3,i64_w,i32_w]
  rfl
 refine take_ (i:=1) (N:=some 9) (v:=?_) (a':=?_) (bsq 15 523) rfl rfl (take_ofW HT_.out HW_.out (by kernel_rfl)) (fun _ _ _ h=>h) (Or.inl ⟨by rfl,?_⟩) hHeld ?_ ?_
 rotate_left
 ·rintro w' ⟨s0,s1,s2,s3⟩
  go_simp
  with_reducible rfl
 rotate_left
 ·simp only [Act.put,bq1,bq2,bq3,i64_w,i32_w]
  rfl
 refine take_ (i:=4) (N:=some 12) (v:=?_) (a':=?_) (bsq 15 539) rfl rfl (take_ofW HT_.out HW_.out (by kernel_rfl)) (fun _ _ _ h=>h) (Or.inl ⟨by rfl,?_⟩) hHeld ?_ ?_
 rotate_left
 ·rintro w' ⟨s0,s1,s2,s3⟩
  go_simp
  with_reducible rfl
 rotate_left
 ·simp only [Act.put,bq1,bq2,bq3,i64_w,i32_w]
  rfl
 refine pure_ (i:=5) (N:=some 13) (v:=?_) (a':=?_) (bsq 15 571) rfl rfl (any_of HT_.out (by kernel_rfl)) (fun _ _ _ h=>h) (Or.inl ⟨by rfl,?_⟩) ?_ ?_
 rotate_left
 ·intro w'
  go_simp
  with_reducible rfl
 rotate_left
 ·simp only [Act.put,bq1,bq2,bq3,i64_w,i32_w]
  rfl
 refine pure_ (i:=6) (N:=some 14) (v:=?_) (a':=?_) (bsq 15 635) rfl rfl (any_of HT_.out (by kernel_rfl)) (fun _ _ _ h=>h) (Or.inl ⟨by rfl,?_⟩) ?_ ?_
 rotate_left
 ·intro w'
  go_simp
  with_reducible rfl
 rotate_left
 ·simp only [Act.put,bq1,bq2,bq3,i64_w,i32_w]
  rfl
 refine pure_ (i:=7) (N:=some 15) (v:=?_) (a':=?_) (bsq 15 763) rfl rfl (any_of HT_.out (by kernel_rfl)) (fun _ _ _ h=>h) (Or.inl ⟨by rfl,?_⟩) ?_ ?_
 rotate_left
 ·intro w'
  go_simp
  with_reducible rfl
 rotate_left
 ·simp only [Act.put,bq1,bq2,bq3,i64_w,i32_w]
  rfl
 refine take_ (i:=10) (N:=some 18) (v:=?_) (a':=?_) (bsq 15 1787) rfl rfl (take_ofW HT_.out HW_.out (by kernel_rfl)) (fun _ _ _ h=>h) (Or.inl ⟨by rfl,?_⟩) hHeld ?_ ?_
 rotate_left
 ·rintro w' ⟨s0,s1,s2,s3⟩
  go_simp
  with_reducible rfl
 rotate_left
 ·simp only [Act.put,bq1,bq2,bq3,i64_w,i32_w]
  rfl
 refine one_ (i:=2) (N:=some 10) (bsq 15 1791) rfl rfl (one_of HT_.out (by kernel_rfl)) (by decide) (fun K hK=>?_)
 refine goes_ Try.func39 (by kernel_rfl) rfl #[.int .i64 a0_0,.int .i64 4] (by rfl) rfl rfl (by (try simp only [List.map_toArray,List.map_cons,List.map_nil]);first | done | rfl | (simp only [List.length_drop,List.length_take];rfl)) ?_
 with_reducible refine (control_low.calls k a0_0 4 t188 _ A3.out).mono ?_
 rintro e w9 ⟨rfl,hb⟩
 refine ⟨_,rfl,?_⟩
 have n0_:=amk (bkb (g:=gb187) (o:=.cells #[.int .i64 a0_0,.slice A0_1 l0_1.length c0_1,.string a0_2,.int .i64 a0_3] 27 (0,0)) (by (with_reducible repeat (first | refine bkN ?_ _ | refine blk_drew ?_ | refine bka ?_ _));exact BK187.out) hb)
 have n1_:=amk (bws (by repeat (first | (with_reducible first | exact HB.out | apply bwa | apply pwd | apply bwd | refine bwt ?_ GE187.out) | exact HB.out)) hb)
 clear BK187
 clear HB
 have BK187:=n0_
 have HB:=n1_
 clear n0_ n1_
 (try clear hb)
 (try clear hb2)
 (try clear hk)
 (try clear hi)
 refine hK.out _ _ ⟨(bkc BK187.out 0).trans rfl,(bkc BK187.out 1).trans rfl,(bkc BK187.out 2).trans rfl,(bkc BK187.out 3).trans rfl⟩ (fun hHeld=>?_)
 clear hK K
 refine norm_ (a':=?_) ?_ ?_
 rotate_left
 ·show Act.put _ (some 10) _=_
  simp only [Act.put,bq1,bq2,bq3,i64_w,i32_w]
  rfl
 refine one_ (i:=8) (N:=some 16) (bsq 15 2047) rfl rfl (one_of HT_.out (by kernel_rfl)) (by decide) (fun K hK=>?_)
 refine goes_ Try.func39 (by kernel_rfl) rfl #[.int .i64 (wrap64 ((wrap64 ((l0_1.length:Int) - 1))+65536)),.int .i64 2] (by rfl) rfl rfl (by (try simp only [List.map_toArray,List.map_cons,List.map_nil]);first | done | rfl | (simp only [List.length_drop,List.length_take];rfl)) ?_
 with_reducible refine (control_low.calls k (wrap64 ((wrap64 ((l0_1.length:Int) - 1))+65536)) 2 t189 _ A4.out).mono ?_
 rintro e w10 ⟨rfl,hb⟩
 refine ⟨_,rfl,?_⟩
 have n0_:=amk (bkb (g:=gb187) (o:=.cells #[.int .i64 a0_0,.slice A0_1 l0_1.length c0_1,.string a0_2,.int .i64 a0_3] 27 (0,0)) (by (with_reducible repeat (first | refine bkN ?_ _ | refine blk_drew ?_ | refine bka ?_ _));exact BK187.out) hb)
 have n1_:=amk (bws (by repeat (first | (with_reducible first | exact HB.out | apply bwa | apply pwd | apply bwd | refine bwt ?_ GE187.out) | exact HB.out)) hb)
 clear BK187
 clear HB
 have BK187:=n0_
 have HB:=n1_
 clear n0_ n1_
 (try clear hb)
 (try clear hb2)
 (try clear hk)
 (try clear hi)
 refine hK.out _ _ ⟨(bkc BK187.out 0).trans rfl,(bkc BK187.out 1).trans rfl,(bkc BK187.out 2).trans rfl,(bkc BK187.out 3).trans rfl⟩ (fun hHeld=>?_)
 clear hK K
 refine norm_ (a':=?_) ?_ ?_
 rotate_left
 ·show Act.put _ (some 16) _=_
  simp only [Act.put,bq1,bq2,bq3,i64_w,i32_w]
  rfl
 refine one_ (i:=11) (N:=some 19) (bsq 15 4095) rfl rfl (one_of HT_.out (by kernel_rfl)) (by decide) (fun K hK=>?_)
 refine goes_ Try.func39 (by kernel_rfl) rfl #[.int .i64 a0_3,.int .i64 2] (by rfl) rfl rfl (by (try simp only [List.map_toArray,List.map_cons,List.map_nil]);first | done | rfl | (simp only [List.length_drop,List.length_take];rfl)) ?_
 with_reducible refine (control_low.calls k a0_3 2 t190 _ A5.out).mono ?_
 rintro e w11 ⟨rfl,hb⟩
 refine ⟨_,rfl,?_⟩
 have n0_:=amk (bkb (g:=gb187) (o:=.cells #[.int .i64 a0_0,.slice A0_1 l0_1.length c0_1,.string a0_2,.int .i64 a0_3] 27 (0,0)) (by (with_reducible repeat (first | refine bkN ?_ _ | refine blk_drew ?_ | refine bka ?_ _));exact BK187.out) hb)
 have n1_:=amk (bws (by repeat (first | (with_reducible first | exact HB.out | apply bwa | apply pwd | apply bwd | refine bwt ?_ GE187.out) | exact HB.out)) hb)
 clear BK187
 clear HB
 have BK187:=n0_
 have HB:=n1_
 clear n0_ n1_
 (try clear hb)
 (try clear hb2)
 (try clear hk)
 (try clear hi)
 refine hK.out _ _ ⟨(bkc BK187.out 0).trans rfl,(bkc BK187.out 1).trans rfl,(bkc BK187.out 2).trans rfl,(bkc BK187.out 3).trans rfl⟩ (fun hHeld=>?_)
 clear hK K
 refine norm_ (a':=?_) ?_ ?_
 rotate_left
 ·show Act.put _ (some 19) _=_
  simp only [Act.put,bq1,bq2,bq3,i64_w,i32_w]
  rfl
 refine one_ (i:=12) (N:=some 20) (bsq 15 8191) rfl rfl (one_of HT_.out (by kernel_rfl)) (by decide) (fun K hK=>?_)
 refine Kd.R_lit_step Kd.string _ 9 ?hg (N:=20) ?hd (xs:=([t188,t189,t190]:List ByteArray)) (inner:=[.string t188,.string t189,.string t190]) (ok:=fun _=>True) (okp:=fun _=>True) ?hr ?hp (fun _ hk=>hk) trivial (Below.refl _ _) (Nat.le_refl _) (by simp) ?_;(case hd=>rfl);(case hg=>rfl);(case hr=>first | (go_simp;done) | (go_simp;rfl));(case hp=>exact (Reps.one (show Kd.M Kd.string _ _ _ t188 [.string t188] from rfl) (Reps.one (show Kd.M Kd.string _ _ _ t189 [.string t189] from rfl) (Reps.one (show Kd.M Kd.string _ _ _ t190 [.string t190] from rfl) (Reps.none _ _)))))
 intro v192 w12 ho13 hb hg_ hnew_
 clear hg_ hnew_
 (first | rw [← Ny191.out] at ho13 | (simp only [Int.reduceToNat] at ho13;rw [← Ny191.out] at ho13))
 have n0_:=amk (Kd.R_lower ho13 (below_size (by repeat (first | (with_reducible first | exact HB.out | apply bwa | apply pwd | apply bwd | refine bwt ?_ GE187.out) | exact HB.out))))
 have n1_:=amk (bkb (g:=gb187) (o:=.cells #[.int .i64 a0_0,.slice A0_1 l0_1.length c0_1,.string a0_2,.int .i64 a0_3] 27 (0,0)) (by (with_reducible repeat (first | refine bkN ?_ _ | refine blk_drew ?_ | refine bka ?_ _));exact BK187.out) hb)
 have n2_:=amk (bws (by repeat (first | (with_reducible first | exact HB.out | apply bwa | apply pwd | apply bwd | refine bwt ?_ GE187.out) | exact HB.out)) hb)
 clear BK187
 clear HB
 have HO193:=n0_
 have BK187:=n1_
 have HB:=n2_
 clear n0_ n1_ n2_
 clear hb ho13
 obtain ⟨Ao14,co14,eo14⟩:=Kd.R_slice HO193.out
 (first | subst eo14 | (injection eo14 with f1_ f2_ f3_;have f4_:=f1_.symm;have f5_:=f3_.symm;clear f1_ f2_ f3_;subst f4_;subst f5_))
 refine hK.out _ _ ⟨(bkc BK187.out 0).trans rfl,(bkc BK187.out 1).trans rfl,(bkc BK187.out 2).trans rfl,(bkc BK187.out 3).trans rfl⟩ (fun hHeld=>?_)
 clear hK K
 refine norm_ (a':=?_) ?_ ?_
 rotate_left
 ·show Act.put _ (some 20) _=_
  simp only [Act.put,bq1,bq2,bq3,i64_w,i32_w]
  rfl
 refine one_ (i:=13) (N:=some 21) (bsq 15 16383) rfl rfl (one_of HT_.out (by kernel_rfl)) (by decide) (fun K hK=>?_)
 refine goes_ Try.func38 (by kernel_rfl) rfl #[.int .i64 4,.int .i64 1,.slice Ao14 y191.length co14] (by rfl) rfl rfl (by (try simp only [List.map_toArray,List.map_cons,List.map_nil]);first | done | rfl | (simp only [List.length_drop,List.length_take];rfl)) ?_
 with_reducible refine (control_cmd.calls k 4 1 _ _ y191 t194 _ ?side1 ?side2 A6.out).mono ?_
 (case side1=>repeat (first | exact (Kd.R_reads' HO193.out).2.2 | (with_reducible refine Kd.C_alloc ?_ _) | (with_reducible refine Kd.C_drewN ?_ _) | (with_reducible refine Kd.C_drew ?_)))
 (case side2=>exact (Kd.R_reads' HO193.out).2.1)
 rintro e w15 ⟨rfl,hb⟩
 refine ⟨_,rfl,?_⟩
 have n0_:=amk (Kd.R_below (by (with_reducible repeat (first | apply Kd.R_alloc | apply Kd.R_drewN | apply Kd.R_drew));exact HO193.out) hb)
 have n1_:=amk (bkb (g:=gb187) (o:=.cells #[.int .i64 a0_0,.slice A0_1 l0_1.length c0_1,.string a0_2,.int .i64 a0_3] 27 (0,0)) (by (with_reducible repeat (first | refine bkN ?_ _ | refine blk_drew ?_ | refine bka ?_ _));exact BK187.out) hb)
 have n2_:=amk (bws (by repeat (first | (with_reducible first | exact HB.out | apply bwa | apply pwd | apply bwd | refine bwt ?_ GE187.out) | exact HB.out)) hb)
 clear HO193
 clear BK187
 clear HB
 have HO193:=n0_
 have BK187:=n1_
 have HB:=n2_
 clear n0_ n1_ n2_
 (try clear hb)
 (try clear hb2)
 (try clear hk)
 (try clear hi)
 refine hK.out _ _ ⟨(bkc BK187.out 0).trans rfl,(bkc BK187.out 1).trans rfl,(bkc BK187.out 2).trans rfl,(bkc BK187.out 3).trans rfl⟩ (fun hHeld=>?_)
 clear hK K
 refine norm_ (a':=?_) ?_ ?_
 rotate_left
 ·show Act.put _ (some 21) _=_
  simp only [Act.put,bq1,bq2,bq3,i64_w,i32_w]
  rfl
 refine pure_ (i:=14) (N:=some 5) (v:=?_) (a':=?_) (bsq 15 32767) rfl rfl (any_of HT_.out (by kernel_rfl)) (fun _ _ _ h=>h) (Or.inl ⟨by rfl,?_⟩) ?_ ?_
 rotate_left
 ·intro w'
  go_simp
  with_reducible rfl
 rotate_left
 ·simp only [Act.put,bq1,bq2,bq3,i64_w,i32_w]
  rfl
 refine done_ (done_of HT_.out (by kernel_rfl)) ?_
 have hcz16_0:w15.cell? ⟨gb187,0,none⟩=some (.int .i64 a0_0):=(bkc BK187.out 0).trans rfl
 have hcz16_1:w15.cell? ⟨gb187,1,none⟩=some (.slice A0_1 l0_1.length c0_1):=(bkc BK187.out 1).trans rfl
 have hcz16_2:w15.cell? ⟨gb187,2,none⟩=some (.string a0_2):=(bkc BK187.out 2).trans rfl
 have hcz16_3:w15.cell? ⟨gb187,3,none⟩=some (.int .i64 a0_3):=(bkc BK187.out 3).trans rfl
 have hfz16_0:=bkf BK187.out 0
 have hfz16_1:=bkf BK187.out 1
 have hfz16_2:=bkf BK187.out 2
 have hfz16_3:=bkf BK187.out 3
 try go_wp2
 go_loopg [5,25] k (fun kq v5 v25 w'=>∃ (x5_1:ByteArray) (x25_1:Int),v5=.string x5_1∧v25=.int .i64 x25_1∧Aside0 (control_Rules.l0 kq a1 x5_1 l0_1 (l0_1.length:Int) x25_1 a0_0 l0_1 a0_2 a0_3=some r)∧Aside0 (kq≤k)∧Aside0 (w'.heap[gb187]?=some (.cells #[.int .i64 a0_0,(.slice A0_1 l0_1.length c0_1),.string a0_2,.int .i64 a0_3] 27 (0,0)))∧Aside0 (Below w.heap.size w w'))
 case atStart=>exact ⟨(t194),(0),(by first | rfl | (simp;done) | (simp [*];done)),(by first | rfl | (simp;done) | (simp [*];done)),H',⟨Nat.le_refl _⟩,⟨by (with_reducible repeat (first | refine bkN ?_ _ | refine blk_drew ?_ | refine bka ?_ _));exact BK187.out⟩,⟨by repeat (first | (with_reducible first | exact HB.out | apply bwa | apply pwd | apply bwd | refine bwt ?_ GE187.out) | exact HB.out)⟩⟩
 case round =>
  clear H'
  try clear c2
  try clear p2
  try clear c3
  try clear p6
  try clear hcz16_0
  try clear hcz16_1
  try clear hcz16_2
  try clear hcz16_3
  try clear hfz16_0
  try clear hfz16_1
  try clear hfz16_2
  try clear hfz16_3
  obtain ⟨x5_1,x25_1,rfl,rfl,HA,HK1,BK187,HB⟩:=hrel
  cases gk with
  | zero=>exact absurd HA.out (by simp [control_Rules.l0])
  | succ k1 =>
   have H:=HA.out
   clear HA
   simp only [control_Rules.l0] at H
   by_cases c17:x25_1 < (l0_1.length:Int)
   ·rw [if_pos c17] at H
    have c17b0:decide (x25_1 < (l0_1.length:Int))=true:=decide_eq_true c17
    clear c17
    by_cases c18:0≤x25_1
    ·rw [if_pos c18] at H
     have c18b0:decide (0≤x25_1)=true:=decide_eq_true c18
     clear c18
     by_cases c19:x25_1 < (l0_1.length:Int)
     ·rw [if_pos c19] at H
      have c19b0:decide (x25_1 < (l0_1.length:Int))=true:=decide_eq_true c19
      clear c19
      replace H:=Option.bind_eq_some_iff.mp H
      obtain ⟨t196,A200,H⟩:=H
      replace H:(if x5_1.size+t196.size≤9223372036854775807 then (control_Rules.l0 k1 a1 (x5_1 ++ t196) l0_1 (l0_1.length:Int) (wrap64 (x25_1+1)) a0_0 l0_1 a0_2 a0_3) else (none))=some r:=H
      have A20:=amk A200
      clear A200
      by_cases c21:x5_1.size+t196.size≤9223372036854775807
      ·rw [if_pos c21] at H
       have c21b0:=eq_true c21
       have c21b1:decide (x5_1.size+t196.size≤9223372036854775807)=true:=decide_eq_true c21
       try have c21b2:(9223372036854775807 < x5_1.size+t196.size)=False:=eq_false (Nat.not_lt.2 c21)
       have H':=amk H
       clear H
       have p195:0≤(x25_1:Int):=of_decide_eq_true (by first | (with_reducible assumption) | assumption)
       have q195:x25_1 < (l0_1.length:Int):=of_decide_eq_true (by first | (with_reducible assumption) | assumption)
       obtain ⟨ad195,e195,hx195_0⟩:=Kd.at_int HR0_1.out x25_1 p195 q195
       cases e195
       replace hx195_0:=(HB.out.cell (World.block_lt_of_cell? w _ hx195_0)).trans hx195_0
       replace p195:=eq_true p195
       replace q195:=eq_true q195
       go_wp2_with (first | ((with_reducible refine gate_callee (f:=39) rfl ?_);refine goesL_ (some 31) rfl rfl Try.func39 (by kernel_rfl) rfl #[.int .i64 (rd l0_1 x25_1),.int .i64 2] rfl (by (try simp only [List.map_toArray,List.map_cons,List.map_nil]);first | done | rfl | (simp only [List.length_drop,List.length_take];rfl)) ?_;(with_reducible refine (control_low.calls k1 (rd l0_1 x25_1) 2 t196 _ A20.out).mono ?_);rintro e w22 ⟨rfl,hb⟩;refine ⟨_,rfl,?_⟩;have n0_:=amk (bkb (g:=gb187) (o:=.cells #[.int .i64 a0_0,.slice (some ad195) l0_1.length c0_1,.string a0_2,.int .i64 a0_3] 27 (0,0)) (by (with_reducible repeat (first | refine bkN ?_ _ | refine blk_drew ?_ | refine bka ?_ _));exact BK187.out) hb);have n1_:=amk (bws (by repeat (first | (with_reducible first | exact HB.out | apply bwa | apply pwd | apply bwd | refine bwt ?_ GE187.out) | exact HB.out)) hb);clear BK187;clear HB;have BK187:=n0_;have HB:=n1_;clear n0_ n1_;(try clear hb);(try clear hb2);(try clear hk);(try clear hi)))
       go_roundg k1
       case measure=>have:=HK1.out;omega
       case rel=>exact ⟨(x5_1 ++ t196),(wrap64 (x25_1+1)),(by first | rfl | (simp;done) | (simp [*];done)),(by first | rfl | (simp;done) | (simp [*];done)),H',⟨by have:=HK1.out;omega⟩,⟨by (with_reducible repeat (first | refine bkN ?_ _ | refine blk_drew ?_ | refine bka ?_ _));exact BK187.out⟩,⟨by repeat (first | (with_reducible first | exact HB.out | apply bwa | apply pwd | apply bwd | refine bwt ?_ GE187.out) | exact HB.out)⟩⟩
      ·rw [if_neg c21] at H
       exact absurd H (by simp)
     ·rw [if_neg c19] at H
      exact absurd H (by simp)
    ·rw [if_neg c18] at H
     exact absurd H (by simp)
   ·rw [if_neg c17] at H
    have c17b0:decide (x25_1 < (l0_1.length:Int))=false:=decide_eq_false c17
    clear c17
    replace H:=Option.bind_eq_some_iff.mp H
    obtain ⟨t197,A230,H⟩:=H
    replace H:(if x5_1.size+t197.size≤9223372036854775807 then ((control_low.f k1 (a0_2.size:Int) 1).bind fun t198=>(if (x5_1 ++ t197).size+t198.size≤9223372036854775807 then (if ((x5_1 ++ t197) ++ t198).size+a0_2.size≤9223372036854775807 then (some (((x5_1 ++ t197) ++ t198) ++ a0_2)) else (none)) else (none))) else (none))=some r:=H
    have A23:=amk A230
    clear A230
    by_cases c24:x5_1.size+t197.size≤9223372036854775807
    ·rw [if_pos c24] at H
     have c24b0:=eq_true c24
     have c24b1:decide (x5_1.size+t197.size≤9223372036854775807)=true:=decide_eq_true c24
     try have c24b2:(9223372036854775807 < x5_1.size+t197.size)=False:=eq_false (Nat.not_lt.2 c24)
     replace H:=Option.bind_eq_some_iff.mp H
     obtain ⟨t198,A250,H⟩:=H
     replace H:(if (x5_1 ++ t197).size+t198.size≤9223372036854775807 then (if ((x5_1 ++ t197) ++ t198).size+a0_2.size≤9223372036854775807 then (some (((x5_1 ++ t197) ++ t198) ++ a0_2)) else (none)) else (none))=some r:=H
     have A25:=amk A250
     clear A250
     by_cases c26:(x5_1 ++ t197).size+t198.size≤9223372036854775807
     ·rw [if_pos c26] at H
      have c26b0:=eq_true c26
      have c26b1:decide ((x5_1 ++ t197).size+t198.size≤9223372036854775807)=true:=decide_eq_true c26
      try have c26b2:(9223372036854775807 < (x5_1 ++ t197).size+t198.size)=False:=eq_false (Nat.not_lt.2 c26)
      (try (have c26b3:(9223372036854775807 < ((x5_1.size)+(t197.size))+t198.size)=False:=eq_false (by have h_:=c26;simp only [ByteArray.size_append] at h_;omega)))
      (try (have c26b4:(((x5_1.size)+(t197.size))+t198.size≤9223372036854775807)=True:=eq_true (by have h_:=c26;simp only [ByteArray.size_append] at h_;omega)))
      by_cases c27:((x5_1 ++ t197) ++ t198).size+a0_2.size≤9223372036854775807
      ·rw [if_pos c27] at H
       have c27b0:=eq_true c27
       have c27b1:decide (((x5_1 ++ t197) ++ t198).size+a0_2.size≤9223372036854775807)=true:=decide_eq_true c27
       try have c27b2:(9223372036854775807 < ((x5_1 ++ t197) ++ t198).size+a0_2.size)=False:=eq_false (Nat.not_lt.2 c27)
       (try (have c27b3:(9223372036854775807 < (((x5_1.size)+(t197.size))+(t198.size))+a0_2.size)=False:=eq_false (by have h_:=c27;simp only [ByteArray.size_append] at h_;omega)))
       (try (have c27b4:((((x5_1.size)+(t197.size))+(t198.size))+a0_2.size≤9223372036854775807)=True:=eq_true (by have h_:=c27;simp only [ByteArray.size_append] at h_;omega)))
       obtain rfl:=Option.some.inj H
       try go_wp2
       have n0_:=amk (blk_drew BK187.out)
       have n1_:=amk (bwd HB.out)
       clear BK187
       clear HB
       have BK187:=n0_
       have HB:=n1_
       clear n0_ n1_
       refine start_ (n:=13) (S:=fun w'=>w'.cell? ⟨gb187,0,none⟩=some (.int .i64 a0_0)∧w'.cell? ⟨gb187,1,none⟩=some (.slice A0_1 l0_1.length c0_1)∧w'.cell? ⟨gb187,2,none⟩=some (.string a0_2)∧w'.cell? ⟨gb187,3,none⟩=some (.int .i64 a0_3)) (ds:=[]) (bsq 13 0) (by kernel_rfl) rfl rfl ⟨(bkc BK187.out 0).trans rfl,(bkc BK187.out 1).trans rfl,(bkc BK187.out 2).trans rfl,(bkc BK187.out 3).trans rfl⟩ (fun hHeld=>?_);refine with_tabW control_Rules.tab7 control_Rules.bits7 (fun HT_ HW_=>?_)
       generalize wr.drew=w28 at BK187 HB hHeld ⊢
       refine pure_ (i:=0) (N:=some 34) (v:=?_) (a':=?_) (bsq 13 1) rfl rfl (any_of HT_.out (by kernel_rfl)) (fun _ _ _ h=>h) (Or.inl ⟨by rfl,?_⟩) ?_ ?_
       rotate_left
       ·intro w'
        go_simp
        with_reducible rfl
       rotate_left
       ·simp only [Act.put,bq1,bq2,bq3,i64_w,i32_w]
        rfl
       refine pure_ (i:=1) (N:=some 35) (v:=?_) (a':=?_) (bsq 13 3) rfl rfl (any_of HT_.out (by kernel_rfl)) (fun _ _ _ h=>h) (Or.inl ⟨by rfl,?_⟩) ?_ ?_
       rotate_left
       ·intro w'
        go_simp
        with_reducible rfl
       rotate_left
       ·simp only [Act.put,bq1,bq2,bq3,i64_w,i32_w]
        rfl
       refine pure_ (i:=4) (N:=some 38) (v:=?_) (a':=?_) (bsq 13 19) rfl rfl (any_of HT_.out (by kernel_rfl)) (fun _ _ _ h=>h) (Or.inl ⟨by rfl,?_⟩) ?_ ?_
       rotate_left
       ·intro w'
        go_simp
        with_reducible rfl
       rotate_left
       ·simp only [Act.put,bq1,bq2,bq3,i64_w,i32_w]
        rfl
       refine pure_ (i:=9) (N:=some 43) (v:=?_) (a':=?_) (bsq 13 531) rfl rfl (any_of HT_.out (by kernel_rfl)) (fun _ _ _ h=>h) (Or.inl ⟨by rfl,?_⟩) ?_ ?_
       rotate_left
       ·intro w'
        go_simp
        with_reducible rfl
       rotate_left
       ·simp only [Act.put,bq1,bq2,bq3,i64_w,i32_w]
        rfl
       refine take_ (i:=5) (N:=some 39) (v:=?_) (a':=?_) (bsq 13 563) rfl rfl (take_ofW HT_.out HW_.out (by kernel_rfl)) (fun _ _ _ h=>h) (Or.inl ⟨by rfl,?_⟩) hHeld ?_ ?_
       rotate_left
       ·rintro w' ⟨s0,s1,s2,s3⟩
        go_simp
        with_reducible rfl
       rotate_left
       ·simp only [Act.put,bq1,bq2,bq3,i64_w,i32_w]
        rfl
       refine pure_ (i:=6) (N:=some 40) (v:=?_) (a':=?_) (bsq 13 627) rfl rfl (any_of HT_.out (by kernel_rfl)) (fun _ _ _ h=>h) (Or.inl ⟨by rfl,?_⟩) ?_ ?_
       rotate_left
       ·intro w'
        go_simp
        with_reducible rfl
       rotate_left
       ·simp only [Act.put,bq1,bq2,bq3,i64_w,i32_w]
        rfl
       refine take_ (i:=10) (N:=some 44) (v:=?_) (a':=?_) (bsq 13 1651) rfl rfl (take_ofW HT_.out HW_.out (by kernel_rfl)) (fun _ _ _ h=>h) (Or.inl ⟨by rfl,?_⟩) hHeld ?_ ?_
       rotate_left
       ·rintro w' ⟨s0,s1,s2,s3⟩
        go_simp
        with_reducible rfl
       rotate_left
       ·simp only [Act.put,bq1,bq2,bq3,i64_w,i32_w]
        rfl
       refine one_ (i:=2) (N:=some 36) (bsq 13 1655) rfl rfl (one_of HT_.out (by kernel_rfl)) (by decide) (fun K hK=>?_)
       refine goes_ Try.func39 (by kernel_rfl) rfl #[.int .i64 a1,.int .i64 2] (by rfl) rfl rfl (by (try simp only [List.map_toArray,List.map_cons,List.map_nil]);first | done | rfl | (simp only [List.length_drop,List.length_take];rfl)) ?_
       with_reducible refine (control_low.calls k1 a1 2 t197 _ A23.out).mono ?_
       rintro e w29 ⟨rfl,hb⟩
       refine ⟨_,rfl,?_⟩
       have n0_:=amk (bkb (g:=gb187) (o:=.cells #[.int .i64 a0_0,.slice A0_1 l0_1.length c0_1,.string a0_2,.int .i64 a0_3] 27 (0,0)) (by (with_reducible repeat (first | refine bkN ?_ _ | refine blk_drew ?_ | refine bka ?_ _));exact BK187.out) hb)
       have n1_:=amk (bws (by repeat (first | (with_reducible first | exact HB.out | apply bwa | apply pwd | apply bwd | refine bwt ?_ GE187.out) | exact HB.out)) hb)
       clear BK187
       clear HB
       have BK187:=n0_
       have HB:=n1_
       clear n0_ n1_
       (try clear hb)
       (try clear hb2)
       (try clear hk)
       (try clear hi)
       refine hK.out _ _ ⟨(bkc BK187.out 0).trans rfl,(bkc BK187.out 1).trans rfl,(bkc BK187.out 2).trans rfl,(bkc BK187.out 3).trans rfl⟩ (fun hHeld=>?_)
       clear hK K
       refine norm_ (a':=?_) ?_ ?_
       rotate_left
       ·show Act.put _ (some 36) _=_
        simp only [Act.put,bq1,bq2,bq3,i64_w,i32_w]
        rfl
       refine pure_ (i:=3) (N:=some 37) (v:=?_) (a':=?_) (bsq 13 1663) rfl rfl (any_of HT_.out (by kernel_rfl)) (fun _ _ _ h=>h) (Or.inl ⟨by rfl,?_⟩) ?_ ?_
       rotate_left
       ·intro w'
        go_simp
        with_reducible rfl
       rotate_left
       ·simp only [Act.put,bq1,bq2,bq3,i64_w,i32_w]
        rfl
       refine one_ (i:=7) (N:=some 41) (bsq 13 1791) rfl rfl (one_of HT_.out (by kernel_rfl)) (by decide) (fun K hK=>?_)
       refine goes_ Try.func39 (by kernel_rfl) rfl #[.int .i64 (a0_2.size:Int),.int .i64 1] (by rfl) rfl rfl (by (try simp only [List.map_toArray,List.map_cons,List.map_nil]);first | done | rfl | (simp only [List.length_drop,List.length_take];rfl)) ?_
       with_reducible refine (control_low.calls k1 (a0_2.size:Int) 1 t198 _ A25.out).mono ?_
       rintro e w30 ⟨rfl,hb⟩
       refine ⟨_,rfl,?_⟩
       have n0_:=amk (bkb (g:=gb187) (o:=.cells #[.int .i64 a0_0,.slice A0_1 l0_1.length c0_1,.string a0_2,.int .i64 a0_3] 27 (0,0)) (by (with_reducible repeat (first | refine bkN ?_ _ | refine blk_drew ?_ | refine bka ?_ _));exact BK187.out) hb)
       have n1_:=amk (bws (by repeat (first | (with_reducible first | exact HB.out | apply bwa | apply pwd | apply bwd | refine bwt ?_ GE187.out) | exact HB.out)) hb)
       clear BK187
       clear HB
       have BK187:=n0_
       have HB:=n1_
       clear n0_ n1_
       (try clear hb)
       (try clear hb2)
       (try clear hk)
       (try clear hi)
       refine hK.out _ _ ⟨(bkc BK187.out 0).trans rfl,(bkc BK187.out 1).trans rfl,(bkc BK187.out 2).trans rfl,(bkc BK187.out 3).trans rfl⟩ (fun hHeld=>?_)
       clear hK K
       refine norm_ (a':=?_) ?_ ?_
       rotate_left
       ·show Act.put _ (some 41) _=_
        simp only [Act.put,bq1,bq2,bq3,i64_w,i32_w]
        rfl
       refine pure_ (i:=8) (N:=some 42) (v:=?_) (a':=?_) (bsq 13 2047) rfl rfl (any_of HT_.out (by kernel_rfl)) (fun _ _ _ h=>h) (Or.inl ⟨by rfl,?_⟩) ?_ ?_
       rotate_left
       ·intro w'
        go_simp
        with_reducible rfl
       rotate_left
       ·simp only [Act.put,bq1,bq2,bq3,i64_w,i32_w]
        rfl
       refine pure_ (i:=11) (N:=some 45) (v:=?_) (a':=?_) (bsq 13 4095) rfl rfl (any_of HT_.out (by kernel_rfl)) (fun _ _ _ h=>h) (Or.inl ⟨by rfl,?_⟩) ?_ ?_
       rotate_left
       ·intro w'
        go_simp
        with_reducible rfl
       rotate_left
       ·simp only [Act.put,bq1,bq2,bq3,i64_w,i32_w]
        rfl
       refine pure_ (i:=12) (N:=some 4) (v:=?_) (a':=?_) (bsq 13 8191) rfl rfl (any_of HT_.out (by kernel_rfl)) (fun _ _ _ h=>h) (Or.inl ⟨by rfl,?_⟩) ?_ ?_
       rotate_left
       ·intro w'
        go_simp
        with_reducible rfl
       rotate_left
       ·simp only [Act.put,bq1,bq2,bq3,i64_w,i32_w]
        rfl
       refine done_ (done_of HT_.out (by kernel_rfl)) ?_
       try go_wp2
       go_ret
       exact ⟨by first | rfl | (simp [eWn,eWs] <;> rfl) | (simp [*,eWn,eWs] <;> rfl),by repeat (first | (with_reducible first | exact HB.out | apply bwa | apply pwd | apply bwd | refine bwt ?_ GE187.out) | exact HB.out)⟩
      ·rw [if_neg c27] at H
       exact absurd H (by simp)
     ·rw [if_neg c26] at H
      exact absurd H (by simp)
    ·rw [if_neg c24] at H
     exact absurd H (by simp)

end Go.Proofs.Ytkgbhlcbjflnlaa.P
