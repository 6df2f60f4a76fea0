/- What functions of the program compute, each with the walk that shows it: by a program (a turned copy of the kit's print; wip/myprint.py). -/
import Derived.Test.YtkgbhlcbjflnlaaZPx0
import Derived.Test.YtkgbhlcbjflnlaaZPx6
import Derived.Test.YtkgbhlcbjflnlaaZJoin
namespace Go.Proofs.Ytkgbhlcbjflnlaa.P
open Go.RowKit Go.Proofs.YtkgbhlcbjflnlaaW.PrintWords Go.Proofs.YtkgbhlcbjflnlaaW.PrintLast Go.Proofs.YtkgbhlcbjflnlaaW.PrintMore
attribute [local go_sem] max2_int min2_int max_two min_two max_three min_three max_four min_four   -- for this text's walks alone
set_option linter.unusedVariables false
set_option linter.unusedSimpArgs false

/-! ### control_Vlan: function 15 -/
def control_Vlan.f (k:Nat) (a0:Int) (a1:Bool):Option (ByteArray):=if a1=true then ((control_low.f k a0 2).bind fun t160=>((control_cmd.f k 2 0 (([t160]:List ByteArray))).bind fun t164=>(some t164))) else ((control_low.f k a0 2).bind fun t165=>((control_cmd.f k 2 1 (([t165]:List ByteArray))).bind fun t169=>(some t169)))
theorem control_Vlan.mono:∀ a0 a1 k,LeO (control_Vlan.f k a0 a1) (control_Vlan.f (k+1) a0 a1):=by
 intro a0 a1 k
 unfold control_Vlan.f
 repeat' first
   | (with_reducible exact control_cmd.mono _ _ _ _)
   | (with_reducible exact control_low.mono _ _ _)
   | (with_reducible exact LeO.refl _)
   | (with_reducible exact LeO.none _)
   | (with_reducible refine LeO.ite ?_ ?_)
   | (with_reducible refine LeO.bind ?_ (fun _=>?_))
   | exact control_cmd.mono _ _ _ _
   | exact control_low.mono _ _ _
   | exact LeO.none _
   | refine LeO.ite ?_ ?_
   | refine LeO.bind ?_ (fun _=>?_)
set_option maxHeartbeats 8000000 in
set_option maxRecDepth 100000 in
theorem control_Vlan.calls (k:Nat) (a0:Int) (a1:Bool) (r:ByteArray) (w:World) (h:control_Vlan.f k a0 a1=some r) :
  Calls Try.prog 15 #[.int .i64 a0,.bool a1] w fun e w'=>e=.returned (.string r)∧Below w.heap.size w w':=by
 have HB:=amk (Below.refl w.heap.size w)
 have H:(if a1=true then ((control_low.f k a0 2).bind fun t160=>((control_cmd.f k 2 0 (([t160]:List ByteArray))).bind fun t164=>(some t164))) else ((control_low.f k a0 2).bind fun t165=>((control_cmd.f k 2 1 (([t165]:List ByteArray))).bind fun t169=>(some t169))))=some r:=h
 clear h
 by_cases c3:a1=true
 ·subst c3
  have H1:((control_low.f k a0 2).bind fun t160=>((control_cmd.f k 2 0 (([t160]:List ByteArray))).bind fun t164=>(some t164)))=some r:=by rw [if_pos rfl] at H;exact H
  clear H
  have H:=H1
  clear H1
  replace H:=Option.bind_eq_some_iff.mp H
  obtain ⟨t160,A40,H⟩:=H
  replace H:((control_cmd.f k 2 0 (([t160]:List ByteArray))).bind fun t164=>(some t164))=some r:=H
  have A4:=amk A40
  clear A40
  obtain ⟨y161,hy161⟩:∃ y_:List ByteArray,y_=(([t160]:List ByteArray)):=⟨_,rfl⟩
  replace H:((control_cmd.f k 2 0 y161).bind fun t164=>(some t164))=some r:=by first | (rw [hy161];with_reducible exact H) | (have H2_:=(Option.bind_some _ _).symm.trans H;rw [hy161];with_reducible exact H2_) | (have H2_:=(Option.bind_some _ _).symm.trans H;with_reducible exact H2_) | with_reducible exact H | (rw [hy161];exact H) | exact H
  have Ny161:=amk hy161
  clear hy161
  replace H:=Option.bind_eq_some_iff.mp H
  obtain ⟨t164,A50,H⟩:=H
  replace H:(some t164)=some r:=H
  have A5:=amk A50
  clear A50
  obtain rfl:=Option.some.inj H
  go_enter Try.func15,Try.ntmps15
  go_wp2_with (first | ((with_reducible refine gate_callee (f:=39) rfl ?_);refine goesL_ (some 9) rfl rfl Try.func39 (by kernel_rfl) rfl #[.int .i64 a0,.int .i64 2] rfl (by (try simp only [List.map_toArray,List.map_cons,List.map_nil]);first | done | rfl | (simp only [List.length_drop,List.length_take];rfl)) ?_;(with_reducible refine (control_low.calls k a0 2 t160 _ A4.out).mono ?_);rintro e w6 ⟨rfl,hb⟩;refine ⟨_,rfl,?_⟩;have n0_:=amk (bws (by repeat (first | (with_reducible first | exact HB.out | apply bwa | apply pwd | apply bwd) | exact HB.out)) hb);clear HB;have HB:=n0_;clear n0_;(try clear hb);(try clear hb2);(try clear hk);(try clear hi)) | ((with_reducible refine gate_dst (N:=10) rfl ?_);refine Kd.R_lit Kd.string _ 9 ?hg (N:=10) ?hd (xs:=([t160]:List ByteArray)) (inner:=[.string t160]) (ok:=fun _=>True) (okp:=fun _=>True) ?hr ?hp (fun _ hk=>hk) trivial (Below.refl _ _) (Nat.le_refl _) (by simp) ?_;(case hd=>rfl);(case hg=>rfl);(case hr=>first | (go_simp;done) | (go_simp;rfl));(case hp=>exact (Reps.one (show Kd.M Kd.string _ _ _ t160 [.string t160] from rfl) (Reps.none _ _)));intro v162 w7 ho8 hb hg_ hnew_;clear hg_ hnew_;(first | rw [← Ny161.out] at ho8 | (simp only [Int.reduceToNat] at ho8;rw [← Ny161.out] at ho8));have n0_:=amk (Kd.R_lower ho8 (below_size (by repeat (first | (with_reducible first | exact HB.out | apply bwa | apply pwd | apply bwd) | exact HB.out))));have n1_:=amk (bws (by repeat (first | (with_reducible first | exact HB.out | apply bwa | apply pwd | apply bwd) | exact HB.out)) hb);clear HB;have HO163:=n0_;have HB:=n1_;clear n0_ n1_;clear hb ho8;obtain ⟨Ao9,co9,eo9⟩:=Kd.R_slice HO163.out;subst eo9) | ((with_reducible refine gate_callee (f:=38) rfl ?_);refine goesL_ (some 11) rfl rfl Try.func38 (by kernel_rfl) rfl #[.int .i64 2,.int .i64 0,.slice Ao9 y161.length co9] rfl (by (try simp only [List.map_toArray,List.map_cons,List.map_nil]);first | done | rfl | (simp only [List.length_drop,List.length_take];rfl)) ?_;(with_reducible refine (control_cmd.calls k 2 0 _ _ y161 t164 _ ?side1 ?side2 A5.out).mono ?_);(case side1=>repeat (first | exact (Kd.R_reads' HO163.out).2.2 | (with_reducible refine Kd.C_alloc ?_ _) | (with_reducible refine Kd.C_drewN ?_ _) | (with_reducible refine Kd.C_drew ?_)));(case side2=>exact (Kd.R_reads' HO163.out).2.1);rintro e w10 ⟨rfl,hb⟩;refine ⟨_,rfl,?_⟩;have n0_:=amk (Kd.R_below (by (with_reducible repeat (first | apply Kd.R_alloc | apply Kd.R_drewN | apply Kd.R_drew));exact HO163.out) hb);have n1_:=amk (bws (by repeat (first | (with_reducible first | exact HB.out | apply bwa | apply pwd | apply bwd) | exact HB.out)) hb);clear HO163;clear HB;have HO163:=n0_;have HB:=n1_;clear n0_ n1_;(try clear hb);(try clear hb2);(try clear hk);(try clear hi)))
  go_ret
  exact ⟨by first | rfl | (simp [eWn,eWs] <;> rfl) | (simp [*,eWn,eWs] <;> rfl),by repeat (first | (with_reducible first | exact HB.out | apply bwa | apply pwd | apply bwd) | exact HB.out)⟩
 ·replace c3:=Bool.eq_false_iff.mpr c3
  subst c3
  have H1:((control_low.f k a0 2).bind fun t165=>((control_cmd.f k 2 1 (([t165]:List ByteArray))).bind fun t169=>(some t169)))=some r:=by rw [if_neg (show ¬ (false=true) by decide)] at H;exact H
  clear H
  have H:=H1
  clear H1
  replace H:=Option.bind_eq_some_iff.mp H
  obtain ⟨t165,A110,H⟩:=H
  replace H:((control_cmd.f k 2 1 (([t165]:List ByteArray))).bind fun t169=>(some t169))=some r:=H
  have A11:=amk A110
  clear A110
  obtain ⟨y166,hy166⟩:∃ y_:List ByteArray,y_=(([t165]:List ByteArray)):=⟨_,rfl⟩
  replace H:((control_cmd.f k 2 1 y166).bind fun t169=>(some t169))=some r:=by first | (rw [hy166];with_reducible exact H) | (have H2_:=(Option.bind_some _ _).symm.trans H;rw [hy166];with_reducible exact H2_) | (have H2_:=(Option.bind_some _ _).symm.trans H;with_reducible exact H2_) | with_reducible exact H | (rw [hy166];exact H) | exact H
  have Ny166:=amk hy166
  clear hy166
  replace H:=Option.bind_eq_some_iff.mp H
  obtain ⟨t169,A120,H⟩:=H
  replace H:(some t169)=some r:=H
  have A12:=amk A120
  clear A120
  obtain rfl:=Option.some.inj H
  go_enter Try.func15,Try.ntmps15
  go_wp2_with (first | ((with_reducible refine gate_callee (f:=39) rfl ?_);refine goesL_ (some 9) rfl rfl Try.func39 (by kernel_rfl) rfl #[.int .i64 a0,.int .i64 2] rfl (by (try simp only [List.map_toArray,List.map_cons,List.map_nil]);first | done | rfl | (simp only [List.length_drop,List.length_take];rfl)) ?_;(with_reducible refine (control_low.calls k a0 2 t165 _ A11.out).mono ?_);rintro e w13 ⟨rfl,hb⟩;refine ⟨_,rfl,?_⟩;have n0_:=amk (bws (by repeat (first | (with_reducible first | exact HB.out | apply bwa | apply pwd | apply bwd) | exact HB.out)) hb);clear HB;have HB:=n0_;clear n0_;(try clear hb);(try clear hb2);(try clear hk);(try clear hi)) | ((with_reducible refine gate_dst (N:=10) rfl ?_);refine Kd.R_lit Kd.string _ 9 ?hg (N:=10) ?hd (xs:=([t165]:List ByteArray)) (inner:=[.string t165]) (ok:=fun _=>True) (okp:=fun _=>True) ?hr ?hp (fun _ hk=>hk) trivial (Below.refl _ _) (Nat.le_refl _) (by simp) ?_;(case hd=>rfl);(case hg=>rfl);(case hr=>first | (go_simp;done) | (go_simp;rfl));(case hp=>exact (Reps.one (show Kd.M Kd.string _ _ _ t165 [.string t165] from rfl) (Reps.none _ _)));intro v167 w14 ho15 hb hg_ hnew_;clear hg_ hnew_;(first | rw [← Ny166.out] at ho15 | (simp only [Int.reduceToNat] at ho15;rw [← Ny166.out] at ho15));have n0_:=amk (Kd.R_lower ho15 (below_size (by repeat (first | (with_reducible first | exact HB.out | apply bwa | apply pwd | apply bwd) | exact HB.out))));have n1_:=amk (bws (by repeat (first | (with_reducible first | exact HB.out | apply bwa | apply pwd | apply bwd) | exact HB.out)) hb);clear HB;have HO168:=n0_;have HB:=n1_;clear n0_ n1_;clear hb ho15;obtain ⟨Ao16,co16,eo16⟩:=Kd.R_slice HO168.out;subst eo16) | ((with_reducible refine gate_callee (f:=38) rfl ?_);refine goesL_ (some 11) rfl rfl Try.func38 (by kernel_rfl) rfl #[.int .i64 2,.int .i64 1,.slice Ao16 y166.length co16] rfl (by (try simp only [List.map_toArray,List.map_cons,List.map_nil]);first | done | rfl | (simp only [List.length_drop,List.length_take];rfl)) ?_;(with_reducible refine (control_cmd.calls k 2 1 _ _ y166 t169 _ ?side1 ?side2 A12.out).mono ?_);(case side1=>repeat (first | exact (Kd.R_reads' HO168.out).2.2 | (with_reducible refine Kd.C_alloc ?_ _) | (with_reducible refine Kd.C_drewN ?_ _) | (with_reducible refine Kd.C_drew ?_)));(case side2=>exact (Kd.R_reads' HO168.out).2.1);rintro e w17 ⟨rfl,hb⟩;refine ⟨_,rfl,?_⟩;have n0_:=amk (Kd.R_below (by (with_reducible repeat (first | apply Kd.R_alloc | apply Kd.R_drewN | apply Kd.R_drew));exact HO168.out) hb);have n1_:=amk (bws (by repeat (first | (with_reducible first | exact HB.out | apply bwa | apply pwd | apply bwd) | exact HB.out)) hb);clear HO168;clear HB;have HO168:=n0_;have HB:=n1_;clear n0_ n1_;(try clear hb);(try clear hb2);(try clear hk);(try clear hi)))
  go_ret
  exact ⟨by first | rfl | (simp [eWn,eWs] <;> rfl) | (simp [*,eWn,eWs] <;> rfl),by repeat (first | (with_reducible first | exact HB.out | apply bwa | apply pwd | apply bwd) | exact HB.out)⟩

/-! ### control_Pairs: function 17 -/
def control_Pairs.f (k:Nat) (a0:Int):Option (ByteArray):=(control_low.f k a0 2).bind fun t170=>((control_cmd.f k 4 0 (([t170]:List ByteArray))).bind fun t174=>(some t174))
theorem control_Pairs.mono:∀ a0 k,LeO (control_Pairs.f k a0) (control_Pairs.f (k+1) a0):=by
 intro a0 k
 unfold control_Pairs.f
 repeat' first
   | (with_reducible exact control_cmd.mono _ _ _ _)
   | (with_reducible exact control_low.mono _ _ _)
   | (with_reducible exact LeO.refl _)
   | (with_reducible exact LeO.none _)
   | (with_reducible refine LeO.ite ?_ ?_)
   | (with_reducible refine LeO.bind ?_ (fun _=>?_))
   | exact control_cmd.mono _ _ _ _
   | exact control_low.mono _ _ _
   | exact LeO.none _
   | refine LeO.ite ?_ ?_
   | refine LeO.bind ?_ (fun _=>?_)
set_option maxHeartbeats 8000000 in
set_option maxRecDepth 100000 in
theorem control_Pairs.calls (k:Nat) (a0:Int) (r:ByteArray) (w:World) (h:control_Pairs.f k a0=some r) :
  Calls Try.prog 17 #[.int .i64 a0] w fun e w'=>e=.returned (.string r)∧Below w.heap.size w w':=by
 have HB:=amk (Below.refl w.heap.size w)
 have H:((control_low.f k a0 2).bind fun t170=>((control_cmd.f k 4 0 (([t170]:List ByteArray))).bind fun t174=>(some t174)))=some r:=h
 clear h
 replace H:=Option.bind_eq_some_iff.mp H
 obtain ⟨t170,A20,H⟩:=H
 replace H:((control_cmd.f k 4 0 (([t170]:List ByteArray))).bind fun t174=>(some t174))=some r:=H
 have A2:=amk A20
 clear A20
 obtain ⟨y171,hy171⟩:∃ y_:List ByteArray,y_=(([t170]:List ByteArray)):=⟨_,rfl⟩
 replace H:((control_cmd.f k 4 0 y171).bind fun t174=>(some t174))=some r:=by first | (rw [hy171];with_reducible exact H) | (have H2_:=(Option.bind_some _ _).symm.trans H;rw [hy171];with_reducible exact H2_) | (have H2_:=(Option.bind_some _ _).symm.trans H;with_reducible exact H2_) | with_reducible exact H | (rw [hy171];exact H) | exact H
 have Ny171:=amk hy171
 clear hy171
 replace H:=Option.bind_eq_some_iff.mp H
 obtain ⟨t174,A30,H⟩:=H
 replace H:(some t174)=some r:=H
 have A3:=amk A30
 clear A30
 obtain rfl:=Option.some.inj H
 go_enter Try.func17,Try.ntmps17
 go_wp2_with (first | ((with_reducible refine gate_callee (f:=39) rfl ?_);refine goesL_ (some 4) rfl rfl Try.func39 (by kernel_rfl) rfl #[.int .i64 a0,.int .i64 2] rfl (by (try simp only [List.map_toArray,List.map_cons,List.map_nil]);first | done | rfl | (simp only [List.length_drop,List.length_take];rfl)) ?_;(with_reducible refine (control_low.calls k a0 2 t170 _ A2.out).mono ?_);rintro e w4 ⟨rfl,hb⟩;refine ⟨_,rfl,?_⟩;have n0_:=amk (bws (by repeat (first | (with_reducible first | exact HB.out | apply bwa | apply pwd | apply bwd) | exact HB.out)) hb);clear HB;have HB:=n0_;clear n0_;(try clear hb);(try clear hb2);(try clear hk);(try clear hi)) | ((with_reducible refine gate_dst (N:=5) rfl ?_);refine Kd.R_lit Kd.string _ 9 ?hg (N:=5) ?hd (xs:=([t170]:List ByteArray)) (inner:=[.string t170]) (ok:=fun _=>True) (okp:=fun _=>True) ?hr ?hp (fun _ hk=>hk) trivial (Below.refl _ _) (Nat.le_refl _) (by simp) ?_;(case hd=>rfl);(case hg=>rfl);(case hr=>first | (go_simp;done) | (go_simp;rfl));(case hp=>exact (Reps.one (show Kd.M Kd.string _ _ _ t170 [.string t170] from rfl) (Reps.none _ _)));intro v172 w5 ho6 hb hg_ hnew_;clear hg_ hnew_;(first | rw [← Ny171.out] at ho6 | (simp only [Int.reduceToNat] at ho6;rw [← Ny171.out] at ho6));have n0_:=amk (Kd.R_lower ho6 (below_size (by repeat (first | (with_reducible first | exact HB.out | apply bwa | apply pwd | apply bwd) | exact HB.out))));have n1_:=amk (bws (by repeat (first | (with_reducible first | exact HB.out | apply bwa | apply pwd | apply bwd) | exact HB.out)) hb);clear HB;have HO173:=n0_;have HB:=n1_;clear n0_ n1_;clear hb ho6;obtain ⟨Ao7,co7,eo7⟩:=Kd.R_slice HO173.out;subst eo7) | ((with_reducible refine gate_callee (f:=38) rfl ?_);refine goesL_ (some 6) rfl rfl Try.func38 (by kernel_rfl) rfl #[.int .i64 4,.int .i64 0,.slice Ao7 y171.length co7] rfl (by (try simp only [List.map_toArray,List.map_cons,List.map_nil]);first | done | rfl | (simp only [List.length_drop,List.length_take];rfl)) ?_;(with_reducible refine (control_cmd.calls k 4 0 _ _ y171 t174 _ ?side1 ?side2 A3.out).mono ?_);(case side1=>repeat (first | exact (Kd.R_reads' HO173.out).2.2 | (with_reducible refine Kd.C_alloc ?_ _) | (with_reducible refine Kd.C_drewN ?_ _) | (with_reducible refine Kd.C_drew ?_)));(case side2=>exact (Kd.R_reads' HO173.out).2.1);rintro e w8 ⟨rfl,hb⟩;refine ⟨_,rfl,?_⟩;have n0_:=amk (Kd.R_below (by (with_reducible repeat (first | apply Kd.R_alloc | apply Kd.R_drewN | apply Kd.R_drew));exact HO173.out) hb);have n1_:=amk (bws (by repeat (first | (with_reducible first | exact HB.out | apply bwa | apply pwd | apply bwd) | exact HB.out)) hb);clear HO173;clear HB;have HO173:=n0_;have HB:=n1_;clear n0_ n1_;(try clear hb);(try clear hb2);(try clear hk);(try clear hi)))
 go_ret
 exact ⟨by first | rfl | (simp [eWn,eWs] <;> rfl) | (simp [*,eWn,eWs] <;> rfl),by repeat (first | (with_reducible first | exact HB.out | apply bwa | apply pwd | apply bwd) | exact HB.out)⟩

/-! ### control_Table: function 20 -/
def control_Table.f (k:Nat) (l0:List ByteArray) (l1:List ByteArray):Option (ByteArray):=(control_low.f k (l0.length:Int) 4).bind fun t175=>((strings_Join.f l0 (⟨#[]⟩:ByteArray)).bind fun t176=>((control_low.f k (l1.length:Int) 4).bind fun t177=>((strings_Join.f l1 (⟨#[]⟩:ByteArray)).bind fun t178=>((control_cmd.f k 1 0 (([t175,t176,t177,t178]:List ByteArray))).bind fun t182=>(some t182)))))
theorem control_Table.mono:∀ a0 a1 k,LeO (control_Table.f k a0 a1) (control_Table.f (k+1) a0 a1):=by
 intro a0 a1 k
 unfold control_Table.f
 repeat' first
   | (with_reducible exact control_cmd.mono _ _ _ _)
   | (with_reducible exact control_low.mono _ _ _)
   | (with_reducible exact LeO.refl _)
   | (with_reducible exact LeO.none _)
   | (with_reducible refine LeO.ite ?_ ?_)
   | (with_reducible refine LeO.bind ?_ (fun _=>?_))
   | exact control_cmd.mono _ _ _ _
   | exact control_low.mono _ _ _
   | exact LeO.none _
   | refine LeO.ite ?_ ?_
   | refine LeO.bind ?_ (fun _=>?_)
set_option maxHeartbeats 8000000 in
set_option maxRecDepth 100000 in
theorem control_Table.calls (k:Nat) (A0:Option Addr) (c0:Nat) (l0:List ByteArray) (A1:Option Addr) (c1:Nat) (l1:List ByteArray) (r:ByteArray) (w:World) (hr0:Kd.C Kd.string w A0 l0.length l0) (hc0:l0.length≤c0) (hr1:Kd.C Kd.string w A1 l1.length l1) (hc1:l1.length≤c1) (h:control_Table.f k l0 l1=some r) :
  Calls Try.prog 20 #[.slice A0 l0.length c0,.slice A1 l1.length c1] w fun e w'=>e=.returned (.string r)∧Below w.heap.size w w':=by
 have HR0:=amk hr0
 have HC0:=amk hc0
 clear hr0 hc0
 have HR1:=amk hr1
 have HC1:=amk hc1
 clear hr1 hc1
 have HB:=amk (Below.refl w.heap.size w)
 have H:((control_low.f k (l0.length:Int) 4).bind fun t175=>((strings_Join.f l0 (⟨#[]⟩:ByteArray)).bind fun t176=>((control_low.f k (l1.length:Int) 4).bind fun t177=>((strings_Join.f l1 (⟨#[]⟩:ByteArray)).bind fun t178=>((control_cmd.f k 1 0 (([t175,t176,t177,t178]:List ByteArray))).bind fun t182=>(some t182))))))=some r:=h
 clear h
 replace H:=Option.bind_eq_some_iff.mp H
 obtain ⟨t175,A30,H⟩:=H
 replace H:((strings_Join.f l0 (⟨#[]⟩:ByteArray)).bind fun t176=>((control_low.f k (l1.length:Int) 4).bind fun t177=>((strings_Join.f l1 (⟨#[]⟩:ByteArray)).bind fun t178=>((control_cmd.f k 1 0 (([t175,t176,t177,t178]:List ByteArray))).bind fun t182=>(some t182)))))=some r:=H
 have A3:=amk A30
 clear A30
 replace H:=Option.bind_eq_some_iff.mp H
 obtain ⟨t176,A40,H⟩:=H
 replace H:((control_low.f k (l1.length:Int) 4).bind fun t177=>((strings_Join.f l1 (⟨#[]⟩:ByteArray)).bind fun t178=>((control_cmd.f k 1 0 (([t175,t176,t177,t178]:List ByteArray))).bind fun t182=>(some t182))))=some r:=H
 have A4:=amk A40
 clear A40
 replace H:=Option.bind_eq_some_iff.mp H
 obtain ⟨t177,A50,H⟩:=H
 replace H:((strings_Join.f l1 (⟨#[]⟩:ByteArray)).bind fun t178=>((control_cmd.f k 1 0 (([t175,t176,t177,t178]:List ByteArray))).bind fun t182=>(some t182)))=some r:=H
 have A5:=amk A50
 clear A50
 replace H:=Option.bind_eq_some_iff.mp H
 obtain ⟨t178,A60,H⟩:=H
 replace H:((control_cmd.f k 1 0 (([t175,t176,t177,t178]:List ByteArray))).bind fun t182=>(some t182))=some r:=H
 have A6:=amk A60
 clear A60
 obtain ⟨y179,hy179⟩:∃ y_:List ByteArray,y_=(([t175,t176,t177,t178]:List ByteArray)):=⟨_,rfl⟩
 replace H:((control_cmd.f k 1 0 y179).bind fun t182=>(some t182))=some r:=by first | (rw [hy179];with_reducible exact H) | (have H2_:=(Option.bind_some _ _).symm.trans H;rw [hy179];with_reducible exact H2_) | (have H2_:=(Option.bind_some _ _).symm.trans H;with_reducible exact H2_) | with_reducible exact H | (rw [hy179];exact H) | exact H
 have Ny179:=amk hy179
 clear hy179
 replace H:=Option.bind_eq_some_iff.mp H
 obtain ⟨t182,A70,H⟩:=H
 replace H:(some t182)=some r:=H
 have A7:=amk A70
 clear A70
 obtain rfl:=Option.some.inj H
 go_enter Try.func20,Try.ntmps20
 go_wp2_with (first | ((with_reducible refine gate_callee (f:=39) rfl ?_);refine goesL_ (some 7) rfl rfl Try.func39 (by kernel_rfl) rfl #[.int .i64 (l0.length:Int),.int .i64 4] rfl (by (try simp only [List.map_toArray,List.map_cons,List.map_nil]);first | done | rfl | (simp only [List.length_drop,List.length_take];rfl)) ?_;(with_reducible refine (control_low.calls k (l0.length:Int) 4 t175 _ A3.out).mono ?_);rintro e w8 ⟨rfl,hb⟩;refine ⟨_,rfl,?_⟩;have n0_:=amk (bws (by repeat (first | (with_reducible first | exact HB.out | apply bwa | apply pwd | apply bwd) | exact HB.out)) hb);clear HB;have HB:=n0_;clear n0_;(try clear hb);(try clear hb2);(try clear hk);(try clear hi)) | ((with_reducible refine gate_callee (f:=45) rfl ?_);refine goesL_ (some 9) rfl rfl Try.func45 (by kernel_rfl) rfl #[.slice A0 l0.length c0,.string (⟨#[]⟩:ByteArray)] rfl (by (try simp only [List.map_toArray,List.map_cons,List.map_nil]);first | done | rfl | (simp only [List.length_drop,List.length_take];rfl)) ?_;(with_reducible refine (strings_Join.calls _ _ l0 (⟨#[]⟩:ByteArray) t176 _ ?side1 ?side2 A4.out).mono ?_);(case side1=>repeat (first | exact (Kd.C_below HR0.out HB.out) | (with_reducible refine Kd.C_alloc ?_ _) | (with_reducible refine Kd.C_drewN ?_ _) | (with_reducible refine Kd.C_drew ?_)));(case side2=>exact HC0.out);rintro e w9 ⟨rfl,hb⟩;refine ⟨_,rfl,?_⟩;have n0_:=amk (bws (by repeat (first | (with_reducible first | exact HB.out | apply bwa | apply pwd | apply bwd) | exact HB.out)) hb);clear HB;have HB:=n0_;clear n0_;(try clear hb);(try clear hb2);(try clear hk);(try clear hi)) | ((with_reducible refine gate_callee (f:=39) rfl ?_);refine goesL_ (some 12) rfl rfl Try.func39 (by kernel_rfl) rfl #[.int .i64 (l1.length:Int),.int .i64 4] rfl (by (try simp only [List.map_toArray,List.map_cons,List.map_nil]);first | done | rfl | (simp only [List.length_drop,List.length_take];rfl)) ?_;(with_reducible refine (control_low.calls k (l1.length:Int) 4 t177 _ A5.out).mono ?_);rintro e w10 ⟨rfl,hb⟩;refine ⟨_,rfl,?_⟩;have n0_:=amk (bws (by repeat (first | (with_reducible first | exact HB.out | apply bwa | apply pwd | apply bwd) | exact HB.out)) hb);clear HB;have HB:=n0_;clear n0_;(try clear hb);(try clear hb2);(try clear hk);(try clear hi)) | ((with_reducible refine gate_callee (f:=45) rfl ?_);refine goesL_ (some 14) rfl rfl Try.func45 (by kernel_rfl) rfl #[.slice A1 l1.length c1,.string (⟨#[]⟩:ByteArray)] rfl (by (try simp only [List.map_toArray,List.map_cons,List.map_nil]);first | done | rfl | (simp only [List.length_drop,List.length_take];rfl)) ?_;(with_reducible refine (strings_Join.calls _ _ l1 (⟨#[]⟩:ByteArray) t178 _ ?side1 ?side2 A6.out).mono ?_);(case side1=>repeat (first | exact (Kd.C_below HR1.out HB.out) | (with_reducible refine Kd.C_alloc ?_ _) | (with_reducible refine Kd.C_drewN ?_ _) | (with_reducible refine Kd.C_drew ?_)));(case side2=>exact HC1.out);rintro e w11 ⟨rfl,hb⟩;refine ⟨_,rfl,?_⟩;have n0_:=amk (bws (by repeat (first | (with_reducible first | exact HB.out | apply bwa | apply pwd | apply bwd) | exact HB.out)) hb);clear HB;have HB:=n0_;clear n0_;(try clear hb);(try clear hb2);(try clear hk);(try clear hi)) | ((with_reducible refine gate_dst (N:=15) rfl ?_);refine Kd.R_lit Kd.string _ 9 ?hg (N:=15) ?hd (xs:=([t175,t176,t177,t178]:List ByteArray)) (inner:=[.string t175,.string t176,.string t177,.string t178]) (ok:=fun _=>True) (okp:=fun _=>True) ?hr ?hp (fun _ hk=>hk) trivial (Below.refl _ _) (Nat.le_refl _) (by simp) ?_;(case hd=>rfl);(case hg=>rfl);(case hr=>first | (go_simp;done) | (go_simp;rfl));(case hp=>exact (Reps.one (show Kd.M Kd.string _ _ _ t175 [.string t175] from rfl) (Reps.one (show Kd.M Kd.string _ _ _ t176 [.string t176] from rfl) (Reps.one (show Kd.M Kd.string _ _ _ t177 [.string t177] from rfl) (Reps.one (show Kd.M Kd.string _ _ _ t178 [.string t178] from rfl) (Reps.none _ _))))));intro v180 w12 ho13 hb hg_ hnew_;clear hg_ hnew_;(first | rw [← Ny179.out] at ho13 | (simp only [Int.reduceToNat] at ho13;rw [← Ny179.out] at ho13));have n0_:=amk (Kd.R_lower ho13 (below_size (by repeat (first | (with_reducible first | exact HB.out | apply bwa | apply pwd | apply bwd) | exact HB.out))));have n1_:=amk (bws (by repeat (first | (with_reducible first | exact HB.out | apply bwa | apply pwd | apply bwd) | exact HB.out)) hb);clear HB;have HO181:=n0_;have HB:=n1_;clear n0_ n1_;clear hb ho13;obtain ⟨Ao14,co14,eo14⟩:=Kd.R_slice HO181.out;subst eo14) | ((with_reducible refine gate_callee (f:=38) rfl ?_);refine goesL_ (some 16) rfl rfl Try.func38 (by kernel_rfl) rfl #[.int .i64 1,.int .i64 0,.slice Ao14 y179.length co14] rfl (by (try simp only [List.map_toArray,List.map_cons,List.map_nil]);first | done | rfl | (simp only [List.length_drop,List.length_take];rfl)) ?_;(with_reducible refine (control_cmd.calls k 1 0 _ _ y179 t182 _ ?side1 ?side2 A7.out).mono ?_);(case side1=>repeat (first | exact (Kd.R_reads' HO181.out).2.2 | (with_reducible refine Kd.C_alloc ?_ _) | (with_reducible refine Kd.C_drewN ?_ _) | (with_reducible refine Kd.C_drew ?_)));(case side2=>exact (Kd.R_reads' HO181.out).2.1);rintro e w15 ⟨rfl,hb⟩;refine ⟨_,rfl,?_⟩;have n0_:=amk (Kd.R_below (by (with_reducible repeat (first | apply Kd.R_alloc | apply Kd.R_drewN | apply Kd.R_drew));exact HO181.out) hb);have n1_:=amk (bws (by repeat (first | (with_reducible first | exact HB.out | apply bwa | apply pwd | apply bwd) | exact HB.out)) hb);clear HO181;clear HB;have HO181:=n0_;have HB:=n1_;clear n0_ n1_;(try clear hb);(try clear hb2);(try clear hk);(try clear hi)))
 go_ret
 exact ⟨by first | rfl | (simp [eWn,eWs] <;> rfl) | (simp [*,eWn,eWs] <;> rfl),by repeat (first | (with_reducible first | exact HB.out | apply bwa | apply pwd | apply bwd) | exact HB.out)⟩

/-! ### control_Mac: function 21 -/
def control_Mac.f (k:Nat) (a0:ByteArray):Option (ByteArray):=(control_cmd.f k 1 1 (([a0]:List ByteArray))).bind fun t186=>(some t186)
theorem control_Mac.mono:∀ a0 k,LeO (control_Mac.f k a0) (control_Mac.f (k+1) a0):=by
 intro a0 k
 unfold control_Mac.f
 repeat' first
   | (with_reducible exact control_cmd.mono _ _ _ _)
   | (with_reducible exact LeO.refl _)
   | (with_reducible exact LeO.none _)
   | (with_reducible refine LeO.ite ?_ ?_)
   | (with_reducible refine LeO.bind ?_ (fun _=>?_))
   | exact control_cmd.mono _ _ _ _
   | exact LeO.none _
   | refine LeO.ite ?_ ?_
   | refine LeO.bind ?_ (fun _=>?_)
set_option maxHeartbeats 8000000 in
set_option maxRecDepth 100000 in
theorem control_Mac.calls (k:Nat) (a0:ByteArray) (r:ByteArray) (w:World) (h:control_Mac.f k a0=some r) :
  Calls Try.prog 21 #[.string a0] w fun e w'=>e=.returned (.string r)∧Below w.heap.size w w':=by
 have HB:=amk (Below.refl w.heap.size w)
 have H:((control_cmd.f k 1 1 (([a0]:List ByteArray))).bind fun t186=>(some t186))=some r:=h
 clear h
 obtain ⟨y183,hy183⟩:∃ y_:List ByteArray,y_=(([a0]:List ByteArray)):=⟨_,rfl⟩
 replace H:((control_cmd.f k 1 1 y183).bind fun t186=>(some t186))=some r:=by first | (rw [hy183];with_reducible exact H) | (have H2_:=(Option.bind_some _ _).symm.trans H;rw [hy183];with_reducible exact H2_) | (have H2_:=(Option.bind_some _ _).symm.trans H;with_reducible exact H2_) | with_reducible exact H | (rw [hy183];exact H) | exact H
 have Ny183:=amk hy183
 clear hy183
 replace H:=Option.bind_eq_some_iff.mp H
 obtain ⟨t186,A20,H⟩:=H
 replace H:(some t186)=some r:=H
 have A2:=amk A20
 clear A20
 obtain rfl:=Option.some.inj H
 go_enter Try.func21,Try.ntmps21
 go_wp2_with (first | ((with_reducible refine gate_dst (N:=4) rfl ?_);refine Kd.R_lit Kd.string _ 9 ?hg (N:=4) ?hd (xs:=([a0]:List ByteArray)) (inner:=[.string a0]) (ok:=fun _=>True) (okp:=fun _=>True) ?hr ?hp (fun _ hk=>hk) trivial (Below.refl _ _) (Nat.le_refl _) (by simp) ?_;(case hd=>rfl);(case hg=>rfl);(case hr=>first | (go_simp;done) | (go_simp;rfl));(case hp=>exact (Reps.one (show Kd.M Kd.string _ _ _ a0 [.string a0] from rfl) (Reps.none _ _)));intro v184 w3 ho4 hb hg_ hnew_;clear hg_ hnew_;(first | rw [← Ny183.out] at ho4 | (simp only [Int.reduceToNat] at ho4;rw [← Ny183.out] at ho4));have n0_:=amk (Kd.R_lower ho4 (below_size (by repeat (first | (with_reducible first | exact HB.out | apply bwa | apply pwd | apply bwd) | exact HB.out))));have n1_:=amk (bws (by repeat (first | (with_reducible first | exact HB.out | apply bwa | apply pwd | apply bwd) | exact HB.out)) hb);clear HB;have HO185:=n0_;have HB:=n1_;clear n0_ n1_;clear hb ho4;obtain ⟨Ao5,co5,eo5⟩:=Kd.R_slice HO185.out;subst eo5) | ((with_reducible refine gate_callee (f:=38) rfl ?_);refine goesL_ (some 5) rfl rfl Try.func38 (by kernel_rfl) rfl #[.int .i64 1,.int .i64 1,.slice Ao5 y183.length co5] rfl (by (try simp only [List.map_toArray,List.map_cons,List.map_nil]);first | done | rfl | (simp only [List.length_drop,List.length_take];rfl)) ?_;(with_reducible refine (control_cmd.calls k 1 1 _ _ y183 t186 _ ?side1 ?side2 A2.out).mono ?_);(case side1=>repeat (first | exact (Kd.R_reads' HO185.out).2.2 | (with_reducible refine Kd.C_alloc ?_ _) | (with_reducible refine Kd.C_drewN ?_ _) | (with_reducible refine Kd.C_drew ?_)));(case side2=>exact (Kd.R_reads' HO185.out).2.1);rintro e w6 ⟨rfl,hb⟩;refine ⟨_,rfl,?_⟩;have n0_:=amk (Kd.R_below (by (with_reducible repeat (first | apply Kd.R_alloc | apply Kd.R_drewN | apply Kd.R_drew));exact HO185.out) hb);have n1_:=amk (bws (by repeat (first | (with_reducible first | exact HB.out | apply bwa | apply pwd | apply bwd) | exact HB.out)) hb);clear HO185;clear HB;have HO185:=n0_;have HB:=n1_;clear n0_ n1_;(try clear hb);(try clear hb2);(try clear hk);(try clear hi)))
 go_ret
 exact ⟨by first | rfl | (simp [eWn,eWs] <;> rfl) | (simp [*,eWn,eWs] <;> rfl),by repeat (first | (with_reducible first | exact HB.out | apply bwa | apply pwd | apply bwd) | exact HB.out)⟩

end Go.Proofs.Ytkgbhlcbjflnlaa.P
