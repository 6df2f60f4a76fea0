/- What functions of the program compute, each with the walk that shows it: by a program (a turned copy of the kit's print; wip/myprint.py). -/
import Derived.Test.YtkgbhlcbjflnlaaZG2
namespace Go.Proofs.Ytkgbhlcbjflnlaa.P
open Go.RowKit Go.Proofs.YtkgbhlcbjflnlaaW.PrintWords Go.Proofs.YtkgbhlcbjflnlaaW.PrintLast Go.Proofs.YtkgbhlcbjflnlaaW.PrintMore
attribute [local go_sem] max2_int min2_int max_two min_two max_three min_three max_four min_four   -- for this text's walks alone
set_option linter.unusedVariables false
set_option linter.unusedSimpArgs false

/-! ### aqueductref17_Num: function 32 -/
def aqueductref17_Num.l0:Nat→ByteArray→Int→Int→Int→Option (Int)
 | 0,_,_,_,_=>none
 | k+1,x0,x1,x7,x8=>if x8 ≥ 0 then (if 0≤(wrap64 (x1+x8)) then (if (wrap64 (x1+x8)) < (x0.size:Int) then (aqueductref17_Num.l0 k x0 x1 (wrap64 ((wrap64 (256 * x7))+(wrap64 (bt x0 (wrap64 (x1+x8)))))) (wrap64 (x8 - 1))) else (none)) else (none)) else (some x7)
def aqueductref17_Num.f (k:Nat) (a0:ByteArray) (a1:Int) (a2:Int):Option (Int):=aqueductref17_Num.l0 k a0 a1 0 (wrap64 (a2 - 1))
theorem aqueductref17_Num.mono_l:∀ k,(∀ y0 y1 y2 y3,LeO (aqueductref17_Num.l0 k y0 y1 y2 y3) (aqueductref17_Num.l0 (k+1) y0 y1 y2 y3))
 | 0=>fun _ _ _ _ r h=>by simp [aqueductref17_Num.l0] at h
 | k+1=>by
  have ih0:=aqueductref17_Num.mono_l k
  ·intro y0 y1 y2 y3
   unfold aqueductref17_Num.l0
   repeat' first
   | (with_reducible exact ih0 _ _ _ _)
   | (with_reducible exact LeO.refl _)
   | (with_reducible exact LeO.none _)
   | (with_reducible refine LeO.ite ?_ ?_)
   | (with_reducible refine LeO.bind ?_ (fun _=>?_))
   | exact ih0 _ _ _ _
   | exact LeO.none _
   | refine LeO.ite ?_ ?_
   | refine LeO.bind ?_ (fun _=>?_)
theorem aqueductref17_Num.mono:∀ a0 a1 a2 k,LeO (aqueductref17_Num.f k a0 a1 a2) (aqueductref17_Num.f (k+1) a0 a1 a2):=by
 intro a0 a1 a2 k
 have ih0:=aqueductref17_Num.mono_l k
 unfold aqueductref17_Num.f
 repeat' first
   | (with_reducible exact ih0 _ _ _ _)
   | (with_reducible exact LeO.refl _)
   | (with_reducible exact LeO.none _)
   | (with_reducible refine LeO.ite ?_ ?_)
   | (with_reducible refine LeO.bind ?_ (fun _=>?_))
   | exact ih0 _ _ _ _
   | exact LeO.none _
   | refine LeO.ite ?_ ?_
   | refine LeO.bind ?_ (fun _=>?_)
set_option maxHeartbeats 8000000 in
set_option maxRecDepth 100000 in
theorem aqueductref17_Num.calls (k:Nat) (a0:ByteArray) (a1:Int) (a2:Int) (r:Int) (w:World) (h:aqueductref17_Num.f k a0 a1 a2=some r) :
  Calls Try.prog 32 #[.string a0,.int .i64 a1,.int .i64 a2] w fun e w'=>e=.returned (.int .i64 r)∧Drawn0 w w':=by
 have H:(aqueductref17_Num.l0 k a0 a1 0 (wrap64 (a2 - 1)))=some r:=h
 clear h
 have H':=amk H
 clear H
 go_enter Try.func32,Try.ntmps32
 go_wp2
 go_loopg [7,8] k (fun kq v7 v8 w'=>∃ (x7_1:Int) (x8_1:Int),v7=.int .i64 x7_1∧v8=.int .i64 x8_1∧Aside0 (aqueductref17_Num.l0 kq a0 a1 x7_1 x8_1=some r)∧Aside0 (kq≤k)∧Drawn0 w w')
 case atStart=>exact ⟨(0),(wrap64 (a2 - 1)),(by first | rfl | (simp;done) | (simp [*];done)),(by first | rfl | (simp;done) | (simp [*];done)),H',⟨Nat.le_refl _⟩,by repeat (first | exact Drawn0.refl _ | apply Drawn0.step)⟩
 case round =>
  clear H'
  try clear p2
  try clear c3
  obtain ⟨x7_1,x8_1,rfl,rfl,HA,HK1,⟨m1,rfl⟩⟩:=hrel
  cases gk with
  | zero=>exact absurd HA.out (by simp [aqueductref17_Num.l0])
  | succ k1 =>
   have H:=HA.out
   clear HA
   simp only [aqueductref17_Num.l0] at H
   by_cases c4:x8_1 ≥ 0
   ·rw [if_pos c4] at H
    have c4b0:decide (0≤x8_1)=true:=decide_eq_true c4
    clear c4
    obtain ⟨ji5,hji5⟩:∃ j_:Int,(wrap64 (a1+x8_1))=j_:=⟨_,rfl⟩
    replace H:(if 0≤(ji5) then (if (ji5) < (a0.size:Int) then (aqueductref17_Num.l0 k1 a0 a1 (wrap64 ((wrap64 (256 * x7_1))+(wrap64 (bt a0 (ji5))))) (wrap64 (x8_1 - 1))) else (none)) else (none))=some r:=by first | (rw [hji5] at H;exact H) | (simp only [hji5] at H ⊢; exact H)
    have hji5w:(IntKind.i64.wrap (a1+x8_1))=ji5:=(i64_w _).trans hji5
    by_cases c6:0≤(ji5)
    ·rw [if_pos c6] at H
     have c6b0:decide (0≤(ji5))=true:=decide_eq_true c6
     clear c6
     by_cases c7:(ji5) < (a0.size:Int)
     ·rw [if_pos c7] at H
      have c7b0:decide ((ji5) < (a0.size:Int))=true:=decide_eq_true c7
      clear c7
      have H':=amk H
      clear H
      have p8:0≤((ji5):Int):=of_decide_eq_true (by first | (with_reducible assumption) | assumption)
      have q8:(ji5) < (a0.size:Int):=of_decide_eq_true (by first | (with_reducible assumption) | assumption)
      have hx8:=bt_at a0 (ji5)
      replace p8:=eq_true p8
      replace q8:=eq_true q8
      go_wp2
      go_roundg k1
      case measure=>have:=HK1.out;omega
      case rel=>exact ⟨(wrap64 ((wrap64 (256 * x7_1))+(wrap64 (bt a0 (ji5))))),(wrap64 (x8_1 - 1)),(by first | rfl | (simp;done) | (simp only [← hji5] <;> (first | rfl | simp)) | (simp [*];done)),(by first | rfl | (simp;done) | (simp [*];done)),H',⟨by have:=HK1.out;omega⟩,by repeat (first | exact Drawn0.refl _ | apply Drawn0.step)⟩
     ·rw [if_neg c7] at H
      exact absurd H (by simp)
    ·rw [if_neg c6] at H
     exact absurd H (by simp)
   ·rw [if_neg c4] at H
    have c4b0:decide (0≤x8_1)=false:=decide_eq_false c4
    clear c4
    obtain rfl:=Option.some.inj H
    go_wp2
    go_ret
    exact ⟨by first | rfl | (simp;done) | (simp [*];done),by repeat (first | exact Drawn0.refl _ | apply Drawn0.step)⟩

/-! ### aqueductref17_macs: function 46 -/
def aqueductref17_macs.l0:Nat→ByteArray→List ByteArray→Int→Int→Option (List ByteArray × ByteArray × Bool)
 | 0,_,_,_,_=>none
 | k+1,x0,x5,x6,x7=>if x7 < x6 then (if 0≤(wrap64 (6 * x7)) then (if (wrap64 (6 * x7))≤(wrap64 ((wrap64 (6 * x7))+6)) then (if (wrap64 ((wrap64 (6 * x7))+6))≤(x0.size:Int) then (if x5.length < 8796093022208 then (aqueductref17_macs.l0 k x0 (x5 ++ [x0.extract ((wrap64 (6 * x7)):Int).toNat ((wrap64 ((wrap64 (6 * x7))+6)):Int).toNat]) x6 (wrap64 (x7+1))) else (none)) else (none)) else (none)) else (none)) else (if 0≤(wrap64 (6 * x6)) then (if (wrap64 (6 * x6))≤(x0.size:Int) then (some (x5,x0.extract ((wrap64 (6 * x6)):Int).toNat x0.size,true)) else (none)) else (none))
def aqueductref17_macs.f (k:Nat) (a0:ByteArray):Option (List ByteArray × ByteArray × Bool):=(some (([]:List ByteArray):List ByteArray)).bind fun y214=>(if (a0.size:Int) < 4 then (some (y214,(⟨#[]⟩:ByteArray),false)) else ((aqueductref17_Num.f k a0 0 4).bind fun t217=>(if 4≤(a0.size:Int) then (if t217 > (wrap64 (((a0.extract 4 a0.size).size:Int) / 6)) then (some (y214,(⟨#[]⟩:ByteArray),false)) else (aqueductref17_macs.l0 k (a0.extract 4 a0.size) y214 t217 0)) else (none))))
theorem aqueductref17_macs.mono_l:∀ k,(∀ y0 y1 y2 y3,LeO (aqueductref17_macs.l0 k y0 y1 y2 y3) (aqueductref17_macs.l0 (k+1) y0 y1 y2 y3))
 | 0=>fun _ _ _ _ r h=>by simp [aqueductref17_macs.l0] at h
 | k+1=>by
  have ih0:=aqueductref17_macs.mono_l k
  ·intro y0 y1 y2 y3
   unfold aqueductref17_macs.l0
   repeat' first
   | (with_reducible exact ih0 _ _ _ _)
   | (with_reducible exact aqueductref17_Num.mono _ _ _ _)
   | (with_reducible exact LeO.refl _)
   | (with_reducible exact LeO.none _)
   | (with_reducible refine LeO.ite ?_ ?_)
   | (with_reducible refine LeO.bind ?_ (fun _=>?_))
   | exact ih0 _ _ _ _
   | exact aqueductref17_Num.mono _ _ _ _
   | exact LeO.none _
   | refine LeO.ite ?_ ?_
   | refine LeO.bind ?_ (fun _=>?_)
theorem aqueductref17_macs.mono:∀ a0 k,LeO (aqueductref17_macs.f k a0) (aqueductref17_macs.f (k+1) a0):=by
 intro a0 k
 have ih0:=aqueductref17_macs.mono_l k
 unfold aqueductref17_macs.f
 repeat' first
   | (with_reducible exact ih0 _ _ _ _)
   | (with_reducible exact aqueductref17_Num.mono _ _ _ _)
   | (with_reducible exact LeO.refl _)
   | (with_reducible exact LeO.none _)
   | (with_reducible refine LeO.ite ?_ ?_)
   | (with_reducible refine LeO.bind ?_ (fun _=>?_))
   | exact ih0 _ _ _ _
   | exact aqueductref17_Num.mono _ _ _ _
   | exact LeO.none _
   | refine LeO.ite ?_ ?_
   | refine LeO.bind ?_ (fun _=>?_)
set_option maxHeartbeats 8000000 in
set_option maxRecDepth 100000 in
theorem aqueductref17_macs.calls (k:Nat) (a0:ByteArray) (r1:List ByteArray) (r2:ByteArray) (r3:Bool) (w:World) (h:aqueductref17_macs.f k a0=some (r1,r2,r3)) :
  Calls Try.prog 46 #[.string a0] w fun e w'=>∃ v0_:Value,e=.returned (.tuple #[v0_,.string r2,.bool r3])∧Kd.R Kd.string 9 w' w.heap.size (fun _=>True) v0_ r1∧Below w.heap.size w w':=by
 have HB:=amk (Below.refl w.heap.size w)
 have H:((some (([]:List ByteArray):List ByteArray)).bind fun y214=>(if (a0.size:Int) < 4 then (some (y214,(⟨#[]⟩:ByteArray),false)) else ((aqueductref17_Num.f k a0 0 4).bind fun t217=>(if 4≤(a0.size:Int) then (if t217 > (wrap64 (((a0.extract 4 a0.size).size:Int) / 6)) then (some (y214,(⟨#[]⟩:ByteArray),false)) else (aqueductref17_macs.l0 k (a0.extract 4 a0.size) y214 t217 0)) else (none)))))=some (r1,r2,r3):=h
 clear h
 obtain ⟨y214,hy214⟩:∃ y_:List ByteArray,y_=(([]:List ByteArray)):=⟨_,rfl⟩
 replace H:(if (a0.size:Int) < 4 then (some (y214,(⟨#[]⟩:ByteArray),false)) else ((aqueductref17_Num.f k a0 0 4).bind fun t217=>(if 4≤(a0.size:Int) then (if t217 > (wrap64 (((a0.extract 4 a0.size).size:Int) / 6)) then (some (y214,(⟨#[]⟩:ByteArray),false)) else (aqueductref17_macs.l0 k (a0.extract 4 a0.size) y214 t217 0)) else (none))))=some (r1,r2,r3):=by first | (rw [hy214];with_reducible exact H) | (have H2_:=(Option.bind_some _ _).symm.trans H;rw [hy214];with_reducible exact H2_) | (have H2_:=(Option.bind_some _ _).symm.trans H;with_reducible exact H2_) | with_reducible exact H | (rw [hy214];exact H) | exact H
 have Ny214:=amk hy214
 clear hy214
 by_cases c2:(a0.size:Int) < 4
 ·rw [if_pos c2] at H
  have c2b0:decide ((a0.size:Int) < 4)=true:=decide_eq_true c2
  have c2b1:decide (a0.size < 4)=true:=decide_eq_true (by omega)
  clear c2
  simp only [Option.some.injEq,Prod.mk.injEq] at H
  obtain ⟨rfl,rfl,rfl⟩:=H
  go_enter Try.func46,Try.ntmps46
  go_wp2_with (first | ((with_reducible refine gate_dst (N:=8) rfl ?_);refine Kd.R_lit Kd.string _ 9 ?hg (N:=8) ?hd (xs:=([]:List ByteArray)) (inner:=[]) (ok:=fun _=>True) (okp:=fun _=>True) ?hr ?hp (fun _ hk=>hk) trivial (Below.refl _ _) (Nat.le_refl _) (by simp) ?_;(case hd=>rfl);(case hg=>rfl);(case hr=>first | (go_simp;done) | (go_simp;rfl));(case hp=>exact (Reps.none _ _));intro v215 w3 ho4 hb hg_ hnew_;clear hg_ hnew_;(first | rw [← Ny214.out] at ho4 | (simp only [Int.reduceToNat] at ho4;rw [← Ny214.out] at ho4));have n0_:=amk (Kd.R_lower ho4 (below_size (by repeat (first | (with_reducible first | exact HB.out | apply bwa | apply pwd | apply bwd) | exact HB.out))));have n1_:=amk (bws (by repeat (first | (with_reducible first | exact HB.out | apply bwa | apply pwd | apply bwd) | exact HB.out)) hb);clear HB;have HO216:=n0_;have HB:=n1_;clear n0_ n1_;clear hb ho4))
  repeat (go_quiet (first | ((with_reducible refine gate_dst (N:=8) rfl ?_);refine Kd.R_lit Kd.string _ 9 ?hg (N:=8) ?hd (xs:=([]:List ByteArray)) (inner:=[]) (ok:=fun _=>True) (okp:=fun _=>True) ?hr ?hp (fun _ hk=>hk) trivial (Below.refl _ _) (Nat.le_refl _) (by simp) ?_;(case hd=>rfl);(case hg=>rfl);(case hr=>first | (go_simp;done) | (go_simp;rfl));(case hp=>exact (Reps.none _ _));intro v215 w3 ho4 hb hg_ hnew_;clear hg_ hnew_;(first | rw [← Ny214.out] at ho4 | (simp only [Int.reduceToNat] at ho4;rw [← Ny214.out] at ho4));have n0_:=amk (Kd.R_lower ho4 (below_size (by repeat (first | (with_reducible first | exact HB.out | apply bwa | apply pwd | apply bwd) | exact HB.out))));have n1_:=amk (bws (by repeat (first | (with_reducible first | exact HB.out | apply bwa | apply pwd | apply bwd) | exact HB.out)) hb);clear HB;have HO216:=n0_;have HB:=n1_;clear n0_ n1_;clear hb ho4));try go_wp2_with (first | ((with_reducible refine gate_dst (N:=8) rfl ?_);refine Kd.R_lit Kd.string _ 9 ?hg (N:=8) ?hd (xs:=([]:List ByteArray)) (inner:=[]) (ok:=fun _=>True) (okp:=fun _=>True) ?hr ?hp (fun _ hk=>hk) trivial (Below.refl _ _) (Nat.le_refl _) (by simp) ?_;(case hd=>rfl);(case hg=>rfl);(case hr=>first | (go_simp;done) | (go_simp;rfl));(case hp=>exact (Reps.none _ _));intro v215 w3 ho4 hb hg_ hnew_;clear hg_ hnew_;(first | rw [← Ny214.out] at ho4 | (simp only [Int.reduceToNat] at ho4;rw [← Ny214.out] at ho4));have n0_:=amk (Kd.R_lower ho4 (below_size (by repeat (first | (with_reducible first | exact HB.out | apply bwa | apply pwd | apply bwd) | exact HB.out))));have n1_:=amk (bws (by repeat (first | (with_reducible first | exact HB.out | apply bwa | apply pwd | apply bwd) | exact HB.out)) hb);clear HB;have HO216:=n0_;have HB:=n1_;clear n0_ n1_;clear hb ho4)))
  go_ret3
  exact ⟨_,by first | rfl | (simp [eWn,eWs] <;> rfl) | (simp [*,eWn,eWs] <;> rfl),by (with_reducible repeat (first | apply Kd.R_alloc | apply Kd.R_drewN | apply Kd.R_drew));exact HO216.out,by repeat (first | (with_reducible first | exact HB.out | apply bwa | apply pwd | apply bwd) | exact HB.out)⟩
 ·rw [if_neg c2] at H
  have c2b0:decide ((a0.size:Int) < 4)=false:=decide_eq_false c2
  have c2b1:decide (a0.size < 4)=false:=decide_eq_false (by omega)
  clear c2
  replace H:=Option.bind_eq_some_iff.mp H
  obtain ⟨t217,A50,H⟩:=H
  replace H:(if 4≤(a0.size:Int) then (if t217 > (wrap64 (((a0.extract 4 a0.size).size:Int) / 6)) then (some (y214,(⟨#[]⟩:ByteArray),false)) else (aqueductref17_macs.l0 k (a0.extract 4 a0.size) y214 t217 0)) else (none))=some (r1,r2,r3):=H
  have A5:=amk A50
  clear A50
  by_cases c6:4≤(a0.size:Int)
  ·rw [if_pos c6] at H
   have c6b0:=eq_true c6
   have c6b1:decide (4≤(a0.size:Int))=true:=decide_eq_true c6
   clear c6
   by_cases c7:t217 > (wrap64 (((a0.extract 4 a0.size).size:Int) / 6))
   ·rw [if_pos c7] at H
    have c7b0:decide ((wrap64 (((a0.extract 4 a0.size).size:Int) / 6)) < t217)=true:=decide_eq_true c7
    have c7z0:decide ((wrap64 (((a0.size - 4:Nat):Int) / 6)) < t217)=true:=by rw [show a0.size - 4=(a0.extract 4 a0.size).size by simp];exact c7b0
    clear c7
    simp only [Option.some.injEq,Prod.mk.injEq] at H
    obtain ⟨rfl,rfl,rfl⟩:=H
    go_enter Try.func46,Try.ntmps46
    go_wp2_with (first | ((with_reducible refine gate_dst (N:=8) rfl ?_);refine Kd.R_lit Kd.string _ 9 ?hg (N:=8) ?hd (xs:=([]:List ByteArray)) (inner:=[]) (ok:=fun _=>True) (okp:=fun _=>True) ?hr ?hp (fun _ hk=>hk) trivial (Below.refl _ _) (Nat.le_refl _) (by simp) ?_;(case hd=>rfl);(case hg=>rfl);(case hr=>first | (go_simp;done) | (go_simp;rfl));(case hp=>exact (Reps.none _ _));intro v215 w8 ho9 hb hg_ hnew_;clear hg_ hnew_;(first | rw [← Ny214.out] at ho9 | (simp only [Int.reduceToNat] at ho9;rw [← Ny214.out] at ho9));have n0_:=amk (Kd.R_lower ho9 (below_size (by repeat (first | (with_reducible first | exact HB.out | apply bwa | apply pwd | apply bwd) | exact HB.out))));have n1_:=amk (bws (by repeat (first | (with_reducible first | exact HB.out | apply bwa | apply pwd | apply bwd) | exact HB.out)) hb);clear HB;have HO216:=n0_;have HB:=n1_;clear n0_ n1_;clear hb ho9) | (go_at_call 32;(with_reducible refine (aqueductref17_Num.calls k a0 0 4 t217 _ A5.out).mono ?_);rintro e w' ⟨rfl,⟨nd,rfl⟩⟩;(try first | exact ⟨rfl,_,World.drewN_drewN _ _ _⟩ | exact ⟨rfl,_,Eq.trans (World.drewN_drewN _ _ _) (congrArg (World.drewN _) (Nat.add_assoc _ _ _))⟩)))
    repeat (go_quiet (first | ((with_reducible refine gate_dst (N:=8) rfl ?_);refine Kd.R_lit Kd.string _ 9 ?hg (N:=8) ?hd (xs:=([]:List ByteArray)) (inner:=[]) (ok:=fun _=>True) (okp:=fun _=>True) ?hr ?hp (fun _ hk=>hk) trivial (Below.refl _ _) (Nat.le_refl _) (by simp) ?_;(case hd=>rfl);(case hg=>rfl);(case hr=>first | (go_simp;done) | (go_simp;rfl));(case hp=>exact (Reps.none _ _));intro v215 w8 ho9 hb hg_ hnew_;clear hg_ hnew_;(first | rw [← Ny214.out] at ho9 | (simp only [Int.reduceToNat] at ho9;rw [← Ny214.out] at ho9));have n0_:=amk (Kd.R_lower ho9 (below_size (by repeat (first | (with_reducible first | exact HB.out | apply bwa | apply pwd | apply bwd) | exact HB.out))));have n1_:=amk (bws (by repeat (first | (with_reducible first | exact HB.out | apply bwa | apply pwd | apply bwd) | exact HB.out)) hb);clear HB;have HO216:=n0_;have HB:=n1_;clear n0_ n1_;clear hb ho9) | (go_at_call 32;(with_reducible refine (aqueductref17_Num.calls k a0 0 4 t217 _ A5.out).mono ?_);rintro e w' ⟨rfl,⟨nd,rfl⟩⟩;(try first | exact ⟨rfl,_,World.drewN_drewN _ _ _⟩ | exact ⟨rfl,_,Eq.trans (World.drewN_drewN _ _ _) (congrArg (World.drewN _) (Nat.add_assoc _ _ _))⟩)));try go_wp2_with (first | ((with_reducible refine gate_dst (N:=8) rfl ?_);refine Kd.R_lit Kd.string _ 9 ?hg (N:=8) ?hd (xs:=([]:List ByteArray)) (inner:=[]) (ok:=fun _=>True) (okp:=fun _=>True) ?hr ?hp (fun _ hk=>hk) trivial (Below.refl _ _) (Nat.le_refl _) (by simp) ?_;(case hd=>rfl);(case hg=>rfl);(case hr=>first | (go_simp;done) | (go_simp;rfl));(case hp=>exact (Reps.none _ _));intro v215 w8 ho9 hb hg_ hnew_;clear hg_ hnew_;(first | rw [← Ny214.out] at ho9 | (simp only [Int.reduceToNat] at ho9;rw [← Ny214.out] at ho9));have n0_:=amk (Kd.R_lower ho9 (below_size (by repeat (first | (with_reducible first | exact HB.out | apply bwa | apply pwd | apply bwd) | exact HB.out))));have n1_:=amk (bws (by repeat (first | (with_reducible first | exact HB.out | apply bwa | apply pwd | apply bwd) | exact HB.out)) hb);clear HB;have HO216:=n0_;have HB:=n1_;clear n0_ n1_;clear hb ho9) | (go_at_call 32;(with_reducible refine (aqueductref17_Num.calls k a0 0 4 t217 _ A5.out).mono ?_);rintro e w' ⟨rfl,⟨nd,rfl⟩⟩;(try first | exact ⟨rfl,_,World.drewN_drewN _ _ _⟩ | exact ⟨rfl,_,Eq.trans (World.drewN_drewN _ _ _) (congrArg (World.drewN _) (Nat.add_assoc _ _ _))⟩))))
    go_ret3
    exact ⟨_,by first | rfl | (simp [eWn,eWs] <;> rfl) | (simp [*,eWn,eWs] <;> rfl),by (with_reducible repeat (first | apply Kd.R_alloc | apply Kd.R_drewN | apply Kd.R_drew));exact HO216.out,by repeat (first | (with_reducible first | exact HB.out | apply bwa | apply pwd | apply bwd) | exact HB.out)⟩
   ·rw [if_neg c7] at H
    have c7b0:decide ((wrap64 (((a0.extract 4 a0.size).size:Int) / 6)) < t217)=false:=decide_eq_false c7
    have c7z0:decide ((wrap64 (((a0.size - 4:Nat):Int) / 6)) < t217)=false:=by rw [show a0.size - 4=(a0.extract 4 a0.size).size by simp];exact c7b0
    clear c7
    have H':=amk H
    clear H
    go_enter Try.func46,Try.ntmps46
    go_wp2_with (first | ((with_reducible refine gate_dst (N:=8) rfl ?_);refine Kd.R_lit Kd.string _ 9 ?hg (N:=8) ?hd (xs:=([]:List ByteArray)) (inner:=[]) (ok:=fun _=>True) (okp:=fun _=>True) ?hr ?hp (fun _ hk=>hk) trivial (Below.refl _ _) (Nat.le_refl _) (by simp) ?_;(case hd=>rfl);(case hg=>rfl);(case hr=>first | (go_simp;done) | (go_simp;rfl));(case hp=>exact (Reps.none _ _));intro v215 w10 ho11 hb hg_ hnew_;clear hg_ hnew_;(first | rw [← Ny214.out] at ho11 | (simp only [Int.reduceToNat] at ho11;rw [← Ny214.out] at ho11));have n0_:=amk (Kd.R_lower ho11 (below_size (by repeat (first | (with_reducible first | exact HB.out | apply bwa | apply pwd | apply bwd) | exact HB.out))));have n1_:=amk (bws (by repeat (first | (with_reducible first | exact HB.out | apply bwa | apply pwd | apply bwd) | exact HB.out)) hb);clear HB;have HO216:=n0_;have HB:=n1_;clear n0_ n1_;clear hb ho11) | (go_at_call 32;(with_reducible refine (aqueductref17_Num.calls k a0 0 4 t217 _ A5.out).mono ?_);rintro e w' ⟨rfl,⟨nd,rfl⟩⟩;(try first | exact ⟨rfl,_,World.drewN_drewN _ _ _⟩ | exact ⟨rfl,_,Eq.trans (World.drewN_drewN _ _ _) (congrArg (World.drewN _) (Nat.add_assoc _ _ _))⟩)))
    repeat (go_quiet (first | ((with_reducible refine gate_dst (N:=8) rfl ?_);refine Kd.R_lit Kd.string _ 9 ?hg (N:=8) ?hd (xs:=([]:List ByteArray)) (inner:=[]) (ok:=fun _=>True) (okp:=fun _=>True) ?hr ?hp (fun _ hk=>hk) trivial (Below.refl _ _) (Nat.le_refl _) (by simp) ?_;(case hd=>rfl);(case hg=>rfl);(case hr=>first | (go_simp;done) | (go_simp;rfl));(case hp=>exact (Reps.none _ _));intro v215 w10 ho11 hb hg_ hnew_;clear hg_ hnew_;(first | rw [← Ny214.out] at ho11 | (simp only [Int.reduceToNat] at ho11;rw [← Ny214.out] at ho11));have n0_:=amk (Kd.R_lower ho11 (below_size (by repeat (first | (with_reducible first | exact HB.out | apply bwa | apply pwd | apply bwd) | exact HB.out))));have n1_:=amk (bws (by repeat (first | (with_reducible first | exact HB.out | apply bwa | apply pwd | apply bwd) | exact HB.out)) hb);clear HB;have HO216:=n0_;have HB:=n1_;clear n0_ n1_;clear hb ho11) | (go_at_call 32;(with_reducible refine (aqueductref17_Num.calls k a0 0 4 t217 _ A5.out).mono ?_);rintro e w' ⟨rfl,⟨nd,rfl⟩⟩;(try first | exact ⟨rfl,_,World.drewN_drewN _ _ _⟩ | exact ⟨rfl,_,Eq.trans (World.drewN_drewN _ _ _) (congrArg (World.drewN _) (Nat.add_assoc _ _ _))⟩)));try go_wp2_with (first | ((with_reducible refine gate_dst (N:=8) rfl ?_);refine Kd.R_lit Kd.string _ 9 ?hg (N:=8) ?hd (xs:=([]:List ByteArray)) (inner:=[]) (ok:=fun _=>True) (okp:=fun _=>True) ?hr ?hp (fun _ hk=>hk) trivial (Below.refl _ _) (Nat.le_refl _) (by simp) ?_;(case hd=>rfl);(case hg=>rfl);(case hr=>first | (go_simp;done) | (go_simp;rfl));(case hp=>exact (Reps.none _ _));intro v215 w10 ho11 hb hg_ hnew_;clear hg_ hnew_;(first | rw [← Ny214.out] at ho11 | (simp only [Int.reduceToNat] at ho11;rw [← Ny214.out] at ho11));have n0_:=amk (Kd.R_lower ho11 (below_size (by repeat (first | (with_reducible first | exact HB.out | apply bwa | apply pwd | apply bwd) | exact HB.out))));have n1_:=amk (bws (by repeat (first | (with_reducible first | exact HB.out | apply bwa | apply pwd | apply bwd) | exact HB.out)) hb);clear HB;have HO216:=n0_;have HB:=n1_;clear n0_ n1_;clear hb ho11) | (go_at_call 32;(with_reducible refine (aqueductref17_Num.calls k a0 0 4 t217 _ A5.out).mono ?_);rintro e w' ⟨rfl,⟨nd,rfl⟩⟩;(try first | exact ⟨rfl,_,World.drewN_drewN _ _ _⟩ | exact ⟨rfl,_,Eq.trans (World.drewN_drewN _ _ _) (congrArg (World.drewN _) (Nat.add_assoc _ _ _))⟩))))
    go_loopg [5,7] k (fun kq v5 v7 w'=>∃ (x5_1:List ByteArray) (x7_1:Int),v7=.int .i64 x7_1∧Aside0 (aqueductref17_macs.l0 kq (a0.extract 4 a0.size) x5_1 t217 x7_1=some (r1,r2,r3))∧Aside0 (kq≤k)∧Aside0 (Kd.R Kd.string 9 w' w.heap.size (fun _=>True) v5 x5_1)∧Aside0 (Below w.heap.size w w'))
    case atStart=>exact ⟨(y214),(0),(by first | rfl | (simp;done) | (simp [*];done)),H',⟨Nat.le_refl _⟩,⟨by (with_reducible repeat (first | apply Kd.R_alloc | apply Kd.R_drewN | apply Kd.R_drew));exact HO216.out⟩,⟨by repeat (first | (with_reducible first | exact HB.out | apply bwa | apply pwd | apply bwd) | exact HB.out)⟩⟩
    case round =>
     clear H'
     try clear c2
     try clear c2b0
     try clear c2b1
     try clear p2
     try clear c4
     try clear c6
     try clear c6b0
     try clear c6b1
     try clear p6
     try clear c7
     try clear c7b0
     obtain ⟨x5_1,x7_1,rfl,HA,HK1,HO_5,HB⟩:=hrel
     cases gk with
     | zero=>exact absurd HA.out (by simp [aqueductref17_macs.l0])
     | succ k1 =>
      have H:=HA.out
      clear HA
      simp only [aqueductref17_macs.l0] at H
      by_cases c12:x7_1 < t217
      ·rw [if_pos c12] at H
       have c12b0:decide (x7_1 < t217)=true:=decide_eq_true c12
       clear c12
       obtain ⟨ji13,hji13⟩:∃ j_:Int,(wrap64 (6 * x7_1))=j_:=⟨_,rfl⟩
       replace H:(if 0≤(ji13) then (if (ji13)≤(wrap64 ((ji13)+6)) then (if (wrap64 ((ji13)+6))≤((a0.extract 4 a0.size).size:Int) then (if x5_1.length < 8796093022208 then (aqueductref17_macs.l0 k1 (a0.extract 4 a0.size) (x5_1 ++ [(a0.extract 4 a0.size).extract ((ji13):Int).toNat ((wrap64 ((ji13)+6)):Int).toNat]) t217 (wrap64 (x7_1+1))) else (none)) else (none)) else (none)) else (none))=some (r1,r2,r3):=by first | (rw [hji13] at H;exact H) | (simp only [hji13] at H ⊢; exact H)
       have hji13w:(IntKind.i64.wrap (6 * x7_1))=ji13:=(i64_w _).trans hji13
       by_cases c14:0≤(ji13)
       ·rw [if_pos c14] at H
        have c14b0:=eq_true c14
        have c14b1:decide (0≤(ji13))=true:=decide_eq_true c14
        clear c14
        by_cases c15:(ji13)≤(wrap64 ((ji13)+6))
        ·rw [if_pos c15] at H
         have c15b0:=eq_true c15
         have c15b1:decide ((ji13)≤(wrap64 ((ji13)+6)))=true:=decide_eq_true c15
         by_cases c16:(wrap64 ((ji13)+6))≤((a0.extract 4 a0.size).size:Int)
         ·rw [if_pos c16] at H
          have c16b0:=eq_true c16
          have c16y:((wrap64 ((ji13)+6))≤((a0.size - 4:Nat):Int))=True:=eq_true (by rw [show a0.size - 4=(a0.extract 4 a0.size).size by simp];exact c16)
          have c16b1:decide ((wrap64 ((ji13)+6))≤((a0.extract 4 a0.size).size:Int))=true:=decide_eq_true c16
          have c16z1:decide ((wrap64 ((ji13)+6))≤((a0.size - 4:Nat):Int))=true:=by rw [show a0.size - 4=(a0.extract 4 a0.size).size by simp];exact c16b1
          by_cases c17:x5_1.length < 8796093022208
          ·rw [if_pos c17] at H
           have LMc17:=amk c17
           clear c17
           obtain ⟨y218,hy218⟩:∃ y_:List ByteArray,y_=(x5_1 ++ [(a0.extract 4 a0.size).extract ((ji13):Int).toNat ((wrap64 ((ji13)+6)):Int).toNat]):=⟨_,rfl⟩
           replace H:(aqueductref17_macs.l0 k1 (a0.extract 4 a0.size) y218 t217 (wrap64 (x7_1+1)))=some (r1,r2,r3):=by first | (rw [hy218];with_reducible exact H) | (have H2_:=(Option.bind_some _ _).symm.trans H;rw [hy218];with_reducible exact H2_) | (have H2_:=(Option.bind_some _ _).symm.trans H;with_reducible exact H2_) | with_reducible exact H | (rw [hy218];exact H) | exact H
           have Ny218:=amk hy218
           clear hy218
           have H':=amk H
           clear H
           go_wp2_with (first | ((with_reducible refine gate_builtin (b:=.append) (xs:=#[.tmp 28,.tmp 36]) rfl ?_);at_builtin;refine Kd.R_append Kd.string (w0:=w) w.heap.size rfl (.tmp 28) (.tmp 36) 22 9 (.string ⟨#[]⟩) 16 rfl Try.underlying22 info9 rfl (by decide) (by omega) u5 x5_1 ((a0.extract 4 a0.size).extract ((ji13):Int).toNat ((wrap64 ((ji13)+6)):Int).toNat) [.string ((a0.extract 4 a0.size).extract ((ji13):Int).toNat ((wrap64 ((ji13)+6)):Int).toNat)] (fun _=>True) (fun _=>False) rfl rfl ?aP (fun _ hk=>hk.elim) ?aF ?aO ?aB ?aS ?aL ?_;(case aP=>exact rfl);(case aB=>exact (by repeat (first | (with_reducible first | exact HB.out | apply bwa | apply pwd | apply bwd) | exact HB.out)));(case aF=>exact (fun _ _=>trivial));(case aO=>exact (by (with_reducible repeat (first | apply Kd.R_alloc | apply Kd.R_drewN | apply Kd.R_drew));exact HO_5.out));(case aS=>exact (below_size (by repeat (first | (with_reducible first | exact HB.out | apply bwa | apply pwd | apply bwd) | exact HB.out))));(case aL=>have:=LMc17.out;omega);intro v219 w18 ho hb hg hat;rw [← Ny218.out] at ho;have n0_:=amk (hb);have n1_:=amk (ho);clear HB;clear HO_5;have HB:=n0_;have HO220:=n1_;clear n0_ n1_;clear ho hb hg hat))
           repeat (go_quiet (first | ((with_reducible refine gate_builtin (b:=.append) (xs:=#[.tmp 28,.tmp 36]) rfl ?_);at_builtin;refine Kd.R_append Kd.string (w0:=w) w.heap.size rfl (.tmp 28) (.tmp 36) 22 9 (.string ⟨#[]⟩) 16 rfl Try.underlying22 info9 rfl (by decide) (by omega) u5 x5_1 ((a0.extract 4 a0.size).extract ((ji13):Int).toNat ((wrap64 ((ji13)+6)):Int).toNat) [.string ((a0.extract 4 a0.size).extract ((ji13):Int).toNat ((wrap64 ((ji13)+6)):Int).toNat)] (fun _=>True) (fun _=>False) rfl rfl ?aP (fun _ hk=>hk.elim) ?aF ?aO ?aB ?aS ?aL ?_;(case aP=>exact rfl);(case aB=>exact (by repeat (first | (with_reducible first | exact HB.out | apply bwa | apply pwd | apply bwd) | exact HB.out)));(case aF=>exact (fun _ _=>trivial));(case aO=>exact (by (with_reducible repeat (first | apply Kd.R_alloc | apply Kd.R_drewN | apply Kd.R_drew));exact HO_5.out));(case aS=>exact (below_size (by repeat (first | (with_reducible first | exact HB.out | apply bwa | apply pwd | apply bwd) | exact HB.out))));(case aL=>have:=LMc17.out;omega);intro v219 w18 ho hb hg hat;rw [← Ny218.out] at ho;have n0_:=amk (hb);have n1_:=amk (ho);clear HB;clear HO_5;have HB:=n0_;have HO220:=n1_;clear n0_ n1_;clear ho hb hg hat));try go_wp2_with (first | ((with_reducible refine gate_builtin (b:=.append) (xs:=#[.tmp 28,.tmp 36]) rfl ?_);at_builtin;refine Kd.R_append Kd.string (w0:=w) w.heap.size rfl (.tmp 28) (.tmp 36) 22 9 (.string ⟨#[]⟩) 16 rfl Try.underlying22 info9 rfl (by decide) (by omega) u5 x5_1 ((a0.extract 4 a0.size).extract ((ji13):Int).toNat ((wrap64 ((ji13)+6)):Int).toNat) [.string ((a0.extract 4 a0.size).extract ((ji13):Int).toNat ((wrap64 ((ji13)+6)):Int).toNat)] (fun _=>True) (fun _=>False) rfl rfl ?aP (fun _ hk=>hk.elim) ?aF ?aO ?aB ?aS ?aL ?_;(case aP=>exact rfl);(case aB=>exact (by repeat (first | (with_reducible first | exact HB.out | apply bwa | apply pwd | apply bwd) | exact HB.out)));(case aF=>exact (fun _ _=>trivial));(case aO=>exact (by (with_reducible repeat (first | apply Kd.R_alloc | apply Kd.R_drewN | apply Kd.R_drew));exact HO_5.out));(case aS=>exact (below_size (by repeat (first | (with_reducible first | exact HB.out | apply bwa | apply pwd | apply bwd) | exact HB.out))));(case aL=>have:=LMc17.out;omega);intro v219 w18 ho hb hg hat;rw [← Ny218.out] at ho;have n0_:=amk (hb);have n1_:=amk (ho);clear HB;clear HO_5;have HB:=n0_;have HO220:=n1_;clear n0_ n1_;clear ho hb hg hat)))
           go_roundg k1
           case measure=>have:=HK1.out;omega
           case rel=>exact ⟨(y218),(wrap64 (x7_1+1)),(by first | rfl | (simp;done) | (simp [*];done)),H',⟨by have:=HK1.out;omega⟩,⟨by (with_reducible repeat (first | apply Kd.R_alloc | apply Kd.R_drewN | apply Kd.R_drew));exact HO220.out⟩,⟨by repeat (first | (with_reducible first | exact HB.out | apply bwa | apply pwd | apply bwd) | exact HB.out)⟩⟩
          ·rw [if_neg c17] at H
           exact absurd H (by simp)
         ·rw [if_neg c16] at H
          exact absurd H (by simp)
        ·rw [if_neg c15] at H
         exact absurd H (by simp)
       ·rw [if_neg c14] at H
        exact absurd H (by simp)
      ·rw [if_neg c12] at H
       have c12b0:decide (x7_1 < t217)=false:=decide_eq_false c12
       clear c12
       obtain ⟨ji19,hji19⟩:∃ j_:Int,(wrap64 (6 * t217))=j_:=⟨_,rfl⟩
       replace H:(if 0≤(ji19) then (if (ji19)≤((a0.extract 4 a0.size).size:Int) then (some (x5_1,(a0.extract 4 a0.size).extract ((ji19):Int).toNat (a0.extract 4 a0.size).size,true)) else (none)) else (none))=some (r1,r2,r3):=by first | (rw [hji19] at H;exact H) | (simp only [hji19] at H ⊢; exact H)
       have hji19w:(IntKind.i64.wrap (6 * t217))=ji19:=(i64_w _).trans hji19
       by_cases c20:0≤(ji19)
       ·rw [if_pos c20] at H
        have c20b0:=eq_true c20
        have c20b1:decide (0≤(ji19))=true:=decide_eq_true c20
        clear c20
        by_cases c21:(ji19)≤((a0.extract 4 a0.size).size:Int)
        ·rw [if_pos c21] at H
         have c21b0:=eq_true c21
         have c21y:((ji19)≤((a0.size - 4:Nat):Int))=True:=eq_true (by rw [show a0.size - 4=(a0.extract 4 a0.size).size by simp];exact c21)
         have c21b1:decide ((ji19)≤((a0.extract 4 a0.size).size:Int))=true:=decide_eq_true c21
         have c21z1:decide ((ji19)≤((a0.size - 4:Nat):Int))=true:=by rw [show a0.size - 4=(a0.extract 4 a0.size).size by simp];exact c21b1
         clear c21
         simp only [Option.some.injEq,Prod.mk.injEq] at H
         obtain ⟨rfl,rfl,rfl⟩:=H
         go_wp2
         repeat (go_quiet (fail);try go_wp2)
         go_ret3
         exact ⟨_,by first | rfl | (simp [eWn,eWs] <;> rfl) | (simp only [← hji19];first | rfl | (simp [eWn,eWs] <;> rfl)) | (simp [*,eWn,eWs] <;> rfl),by (with_reducible repeat (first | apply Kd.R_alloc | apply Kd.R_drewN | apply Kd.R_drew));exact HO_5.out,by repeat (first | (with_reducible first | exact HB.out | apply bwa | apply pwd | apply bwd) | exact HB.out)⟩
        ·rw [if_neg c21] at H
         exact absurd H (by simp)
       ·rw [if_neg c20] at H
        exact absurd H (by simp)
  ·rw [if_neg c6] at H
   exact absurd H (by simp)

end Go.Proofs.Ytkgbhlcbjflnlaa.P
