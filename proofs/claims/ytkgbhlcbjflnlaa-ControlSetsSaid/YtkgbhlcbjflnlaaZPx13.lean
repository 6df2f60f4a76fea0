/- What functions of the program compute, each with the walk that shows it: by a program (a turned copy of the kit's print; wip/myprint.py). -/
import Derived.Test.YtkgbhlcbjflnlaaZPx0
namespace Go.Proofs.Ytkgbhlcbjflnlaa.P
open Go.RowKit Go.Proofs.YtkgbhlcbjflnlaaW.PrintWords Go.Proofs.YtkgbhlcbjflnlaaW.PrintLast Go.Proofs.YtkgbhlcbjflnlaaW.PrintMore
attribute [local go_sem] max2_int min2_int max_two min_two max_three min_three max_four min_four   -- for this text's walks alone
set_option linter.unusedVariables false
set_option linter.unusedSimpArgs false

/-! ### aqueductref16_Net: function 22 -/
def aqueductref16_Net.l0:Nat→List Int→Int→Int→Option (Bool)
 | 0,_,_,_=>none
 | k+1,x0,x1,x5=>if x5 < (x0.length:Int) then (if 0≤x5 then (if (rd x0 x5)=x1 then (some true) else (aqueductref16_Net.l0 k x0 x1 (wrap64 (x5+1)))) else (none)) else (some false)
def aqueductref16_Net.f (k:Nat) (l0:List Int) (a1:Int):Option (Bool):=aqueductref16_Net.l0 k l0 a1 0
theorem aqueductref16_Net.mono_l:∀ k,(∀ y0 y1 y2,LeO (aqueductref16_Net.l0 k y0 y1 y2) (aqueductref16_Net.l0 (k+1) y0 y1 y2))
 | 0=>fun _ _ _ r h=>by simp [aqueductref16_Net.l0] at h
 | k+1=>by
  have ih0:=aqueductref16_Net.mono_l k
  ·intro y0 y1 y2
   unfold aqueductref16_Net.l0
   repeat' first
   | (with_reducible exact ih0 _ _ _)
   | (with_reducible exact LeO.refl _)
   | (with_reducible exact LeO.none _)
   | (with_reducible refine LeO.ite ?_ ?_)
   | (with_reducible refine LeO.bind ?_ (fun _=>?_))
   | exact ih0 _ _ _
   | exact LeO.none _
   | refine LeO.ite ?_ ?_
   | refine LeO.bind ?_ (fun _=>?_)
theorem aqueductref16_Net.mono:∀ a0 a1 k,LeO (aqueductref16_Net.f k a0 a1) (aqueductref16_Net.f (k+1) a0 a1):=by
 intro a0 a1 k
 have ih0:=aqueductref16_Net.mono_l k
 unfold aqueductref16_Net.f
 repeat' first
   | (with_reducible exact ih0 _ _ _)
   | (with_reducible exact LeO.refl _)
   | (with_reducible exact LeO.none _)
   | (with_reducible refine LeO.ite ?_ ?_)
   | (with_reducible refine LeO.bind ?_ (fun _=>?_))
   | exact ih0 _ _ _
   | exact LeO.none _
   | refine LeO.ite ?_ ?_
   | refine LeO.bind ?_ (fun _=>?_)
set_option maxHeartbeats 8000000 in
set_option maxRecDepth 100000 in
theorem aqueductref16_Net.calls (k:Nat) (A0:Option Addr) (c0:Nat) (l0:List Int) (a1:Int) (r:Bool) (w:World) (hr0:Kd.C (Kd.int .i64) w A0 l0.length l0) (hc0:l0.length≤c0) (h:aqueductref16_Net.f k l0 a1=some r) :
  Calls Try.prog 22 #[.slice A0 l0.length c0,.int .i64 a1] w fun e w'=>e=.returned (.bool r)∧Drawn0 w w':=by
 have HR0:=amk hr0
 have HC0:=amk hc0
 clear hr0 hc0
 have H:(aqueductref16_Net.l0 k l0 a1 0)=some r:=h
 clear h
 have H':=amk H
 clear H
 go_enter Try.func22,Try.ntmps22
 go_wp2
 go_loopg [5] k (fun kq v5 w'=>∃ (x5_1:Int),v5=.int .i64 x5_1∧Aside0 (aqueductref16_Net.l0 kq l0 a1 x5_1=some r)∧Aside0 (kq≤k)∧Drawn0 w w')
 case atStart=>exact ⟨(0),(by first | rfl | (simp;done) | (simp [*];done)),H',⟨Nat.le_refl _⟩,by repeat (first | exact Drawn0.refl _ | apply Drawn0.step)⟩
 case round =>
  clear H'
  try clear c2
  try clear p2
  obtain ⟨x5_1,rfl,HA,HK1,⟨m1,rfl⟩⟩:=hrel
  cases gk with
  | zero=>exact absurd HA.out (by simp [aqueductref16_Net.l0])
  | succ k1 =>
   have H:=HA.out
   clear HA
   simp only [aqueductref16_Net.l0] at H
   by_cases c3:x5_1 < (l0.length:Int)
   ·rw [if_pos c3] at H
    have c3b0:decide (x5_1 < (l0.length:Int))=true:=decide_eq_true c3
    clear c3
    by_cases c4:0≤x5_1
    ·rw [if_pos c4] at H
     have c4b0:decide (0≤x5_1)=true:=decide_eq_true c4
     clear c4
     by_cases c5:(rd l0 x5_1)=a1
     ·rw [if_pos c5] at H
      have c5b0:((rd l0 x5_1) == a1)=true:=beq_iff_eq.mpr c5
      have c5b1:((rd l0 x5_1) != a1)=false:=bne_eq_false_iff_eq.mpr c5
      clear c5
      obtain rfl:=Option.some.inj H
      have p232:0≤(x5_1:Int):=of_decide_eq_true (by first | (with_reducible assumption) | assumption)
      have q232:x5_1 < (l0.length:Int):=of_decide_eq_true (by first | (with_reducible assumption) | assumption)
      obtain ⟨ad232,e232,hx232_0⟩:=Kd.at_int HR0.out x5_1 p232 q232
      cases e232
      replace p232:=eq_true p232
      replace q232:=eq_true q232
      go_wp2
      go_ret
      exact ⟨by first | rfl | (simp;done) | (simp [*];done),by repeat (first | exact Drawn0.refl _ | apply Drawn0.step)⟩
     ·rw [if_neg c5] at H
      have c5b0:((rd l0 x5_1) == a1)=false:=beq_eq_false_iff_ne.mpr c5
      have c5b1:((rd l0 x5_1) != a1)=true:=bne_iff_ne.mpr c5
      have H':=amk H
      clear H
      have p232:0≤(x5_1:Int):=of_decide_eq_true (by first | (with_reducible assumption) | assumption)
      have q232:x5_1 < (l0.length:Int):=of_decide_eq_true (by first | (with_reducible assumption) | assumption)
      obtain ⟨ad232,e232,hx232_0⟩:=Kd.at_int HR0.out x5_1 p232 q232
      cases e232
      replace p232:=eq_true p232
      replace q232:=eq_true q232
      go_wp2
      go_roundg k1
      case measure=>have:=HK1.out;omega
      case rel=>exact ⟨(wrap64 (x5_1+1)),(by first | rfl | (simp;done) | (simp [*];done)),H',⟨by have:=HK1.out;omega⟩,by repeat (first | exact Drawn0.refl _ | apply Drawn0.step)⟩
    ·rw [if_neg c4] at H
     exact absurd H (by simp)
   ·rw [if_neg c3] at H
    have c3b0:decide (x5_1 < (l0.length:Int))=false:=decide_eq_false c3
    clear c3
    obtain rfl:=Option.some.inj H
    go_wp2
    go_ret
    exact ⟨by first | rfl | (simp;done) | (simp [*];done),by repeat (first | exact Drawn0.refl _ | apply Drawn0.step)⟩

/-- THE ONE PURE STATEMENT of aqueductref16_Net: yours. -/
def aqueductref16_Net.Pure:Prop:=∀ (l0:List Int) (a1:Int),l0.length≤maxLen→l0.length * 8≤140737488351232→(∀ x∈l0,(Lit.int .i64 x).wf=true)→(Lit.int .i64 a1).wf=true→∃ k,aqueductref16_Net.f k l0 a1=some true
theorem aqueductref16_Net.walk (P:aqueductref16_Net.Pure) (a0:Option Addr) (len0 cap0:Nat) (z0:List Int) (a1:Int) (w:World) (w0:(a0=none∧len0=0∧cap0=0∧z0=[])∨∃ x,a0=some x∧len0≤cap0∧cap0≤maxLen∧z0.length=cap0∧(∀ i,i < z0.length→w.cell? (x.add i)=some (.int .i64 (z0.getD i 0)))∧∀ n∈z0,(Lit.int .i64 n).wf=true) (y0:len0 * 8≤140737488351232) (w1:(Lit.int .i64 a1).wf=true) :
  Calls Try.prog 22 #[.slice a0 len0 cap0,.int .i64 a1] w fun e w'=>e=.returned (.bool true)∧Below w.heap.size w w':=by
 obtain ⟨l0,rfl,hr0,hm0,hw0,hc0⟩:=ReadsInt.ofRowC w0
 obtain ⟨k,h⟩:=P l0 a1 hm0 y0 hw0 w1
 refine (aqueductref16_Net.calls k _ _ l0 a1 true w (Kd.C_of_reads (d:=(0:Int)) (h1:=fun _=>rfl) hr0) hc0 h).mono ?_
 rintro e w' ⟨rfl,hd⟩
 exact ⟨rfl,hd.below⟩

/-! ### aqueductref16_Nets: function 47 -/
def aqueductref16_Nets.l0:Nat→List Int→Int→Option (Bool)
 | 0,_,_=>none
 | k+1,x0,x3=>if x3 < (x0.length:Int) then (if 0≤x3 then (if (rd x0 x3) < 0 then (some false) else (if (rd x0 x3) > 4094 then (some false) else (if x3 > 0 then (if 0≤(wrap64 (x3 - 1)) then (if (wrap64 (x3 - 1)) < (x0.length:Int) then (if (rd x0 x3)≤(rd x0 (wrap64 (x3 - 1))) then (some false) else (aqueductref16_Nets.l0 k x0 (wrap64 (x3+1)))) else (none)) else (none)) else (aqueductref16_Nets.l0 k x0 (wrap64 (x3+1)))))) else (none)) else (some true)
def aqueductref16_Nets.f (k:Nat) (l0:List Int):Option (Bool):=aqueductref16_Nets.l0 k l0 0
theorem aqueductref16_Nets.mono_l:∀ k,(∀ y0 y1,LeO (aqueductref16_Nets.l0 k y0 y1) (aqueductref16_Nets.l0 (k+1) y0 y1))
 | 0=>fun _ _ r h=>by simp [aqueductref16_Nets.l0] at h
 | k+1=>by
  have ih0:=aqueductref16_Nets.mono_l k
  ·intro y0 y1
   unfold aqueductref16_Nets.l0
   repeat' first
   | (with_reducible exact ih0 _ _)
   | (with_reducible exact LeO.refl _)
   | (with_reducible exact LeO.none _)
   | (with_reducible refine LeO.ite ?_ ?_)
   | (with_reducible refine LeO.bind ?_ (fun _=>?_))
   | exact ih0 _ _
   | exact LeO.none _
   | refine LeO.ite ?_ ?_
   | refine LeO.bind ?_ (fun _=>?_)
theorem aqueductref16_Nets.mono:∀ a0 k,LeO (aqueductref16_Nets.f k a0) (aqueductref16_Nets.f (k+1) a0):=by
 intro a0 k
 have ih0:=aqueductref16_Nets.mono_l k
 unfold aqueductref16_Nets.f
 repeat' first
   | (with_reducible exact ih0 _ _)
   | (with_reducible exact LeO.refl _)
   | (with_reducible exact LeO.none _)
   | (with_reducible refine LeO.ite ?_ ?_)
   | (with_reducible refine LeO.bind ?_ (fun _=>?_))
   | exact ih0 _ _
   | exact LeO.none _
   | refine LeO.ite ?_ ?_
   | refine LeO.bind ?_ (fun _=>?_)
set_option maxHeartbeats 8000000 in
set_option maxRecDepth 100000 in
theorem aqueductref16_Nets.calls (k:Nat) (A0:Option Addr) (c0:Nat) (l0:List Int) (r:Bool) (w:World) (hr0:Kd.C (Kd.int .i64) w A0 l0.length l0) (hc0:l0.length≤c0) (h:aqueductref16_Nets.f k l0=some r) :
  Calls Try.prog 47 #[.slice A0 l0.length c0] w fun e w'=>e=.returned (.bool r)∧Drawn0 w w':=by
 have HR0:=amk hr0
 have HC0:=amk hc0
 clear hr0 hc0
 have H:(aqueductref16_Nets.l0 k l0 0)=some r:=h
 clear h
 have H':=amk H
 clear H
 go_enter Try.func47,Try.ntmps47
 go_wp2
 repeat (go_quiet (fail);try go_wp2)
 go_loopg [3] k (fun kq v3 w'=>∃ (x3_1:Int),v3=.int .i64 x3_1∧Aside0 (aqueductref16_Nets.l0 kq l0 x3_1=some r)∧Aside0 (kq≤k)∧Drawn0 w w')
 case atStart=>exact ⟨(0),(by first | rfl | (simp;done) | (simp [*];done)),H',⟨Nat.le_refl _⟩,by repeat (first | exact Drawn0.refl _ | apply Drawn0.step)⟩
 case round =>
  clear H'
  obtain ⟨x3_1,rfl,HA,HK1,⟨m1,rfl⟩⟩:=hrel
  cases gk with
  | zero=>exact absurd HA.out (by simp [aqueductref16_Nets.l0])
  | succ k1 =>
   have H:=HA.out
   clear HA
   simp only [aqueductref16_Nets.l0] at H
   by_cases c2:x3_1 < (l0.length:Int)
   ·rw [if_pos c2] at H
    have c2b0:decide (x3_1 < (l0.length:Int))=true:=decide_eq_true c2
    clear c2
    by_cases c3:0≤x3_1
    ·rw [if_pos c3] at H
     have c3b0:decide (0≤x3_1)=true:=decide_eq_true c3
     clear c3
     by_cases c4:(rd l0 x3_1) < 0
     ·rw [if_pos c4] at H
      have c4b0:decide ((rd l0 x3_1) < 0)=true:=decide_eq_true c4
      clear c4
      obtain rfl:=Option.some.inj H
      have p233:0≤(x3_1:Int):=of_decide_eq_true (by first | (with_reducible assumption) | assumption)
      have q233:x3_1 < (l0.length:Int):=of_decide_eq_true (by first | (with_reducible assumption) | assumption)
      obtain ⟨ad233,e233,hx233_0⟩:=Kd.at_int HR0.out x3_1 p233 q233
      cases e233
      replace p233:=eq_true p233
      replace q233:=eq_true q233
      go_wp2
      repeat (go_quiet (fail);try go_wp2)
      go_ret
      exact ⟨by first | rfl | (simp;done) | (simp [*];done),by repeat (first | exact Drawn0.refl _ | apply Drawn0.step)⟩
     ·rw [if_neg c4] at H
      have c4b0:decide ((rd l0 x3_1) < 0)=false:=decide_eq_false c4
      clear c4
      by_cases c5:(rd l0 x3_1) > 4094
      ·rw [if_pos c5] at H
       have c5b0:decide (4094 < (rd l0 x3_1))=true:=decide_eq_true c5
       clear c5
       obtain rfl:=Option.some.inj H
       have p233:0≤(x3_1:Int):=of_decide_eq_true (by first | (with_reducible assumption) | assumption)
       have q233:x3_1 < (l0.length:Int):=of_decide_eq_true (by first | (with_reducible assumption) | assumption)
       obtain ⟨ad233,e233,hx233_0⟩:=Kd.at_int HR0.out x3_1 p233 q233
       cases e233
       replace p233:=eq_true p233
       replace q233:=eq_true q233
       have p234:0≤(x3_1:Int):=of_decide_eq_true (by first | (with_reducible assumption) | assumption)
       have q234:x3_1 < (l0.length:Int):=of_decide_eq_true (by first | (with_reducible assumption) | assumption)
       obtain ⟨ad234,e234,hx234_0⟩:=Kd.at_int HR0.out x3_1 p234 q234
       obtain rfl:ad233=ad234:=(by injection e234)
       replace p234:=eq_true p234
       replace q234:=eq_true q234
       go_wp2
       repeat (go_quiet (fail);try go_wp2)
       go_ret
       exact ⟨by first | rfl | (simp;done) | (simp [*];done),by repeat (first | exact Drawn0.refl _ | apply Drawn0.step)⟩
      ·rw [if_neg c5] at H
       have c5b0:decide (4094 < (rd l0 x3_1))=false:=decide_eq_false c5
       clear c5
       by_cases c6:x3_1 > 0
       ·rw [if_pos c6] at H
        have c6b0:decide (0 < x3_1)=true:=decide_eq_true c6
        clear c6
        obtain ⟨ji7,hji7⟩:∃ j_:Int,(wrap64 (x3_1 - 1))=j_:=⟨_,rfl⟩
        replace H:(if 0≤(ji7) then (if (ji7) < (l0.length:Int) then (if (rd l0 x3_1)≤(rd l0 (ji7)) then (some false) else (aqueductref16_Nets.l0 k1 l0 (wrap64 (x3_1+1)))) else (none)) else (none))=some r:=by first | (rw [hji7] at H;exact H) | (simp only [hji7] at H ⊢; exact H)
        have hji7w:(IntKind.i64.wrap (x3_1 - 1))=ji7:=(i64_w _).trans hji7
        by_cases c8:0≤(ji7)
        ·rw [if_pos c8] at H
         have c8b0:decide (0≤(ji7))=true:=decide_eq_true c8
         clear c8
         by_cases c9:(ji7) < (l0.length:Int)
         ·rw [if_pos c9] at H
          have c9b0:decide ((ji7) < (l0.length:Int))=true:=decide_eq_true c9
          clear c9
          by_cases c10:(rd l0 x3_1)≤(rd l0 (ji7))
          ·rw [if_pos c10] at H
           have c10b0:decide ((rd l0 x3_1)≤(rd l0 (ji7)))=true:=decide_eq_true c10
           clear c10
           obtain rfl:=Option.some.inj H
           have p233:0≤(x3_1:Int):=of_decide_eq_true (by first | (with_reducible assumption) | assumption)
           have q233:x3_1 < (l0.length:Int):=of_decide_eq_true (by first | (with_reducible assumption) | assumption)
           obtain ⟨ad233,e233,hx233_0⟩:=Kd.at_int HR0.out x3_1 p233 q233
           cases e233
           replace p233:=eq_true p233
           replace q233:=eq_true q233
           have p234:0≤(x3_1:Int):=of_decide_eq_true (by first | (with_reducible assumption) | assumption)
           have q234:x3_1 < (l0.length:Int):=of_decide_eq_true (by first | (with_reducible assumption) | assumption)
           obtain ⟨ad234,e234,hx234_0⟩:=Kd.at_int HR0.out x3_1 p234 q234
           obtain rfl:ad233=ad234:=(by injection e234)
           replace p234:=eq_true p234
           replace q234:=eq_true q234
           have p235:0≤(x3_1:Int):=of_decide_eq_true (by first | (with_reducible assumption) | assumption)
           have q235:x3_1 < (l0.length:Int):=of_decide_eq_true (by first | (with_reducible assumption) | assumption)
           obtain ⟨ad235,e235,hx235_0⟩:=Kd.at_int HR0.out x3_1 p235 q235
           obtain rfl:ad233=ad235:=(by injection e235)
           replace p235:=eq_true p235
           replace q235:=eq_true q235
           have p236:0≤((ji7):Int):=of_decide_eq_true (by first | (with_reducible assumption) | assumption)
           have q236:(ji7) < (l0.length:Int):=of_decide_eq_true (by first | (with_reducible assumption) | assumption)
           obtain ⟨ad236,e236,hx236_0⟩:=Kd.at_int HR0.out (ji7) p236 q236
           obtain rfl:ad233=ad236:=(by injection e236)
           replace p236:=eq_true p236
           replace q236:=eq_true q236
           go_wp2
           repeat (go_quiet (fail);try go_wp2)
           go_ret
           exact ⟨by first | rfl | (simp;done) | (simp only [← hji7] <;> (first | rfl | simp)) | (simp [*];done),by repeat (first | exact Drawn0.refl _ | apply Drawn0.step)⟩
          ·rw [if_neg c10] at H
           have c10b0:decide ((rd l0 x3_1)≤(rd l0 (ji7)))=false:=decide_eq_false c10
           clear c10
           have H':=amk H
           clear H
           have p233:0≤(x3_1:Int):=of_decide_eq_true (by first | (with_reducible assumption) | assumption)
           have q233:x3_1 < (l0.length:Int):=of_decide_eq_true (by first | (with_reducible assumption) | assumption)
           obtain ⟨ad233,e233,hx233_0⟩:=Kd.at_int HR0.out x3_1 p233 q233
           cases e233
           replace p233:=eq_true p233
           replace q233:=eq_true q233
           have p234:0≤(x3_1:Int):=of_decide_eq_true (by first | (with_reducible assumption) | assumption)
           have q234:x3_1 < (l0.length:Int):=of_decide_eq_true (by first | (with_reducible assumption) | assumption)
           obtain ⟨ad234,e234,hx234_0⟩:=Kd.at_int HR0.out x3_1 p234 q234
           obtain rfl:ad233=ad234:=(by injection e234)
           replace p234:=eq_true p234
           replace q234:=eq_true q234
           have p235:0≤(x3_1:Int):=of_decide_eq_true (by first | (with_reducible assumption) | assumption)
           have q235:x3_1 < (l0.length:Int):=of_decide_eq_true (by first | (with_reducible assumption) | assumption)
           obtain ⟨ad235,e235,hx235_0⟩:=Kd.at_int HR0.out x3_1 p235 q235
           obtain rfl:ad233=ad235:=(by injection e235)
           replace p235:=eq_true p235
           replace q235:=eq_true q235
           have p236:0≤((ji7):Int):=of_decide_eq_true (by first | (with_reducible assumption) | assumption)
           have q236:(ji7) < (l0.length:Int):=of_decide_eq_true (by first | (with_reducible assumption) | assumption)
           obtain ⟨ad236,e236,hx236_0⟩:=Kd.at_int HR0.out (ji7) p236 q236
           obtain rfl:ad233=ad236:=(by injection e236)
           replace p236:=eq_true p236
           replace q236:=eq_true q236
           go_wp2
           repeat (go_quiet (fail);try go_wp2)
           go_roundg k1
           case measure=>have:=HK1.out;omega
           case rel=>exact ⟨(wrap64 (x3_1+1)),(by first | rfl | (simp;done) | (simp [*];done)),H',⟨by have:=HK1.out;omega⟩,by repeat (first | exact Drawn0.refl _ | apply Drawn0.step)⟩
         ·rw [if_neg c9] at H
          exact absurd H (by simp)
        ·rw [if_neg c8] at H
         exact absurd H (by simp)
       ·rw [if_neg c6] at H
        have c6b0:decide (0 < x3_1)=false:=decide_eq_false c6
        clear c6
        have H':=amk H
        clear H
        have p233:0≤(x3_1:Int):=of_decide_eq_true (by first | (with_reducible assumption) | assumption)
        have q233:x3_1 < (l0.length:Int):=of_decide_eq_true (by first | (with_reducible assumption) | assumption)
        obtain ⟨ad233,e233,hx233_0⟩:=Kd.at_int HR0.out x3_1 p233 q233
        cases e233
        replace p233:=eq_true p233
        replace q233:=eq_true q233
        have p234:0≤(x3_1:Int):=of_decide_eq_true (by first | (with_reducible assumption) | assumption)
        have q234:x3_1 < (l0.length:Int):=of_decide_eq_true (by first | (with_reducible assumption) | assumption)
        obtain ⟨ad234,e234,hx234_0⟩:=Kd.at_int HR0.out x3_1 p234 q234
        obtain rfl:ad233=ad234:=(by injection e234)
        replace p234:=eq_true p234
        replace q234:=eq_true q234
        go_wp2
        repeat (go_quiet (fail);try go_wp2)
        go_roundg k1
        case measure=>have:=HK1.out;omega
        case rel=>exact ⟨(wrap64 (x3_1+1)),(by first | rfl | (simp;done) | (simp [*];done)),H',⟨by have:=HK1.out;omega⟩,by repeat (first | exact Drawn0.refl _ | apply Drawn0.step)⟩
    ·rw [if_neg c3] at H
     exact absurd H (by simp)
   ·rw [if_neg c2] at H
    have c2b0:decide (x3_1 < (l0.length:Int))=false:=decide_eq_false c2
    clear c2
    obtain rfl:=Option.some.inj H
    go_wp2
    repeat (go_quiet (fail);try go_wp2)
    go_ret
    exact ⟨by first | rfl | (simp;done) | (simp [*];done),by repeat (first | exact Drawn0.refl _ | apply Drawn0.step)⟩

end Go.Proofs.Ytkgbhlcbjflnlaa.P
