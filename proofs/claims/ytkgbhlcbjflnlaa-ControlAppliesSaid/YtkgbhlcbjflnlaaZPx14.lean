/- What functions of the program compute, each with the walk that shows it: by a program (a turned copy of the kit's print; wip/myprint.py). -/
import Derived.Test.YtkgbhlcbjflnlaaZG2
import Derived.Test.YtkgbhlcbjflnlaaZPx13
namespace Go.Proofs.Ytkgbhlcbjflnlaa.P
open Go.RowKit Go.Proofs.YtkgbhlcbjflnlaaW.PrintWords Go.Proofs.YtkgbhlcbjflnlaaW.PrintLast Go.Proofs.YtkgbhlcbjflnlaaW.PrintMore
attribute [local go_sem] max2_int min2_int max_two min_two max_three min_three max_four min_four   -- for this text's walks alone
set_option linter.unusedVariables false
set_option linter.unusedSimpArgs false

/-! ### aqueductref05_Kind: function 49 -/
def aqueductref05_Kind.l0:Nat→ByteArray→Bool→Int→Option (Int)
 | 0,_,_,_=>none
 | k+1,x0,x3,x4=>if x4 < 6 then (if x3=true then (if 0≤x4 then (if x4 < (x0.size:Int) then (aqueductref05_Kind.l0 k x0 ((bt x0 x4) == 255) (wrap64 (x4+1))) else (none)) else (none)) else (aqueductref05_Kind.l0 k x0 false (wrap64 (x4+1)))) else (if x3=true then (some 3) else (if 0 < (x0.size:Int) then (if (Int.tmod (wrap64 (bt x0 0)) 2)=1 then (some 2) else (some 1)) else (none)))
def aqueductref05_Kind.f (k:Nat) (a0:ByteArray):Option (Int):=if (a0.size:Int)=6 then (aqueductref05_Kind.l0 k a0 true 0) else (some 0)
theorem aqueductref05_Kind.mono_l:∀ k,(∀ y0 y1 y2,LeO (aqueductref05_Kind.l0 k y0 y1 y2) (aqueductref05_Kind.l0 (k+1) y0 y1 y2))
 | 0=>fun _ _ _ r h=>by simp [aqueductref05_Kind.l0] at h
 | k+1=>by
  have ih0:=aqueductref05_Kind.mono_l k
  ·intro y0 y1 y2
   unfold aqueductref05_Kind.l0
   repeat' first
   | (with_reducible exact ih0 _ _ _)
   | (with_reducible exact LeO.refl _)
   | (with_reducible exact LeO.none _)
   | (with_reducible refine LeO.ite ?_ ?_)
   | (with_reducible refine LeO.bind ?_ (fun _=>?_))
   | exact ih0 _ _ _
   | exact LeO.none _
   | refine LeO.ite ?_ ?_
   | refine LeO.bind ?_ (fun _=>?_)
theorem aqueductref05_Kind.mono:∀ a0 k,LeO (aqueductref05_Kind.f k a0) (aqueductref05_Kind.f (k+1) a0):=by
 intro a0 k
 have ih0:=aqueductref05_Kind.mono_l k
 unfold aqueductref05_Kind.f
 repeat' first
   | (with_reducible exact ih0 _ _ _)
   | (with_reducible exact LeO.refl _)
   | (with_reducible exact LeO.none _)
   | (with_reducible refine LeO.ite ?_ ?_)
   | (with_reducible refine LeO.bind ?_ (fun _=>?_))
   | exact ih0 _ _ _
   | exact LeO.none _
   | refine LeO.ite ?_ ?_
   | refine LeO.bind ?_ (fun _=>?_)
set_option maxHeartbeats 8000000 in
set_option maxRecDepth 100000 in
theorem aqueductref05_Kind.calls (k:Nat) (a0:ByteArray) (r:Int) (w:World) (h:aqueductref05_Kind.f k a0=some r) :
  Calls Try.prog 49 #[.string a0] w fun e w'=>e=.returned (.int .i64 r)∧Drawn0 w w':=by
 have H:(if (a0.size:Int)=6 then (aqueductref05_Kind.l0 k a0 true 0) else (some 0))=some r:=h
 clear h
 by_cases c2:(a0.size:Int)=6
 ·rw [if_pos c2] at H
  have c2b0:((a0.size:Int) == 6)=true:=beq_iff_eq.mpr c2
  have c2b1:((a0.size:Int) != 6)=false:=bne_eq_false_iff_eq.mpr c2
  clear c2
  have H':=amk H
  clear H
  go_enter Try.func49,Try.ntmps49
  go_wp2
  go_loopg [3,4] k (fun kq v3 v4 w'=>∃ (x3_1:Bool) (x4_1:Int),v3=.bool x3_1∧v4=.int .i64 x4_1∧Aside0 (aqueductref05_Kind.l0 kq a0 x3_1 x4_1=some r)∧Aside0 (kq≤k)∧Drawn0 w w')
  case atStart=>exact ⟨(true),(0),(by first | rfl | (simp;done) | (simp [*];done)),(by first | rfl | (simp;done) | (simp [*];done)),H',⟨Nat.le_refl _⟩,by repeat (first | exact Drawn0.refl _ | apply Drawn0.step)⟩
  case round =>
   clear H'
   try clear c2
   try clear c2b0
   try clear c2b1
   try clear p2
   obtain ⟨x3_1,x4_1,rfl,rfl,HA,HK1,⟨m1,rfl⟩⟩:=hrel
   cases gk with
   | zero=>exact absurd HA.out (by simp [aqueductref05_Kind.l0])
   | succ k1 =>
    have H:=HA.out
    clear HA
    simp only [aqueductref05_Kind.l0] at H
    by_cases c3:x4_1 < 6
    ·rw [if_pos c3] at H
     have c3b0:decide (x4_1 < 6)=true:=decide_eq_true c3
     clear c3
     by_cases c4:x3_1=true
     ·subst c4
      have H1:(if 0≤x4_1 then (if x4_1 < (a0.size:Int) then (aqueductref05_Kind.l0 k1 a0 ((bt a0 x4_1) == 255) (wrap64 (x4_1+1))) else (none)) else (none))=some r:=by rw [if_pos rfl] at H;exact H
      clear H
      have H:=H1
      clear H1
      by_cases c5:0≤x4_1
      ·rw [if_pos c5] at H
       have c5b0:decide (0≤x4_1)=true:=decide_eq_true c5
       clear c5
       by_cases c6:x4_1 < (a0.size:Int)
       ·rw [if_pos c6] at H
        have c6b0:decide (x4_1 < (a0.size:Int))=true:=decide_eq_true c6
        clear c6
        have H':=amk H
        clear H
        have p7:0≤(x4_1:Int):=of_decide_eq_true (by first | (with_reducible assumption) | assumption)
        have q7:x4_1 < (a0.size:Int):=of_decide_eq_true (by first | (with_reducible assumption) | assumption)
        have hx7:=bt_at a0 x4_1
        replace p7:=eq_true p7
        replace q7:=eq_true q7
        go_wp2
        go_roundg k1
        case measure=>have:=HK1.out;omega
        case rel=>exact ⟨(((bt a0 x4_1) == 255)),(wrap64 (x4_1+1)),(by first | rfl | (simp;done) | (simp [*];done)),(by first | rfl | (simp;done) | (simp [*];done)),H',⟨by have:=HK1.out;omega⟩,by repeat (first | exact Drawn0.refl _ | apply Drawn0.step)⟩
       ·rw [if_neg c6] at H
        exact absurd H (by simp)
      ·rw [if_neg c5] at H
       exact absurd H (by simp)
     ·replace c4:=Bool.eq_false_iff.mpr c4
      subst c4
      have H1:(aqueductref05_Kind.l0 k1 a0 false (wrap64 (x4_1+1)))=some r:=by rw [if_neg (show ¬ (false=true) by decide)] at H;exact H
      clear H
      have H:=H1
      clear H1
      have H':=amk H
      clear H
      go_wp2
      go_roundg k1
      case measure=>have:=HK1.out;omega
      case rel=>exact ⟨(false),(wrap64 (x4_1+1)),(by first | rfl | (simp;done) | (simp [*];done)),(by first | rfl | (simp;done) | (simp [*];done)),H',⟨by have:=HK1.out;omega⟩,by repeat (first | exact Drawn0.refl _ | apply Drawn0.step)⟩
    ·rw [if_neg c3] at H
     have c3b0:decide (x4_1 < 6)=false:=decide_eq_false c3
     clear c3
     by_cases c8:x3_1=true
     ·subst c8
      have H1:(some 3)=some r:=by rw [if_pos rfl] at H;exact H
      clear H
      have H:=H1
      clear H1
      obtain rfl:=Option.some.inj H
      go_wp2
      go_ret
      exact ⟨by first | rfl | (simp;done) | (simp [*];done),by repeat (first | exact Drawn0.refl _ | apply Drawn0.step)⟩
     ·replace c8:=Bool.eq_false_iff.mpr c8
      subst c8
      have H1:(if 0 < (a0.size:Int) then (if (Int.tmod (wrap64 (bt a0 0)) 2)=1 then (some 2) else (some 1)) else (none))=some r:=by rw [if_neg (show ¬ (false=true) by decide)] at H;exact H
      clear H
      have H:=H1
      clear H1
      by_cases c9:0 < (a0.size:Int)
      ·rw [if_pos c9] at H
       have c9b0:decide (0 < (a0.size:Int))=true:=decide_eq_true c9
       have c9b1:decide (0 < a0.size)=true:=decide_eq_true (by omega)
       clear c9
       by_cases c11:(Int.tmod (wrap64 (bt a0 0)) 2)=1
       ·rw [if_pos c11] at H
        have c11b0:((Int.tmod (wrap64 (bt a0 0)) 2) == 1)=true:=beq_iff_eq.mpr c11
        have c11b1:((Int.tmod (wrap64 (bt a0 0)) 2) != 1)=false:=bne_eq_false_iff_eq.mpr c11
        clear c11
        obtain rfl:=Option.some.inj H
        have p10:0≤(0:Int):=(by omega)
        have q10:0 < a0.size:=(by have:(0:Int) < (a0.size:Int):=of_decide_eq_true (by first | (with_reducible assumption) | assumption);omega)
        have hx10:∀ h:0 < a0.size,((a0[0]'h).toNat:Int)=bt a0 0:=bt_at a0 0
        clear p10
        have qi10:(0 < (a0.size:Int))=True:=eq_true (of_decide_eq_true (by first | (with_reducible assumption) | assumption))
        replace q10:=eq_true q10
        go_wp2
        go_ret
        exact ⟨by first | rfl | (simp;done) | (simp [*];done),by repeat (first | exact Drawn0.refl _ | apply Drawn0.step)⟩
       ·rw [if_neg c11] at H
        have c11b0:((Int.tmod (wrap64 (bt a0 0)) 2) == 1)=false:=beq_eq_false_iff_ne.mpr c11
        have c11b1:((Int.tmod (wrap64 (bt a0 0)) 2) != 1)=true:=bne_iff_ne.mpr c11
        obtain rfl:=Option.some.inj H
        have p10:0≤(0:Int):=(by omega)
        have q10:0 < a0.size:=(by have:(0:Int) < (a0.size:Int):=of_decide_eq_true (by first | (with_reducible assumption) | assumption);omega)
        have hx10:∀ h:0 < a0.size,((a0[0]'h).toNat:Int)=bt a0 0:=bt_at a0 0
        clear p10
        have qi10:(0 < (a0.size:Int))=True:=eq_true (of_decide_eq_true (by first | (with_reducible assumption) | assumption))
        replace q10:=eq_true q10
        go_wp2
        go_ret
        exact ⟨by first | rfl | (simp;done) | (simp [*];done),by repeat (first | exact Drawn0.refl _ | apply Drawn0.step)⟩
      ·rw [if_neg c9] at H
       exact absurd H (by simp)
 ·rw [if_neg c2] at H
  have c2b0:((a0.size:Int) == 6)=false:=beq_eq_false_iff_ne.mpr c2
  have c2b1:((a0.size:Int) != 6)=true:=bne_iff_ne.mpr c2
  obtain rfl:=Option.some.inj H
  go_enter Try.func49,Try.ntmps49
  go_wp2
  go_ret
  exact ⟨by first | rfl | (simp;done) | (simp [*];done),by repeat (first | exact Drawn0.refl _ | apply Drawn0.step)⟩

/-! ### aqueductref16_kinds: function 50 -/
def aqueductref16_kinds.l0:Nat→List ByteArray→Int→Int→Option (Bool)
 | 0,_,_,_=>none
 | k+1,x0,x1,x5=>if x5 < (x0.length:Int) then (if 0≤x5 then ((aqueductref05_Kind.f k (rdOf ByteArray.empty x0 x5)).bind fun t238=>(if t238=x1 then (aqueductref16_kinds.l0 k x0 x1 (wrap64 (x5+1))) else (some false))) else (none)) else (some (decide ((x0.length:Int)≤16)))
def aqueductref16_kinds.f (k:Nat) (l0:List ByteArray) (a1:Int):Option (Bool):=aqueductref16_kinds.l0 k l0 a1 0
theorem aqueductref16_kinds.mono_l:∀ k,(∀ y0 y1 y2,LeO (aqueductref16_kinds.l0 k y0 y1 y2) (aqueductref16_kinds.l0 (k+1) y0 y1 y2))
 | 0=>fun _ _ _ r h=>by simp [aqueductref16_kinds.l0] at h
 | k+1=>by
  have ih0:=aqueductref16_kinds.mono_l k
  ·intro y0 y1 y2
   unfold aqueductref16_kinds.l0
   repeat' first
   | (with_reducible exact ih0 _ _ _)
   | (with_reducible exact aqueductref05_Kind.mono _ _)
   | (with_reducible exact LeO.refl _)
   | (with_reducible exact LeO.none _)
   | (with_reducible refine LeO.ite ?_ ?_)
   | (with_reducible refine LeO.bind ?_ (fun _=>?_))
   | exact ih0 _ _ _
   | exact aqueductref05_Kind.mono _ _
   | exact LeO.none _
   | refine LeO.ite ?_ ?_
   | refine LeO.bind ?_ (fun _=>?_)
theorem aqueductref16_kinds.mono:∀ a0 a1 k,LeO (aqueductref16_kinds.f k a0 a1) (aqueductref16_kinds.f (k+1) a0 a1):=by
 intro a0 a1 k
 have ih0:=aqueductref16_kinds.mono_l k
 unfold aqueductref16_kinds.f
 repeat' first
   | (with_reducible exact ih0 _ _ _)
   | (with_reducible exact aqueductref05_Kind.mono _ _)
   | (with_reducible exact LeO.refl _)
   | (with_reducible exact LeO.none _)
   | (with_reducible refine LeO.ite ?_ ?_)
   | (with_reducible refine LeO.bind ?_ (fun _=>?_))
   | exact ih0 _ _ _
   | exact aqueductref05_Kind.mono _ _
   | exact LeO.none _
   | refine LeO.ite ?_ ?_
   | refine LeO.bind ?_ (fun _=>?_)
set_option maxHeartbeats 8000000 in
set_option maxRecDepth 100000 in
theorem aqueductref16_kinds.calls (k:Nat) (A0:Option Addr) (c0:Nat) (l0:List ByteArray) (a1:Int) (r:Bool) (w:World) (hr0:Kd.C Kd.string w A0 l0.length l0) (hc0:l0.length≤c0) (h:aqueductref16_kinds.f k l0 a1=some r) :
  Calls Try.prog 50 #[.slice A0 l0.length c0,.int .i64 a1] w fun e w'=>e=.returned (.bool r)∧Drawn0 w w':=by
 have HR0:=amk hr0
 have HC0:=amk hc0
 clear hr0 hc0
 have H:(aqueductref16_kinds.l0 k l0 a1 0)=some r:=h
 clear h
 have H':=amk H
 clear H
 go_enter Try.func50,Try.ntmps50
 go_wp2
 go_loopg [5] k (fun kq v5 w'=>∃ (x5_1:Int),v5=.int .i64 x5_1∧Aside0 (aqueductref16_kinds.l0 kq l0 a1 x5_1=some r)∧Aside0 (kq≤k)∧Drawn0 w w')
 case atStart=>exact ⟨(0),(by first | rfl | (simp;done) | (simp [*];done)),H',⟨Nat.le_refl _⟩,by repeat (first | exact Drawn0.refl _ | apply Drawn0.step)⟩
 case round =>
  clear H'
  try clear p2
  obtain ⟨x5_1,rfl,HA,HK1,⟨m1,rfl⟩⟩:=hrel
  cases gk with
  | zero=>exact absurd HA.out (by simp [aqueductref16_kinds.l0])
  | succ k1 =>
   have H:=HA.out
   clear HA
   simp only [aqueductref16_kinds.l0] at H
   by_cases c3:x5_1 < (l0.length:Int)
   ·rw [if_pos c3] at H
    have c3b0:decide (x5_1 < (l0.length:Int))=true:=decide_eq_true c3
    clear c3
    by_cases c4:0≤x5_1
    ·rw [if_pos c4] at H
     have c4b0:decide (0≤x5_1)=true:=decide_eq_true c4
     clear c4
     replace H:=Option.bind_eq_some_iff.mp H
     obtain ⟨t238,A50,H⟩:=H
     replace H:(if t238=a1 then (aqueductref16_kinds.l0 k1 l0 a1 (wrap64 (x5_1+1))) else (some false))=some r:=H
     have A5:=amk A50
     clear A50
     by_cases c6:t238=a1
     ·rw [if_pos c6] at H
      have c6b0:(t238 == a1)=true:=beq_iff_eq.mpr c6
      have c6b1:(t238 != a1)=false:=bne_eq_false_iff_eq.mpr c6
      clear c6
      have H':=amk H
      clear H
      have p237:0≤(x5_1:Int):=of_decide_eq_true (by first | (with_reducible assumption) | assumption)
      have q237:x5_1 < (l0.length:Int):=of_decide_eq_true (by first | (with_reducible assumption) | assumption)
      obtain ⟨ad237,e237,hx237_0⟩:=Kd.at_string HR0.out x5_1 p237 q237
      cases e237
      replace p237:=eq_true p237
      replace q237:=eq_true q237
      go_wp2_with (first | ((with_reducible refine gate_callee (f:=49) rfl ?_);refine goesL_ (some 16) rfl rfl Try.func49 (by kernel_rfl) rfl #[.string (rdOf ByteArray.empty l0 x5_1)] rfl (by (try simp only [List.map_toArray,List.map_cons,List.map_nil]);first | done | rfl | (simp only [List.length_drop,List.length_take];rfl)) ?_;(with_reducible refine (aqueductref05_Kind.calls k1 (rdOf ByteArray.empty l0 x5_1) t238 _ A5.out).mono ?_);rintro e w' ⟨rfl,⟨nd,rfl⟩⟩;refine ⟨_,rfl,?_⟩))
      go_roundg k1
      case measure=>have:=HK1.out;omega
      case rel=>exact ⟨(wrap64 (x5_1+1)),(by first | rfl | (simp;done) | (simp [*];done)),H',⟨by have:=HK1.out;omega⟩,by repeat (first | exact Drawn0.refl _ | apply Drawn0.step)⟩
     ·rw [if_neg c6] at H
      have c6b0:(t238 == a1)=false:=beq_eq_false_iff_ne.mpr c6
      have c6b1:(t238 != a1)=true:=bne_iff_ne.mpr c6
      obtain rfl:=Option.some.inj H
      have p237:0≤(x5_1:Int):=of_decide_eq_true (by first | (with_reducible assumption) | assumption)
      have q237:x5_1 < (l0.length:Int):=of_decide_eq_true (by first | (with_reducible assumption) | assumption)
      obtain ⟨ad237,e237,hx237_0⟩:=Kd.at_string HR0.out x5_1 p237 q237
      cases e237
      replace p237:=eq_true p237
      replace q237:=eq_true q237
      go_wp2_with (first | ((with_reducible refine gate_callee (f:=49) rfl ?_);refine goesL_ (some 16) rfl rfl Try.func49 (by kernel_rfl) rfl #[.string (rdOf ByteArray.empty l0 x5_1)] rfl (by (try simp only [List.map_toArray,List.map_cons,List.map_nil]);first | done | rfl | (simp only [List.length_drop,List.length_take];rfl)) ?_;(with_reducible refine (aqueductref05_Kind.calls k1 (rdOf ByteArray.empty l0 x5_1) t238 _ A5.out).mono ?_);rintro e w' ⟨rfl,⟨nd,rfl⟩⟩;refine ⟨_,rfl,?_⟩))
      go_ret
      exact ⟨by first | rfl | (simp;done) | (simp [*];done),by repeat (first | exact Drawn0.refl _ | apply Drawn0.step)⟩
    ·rw [if_neg c4] at H
     exact absurd H (by simp)
   ·rw [if_neg c3] at H
    have c3b0:decide (x5_1 < (l0.length:Int))=false:=decide_eq_false c3
    clear c3
    obtain rfl:=Option.some.inj H
    go_wp2
    go_ret
    exact ⟨by first | rfl | (simp;done) | (simp [*];done),by repeat (first | exact Drawn0.refl _ | apply Drawn0.step)⟩

/-! ### aqueductref16_Check: function 34 -/
def aqueductref16_Check.f (k:Nat) (a0_0:ByteArray) (a0_1:Bool) (a0_2:Bool) (a0_3:Bool) (a0_4:Bool) (a0_5:Bool) (a0_6:Bool) (l0_7:List ByteArray) (l0_8:List ByteArray) (a0_9:Bool) (l0_10:List Int):Option (Int):=(aqueductref05_Kind.f k a0_0).bind fun t240=>(if t240=1 then ((aqueductref16_kinds.f k l0_7 1).bind fun t241=>(if t241=true then ((aqueductref16_kinds.f k l0_8 2).bind fun t242=>(if t242=true then ((aqueductref16_Nets.f k l0_10).bind fun t243=>(if t243=true then (some 0) else (some 160))) else (some 160))) else (some 160))) else (some 160))
theorem aqueductref16_Check.mono:∀ a0 a1 a2 a3 a4 a5 a6 a7 a8 a9 a10 k,LeO (aqueductref16_Check.f k a0 a1 a2 a3 a4 a5 a6 a7 a8 a9 a10) (aqueductref16_Check.f (k+1) a0 a1 a2 a3 a4 a5 a6 a7 a8 a9 a10):=by
 intro a0 a1 a2 a3 a4 a5 a6 a7 a8 a9 a10 k
 unfold aqueductref16_Check.f
 repeat' first
   | (with_reducible exact aqueductref05_Kind.mono _ _)
   | (with_reducible exact aqueductref16_Nets.mono _ _)
   | (with_reducible exact aqueductref16_kinds.mono _ _ _)
   | (with_reducible exact LeO.refl _)
   | (with_reducible exact LeO.none _)
   | (with_reducible refine LeO.ite ?_ ?_)
   | (with_reducible refine LeO.bind ?_ (fun _=>?_))
   | exact aqueductref05_Kind.mono _ _
   | exact aqueductref16_Nets.mono _ _
   | exact aqueductref16_kinds.mono _ _ _
   | exact LeO.none _
   | refine LeO.ite ?_ ?_
   | refine LeO.bind ?_ (fun _=>?_)
set_option maxHeartbeats 8000000 in
set_option maxRecDepth 100000 in
theorem aqueductref16_Check.calls (k:Nat) (a0_0:ByteArray) (a0_1:Bool) (a0_2:Bool) (a0_3:Bool) (a0_4:Bool) (a0_5:Bool) (a0_6:Bool) (A0_7:Option Addr) (c0_7:Nat) (l0_7:List ByteArray) (A0_8:Option Addr) (c0_8:Nat) (l0_8:List ByteArray) (a0_9:Bool) (A0_10:Option Addr) (c0_10:Nat) (l0_10:List Int) (r:Int) (w:World) (hr0_7:Kd.C Kd.string w A0_7 l0_7.length l0_7) (hc0_7:l0_7.length≤c0_7) (hr0_8:Kd.C Kd.string w A0_8 l0_8.length l0_8) (hc0_8:l0_8.length≤c0_8) (hr0_10:Kd.C (Kd.int .i64) w A0_10 l0_10.length l0_10) (hc0_10:l0_10.length≤c0_10) (h:aqueductref16_Check.f k a0_0 a0_1 a0_2 a0_3 a0_4 a0_5 a0_6 l0_7 l0_8 a0_9 l0_10=some r) :
  Calls Try.prog 34 #[.agg #[.string a0_0,.bool a0_1,.bool a0_2,.bool a0_3,.bool a0_4,.bool a0_5,.bool a0_6,.slice A0_7 l0_7.length c0_7,.slice A0_8 l0_8.length c0_8,.bool a0_9,.slice A0_10 l0_10.length c0_10]] w fun e w'=>e=.returned (.int .i64 r)∧Below w.heap.size w w':=by
 have hu25:=Try.underlying25
 have HR0_7:=amk hr0_7
 have HC0_7:=amk hc0_7
 clear hr0_7 hc0_7
 have HR0_8:=amk hr0_8
 have HC0_8:=amk hc0_8
 clear hr0_8 hc0_8
 have HR0_10:=amk hr0_10
 have HC0_10:=amk hc0_10
 clear hr0_10 hc0_10
 have HB:=amk (Below.refl w.heap.size w)
 have H:((aqueductref05_Kind.f k a0_0).bind fun t240=>(if t240=1 then ((aqueductref16_kinds.f k l0_7 1).bind fun t241=>(if t241=true then ((aqueductref16_kinds.f k l0_8 2).bind fun t242=>(if t242=true then ((aqueductref16_Nets.f k l0_10).bind fun t243=>(if t243=true then (some 0) else (some 160))) else (some 160))) else (some 160))) else (some 160)))=some r:=h
 clear h
 replace H:=Option.bind_eq_some_iff.mp H
 obtain ⟨t240,A20,H⟩:=H
 replace H:(if t240=1 then ((aqueductref16_kinds.f k l0_7 1).bind fun t241=>(if t241=true then ((aqueductref16_kinds.f k l0_8 2).bind fun t242=>(if t242=true then ((aqueductref16_Nets.f k l0_10).bind fun t243=>(if t243=true then (some 0) else (some 160))) else (some 160))) else (some 160))) else (some 160))=some r:=H
 have A2:=amk A20
 clear A20
 by_cases c3:t240=1
 ·rw [if_pos c3] at H
  have c3b0:(t240 == 1)=true:=beq_iff_eq.mpr c3
  have c3b1:(t240 != 1)=false:=bne_eq_false_iff_eq.mpr c3
  clear c3
  replace H:=Option.bind_eq_some_iff.mp H
  obtain ⟨t241,A40,H⟩:=H
  replace H:(if t241=true then ((aqueductref16_kinds.f k l0_8 2).bind fun t242=>(if t242=true then ((aqueductref16_Nets.f k l0_10).bind fun t243=>(if t243=true then (some 0) else (some 160))) else (some 160))) else (some 160))=some r:=H
  have A4:=amk A40
  clear A40
  by_cases c5:t241=true
  ·subst c5
   have H1:((aqueductref16_kinds.f k l0_8 2).bind fun t242=>(if t242=true then ((aqueductref16_Nets.f k l0_10).bind fun t243=>(if t243=true then (some 0) else (some 160))) else (some 160)))=some r:=by rw [if_pos rfl] at H;exact H
   clear H
   have H:=H1
   clear H1
   replace H:=Option.bind_eq_some_iff.mp H
   obtain ⟨t242,A60,H⟩:=H
   replace H:(if t242=true then ((aqueductref16_Nets.f k l0_10).bind fun t243=>(if t243=true then (some 0) else (some 160))) else (some 160))=some r:=H
   have A6:=amk A60
   clear A60
   by_cases c7:t242=true
   ·subst c7
    have H1:((aqueductref16_Nets.f k l0_10).bind fun t243=>(if t243=true then (some 0) else (some 160)))=some r:=by rw [if_pos rfl] at H;exact H
    clear H
    have H:=H1
    clear H1
    replace H:=Option.bind_eq_some_iff.mp H
    obtain ⟨t243,A80,H⟩:=H
    replace H:(if t243=true then (some 0) else (some 160))=some r:=H
    have A8:=amk A80
    clear A80
    by_cases c9:t243=true
    ·subst c9
     have H1:(some 0)=some r:=by rw [if_pos rfl] at H;exact H
     clear H
     have H:=H1
     clear H1
     obtain rfl:=Option.some.inj H
     go_enter Try.func34,Try.ntmps34
     go_wp2_with (first | ((with_reducible refine gate_dst (N:=1) rfl ?_);refine box_event ?hg (N:=1) ?hd (cs:=#[.string a0_0,.bool a0_1,.bool a0_2,.bool a0_3,.bool a0_4,.bool a0_5,.bool a0_6,.slice A0_7 l0_7.length c0_7,.slice A0_8 l0_8.length c0_8,.bool a0_9,.slice A0_10 l0_10.length c0_10]) (t:=25) ?hr ?_;(case hd=>rfl);(case hg=>rfl);(case hr=>first | (go_simp;done) | (go_simp;rfl));intro gb239 hg w10 hbox hb;have n0_:=amk (bws (by repeat (first | (with_reducible first | exact HB.out | apply bwa | apply pwd | apply bwd) | exact HB.out)) hb);have n1_:=amk (hbox);have n2_:=amk ((by rw [hg];exact (below_size (by repeat (first | (with_reducible first | exact HB.out | apply bwa | apply pwd | apply bwd) | exact HB.out))):w.heap.size≤gb239));have n3_:=amk ((by rw [hg];exact (below_size (by repeat (first | (with_reducible first | exact HB.out | apply bwa | apply pwd | apply bwd) | exact HB.out))):w.heap.size≤gb239));clear HB;have HB:=n0_;have BK239:=n1_;have GW239:=n2_;have GE239:=n3_;clear n0_ n1_ n2_ n3_;clear hb hbox hg;have hcz11_0:w10.cell? ⟨gb239,0,none⟩=some (.string a0_0):=(bkc BK239.out 0).trans rfl;have hcz11_1:w10.cell? ⟨gb239,1,none⟩=some (.bool a0_1):=(bkc BK239.out 1).trans rfl;have hcz11_2:w10.cell? ⟨gb239,2,none⟩=some (.bool a0_2):=(bkc BK239.out 2).trans rfl;have hcz11_3:w10.cell? ⟨gb239,3,none⟩=some (.bool a0_3):=(bkc BK239.out 3).trans rfl;have hcz11_4:w10.cell? ⟨gb239,4,none⟩=some (.bool a0_4):=(bkc BK239.out 4).trans rfl;have hcz11_5:w10.cell? ⟨gb239,5,none⟩=some (.bool a0_5):=(bkc BK239.out 5).trans rfl;have hcz11_6:w10.cell? ⟨gb239,6,none⟩=some (.bool a0_6):=(bkc BK239.out 6).trans rfl;have hcz11_7:w10.cell? ⟨gb239,7,none⟩=some (.slice A0_7 l0_7.length c0_7):=(bkc BK239.out 7).trans rfl;have hcz11_8:w10.cell? ⟨gb239,8,none⟩=some (.slice A0_8 l0_8.length c0_8):=(bkc BK239.out 8).trans rfl;have hcz11_9:w10.cell? ⟨gb239,9,none⟩=some (.bool a0_9):=(bkc BK239.out 9).trans rfl;have hcz11_10:w10.cell? ⟨gb239,10,none⟩=some (.slice A0_10 l0_10.length c0_10):=(bkc BK239.out 10).trans rfl;have hfz11_0:=bkf BK239.out 0;have hfz11_1:=bkf BK239.out 1;have hfz11_2:=bkf BK239.out 2;have hfz11_3:=bkf BK239.out 3;have hfz11_4:=bkf BK239.out 4;have hfz11_5:=bkf BK239.out 5;have hfz11_6:=bkf BK239.out 6;have hfz11_7:=bkf BK239.out 7;have hfz11_8:=bkf BK239.out 8;have hfz11_9:=bkf BK239.out 9;have hfz11_10:=bkf BK239.out 10) | ((with_reducible refine gate_callee (f:=49) rfl ?_);refine goesL_ (some 5) rfl rfl Try.func49 (by kernel_rfl) rfl #[.string a0_0] rfl (by (try simp only [List.map_toArray,List.map_cons,List.map_nil]);first | done | rfl | (simp only [List.length_drop,List.length_take];rfl)) ?_;(with_reducible refine (aqueductref05_Kind.calls k a0_0 t240 _ A2.out).mono ?_);rintro e w' ⟨rfl,⟨nd,rfl⟩⟩;refine ⟨_,rfl,?_⟩) | (go_at_call 50;(with_reducible refine (aqueductref16_kinds.calls k _ _ l0_7 1 true _ ?side1 ?side2 A4.out).mono ?_);(case side1=>repeat (first | exact (Kd.C_below HR0_7.out (by repeat (first | (with_reducible first | exact HB.out | apply bwa | apply pwd | apply bwd | refine bwt ?_ GE239.out) | exact HB.out))) | (with_reducible refine Kd.C_alloc ?_ _) | (with_reducible refine Kd.C_drewN ?_ _) | (with_reducible refine Kd.C_drew ?_)));(case side2=>exact HC0_7.out);rintro e w' ⟨rfl,⟨nd,rfl⟩⟩) | (go_at_call 50;(with_reducible refine (aqueductref16_kinds.calls k _ _ l0_8 2 true _ ?side1 ?side2 A6.out).mono ?_);(case side1=>repeat (first | exact (Kd.C_below HR0_8.out (by repeat (first | (with_reducible first | exact HB.out | apply bwa | apply pwd | apply bwd | refine bwt ?_ GE239.out) | exact HB.out))) | (with_reducible refine Kd.C_alloc ?_ _) | (with_reducible refine Kd.C_drewN ?_ _) | (with_reducible refine Kd.C_drew ?_)));(case side2=>exact HC0_8.out);rintro e w' ⟨rfl,⟨nd,rfl⟩⟩) | (go_at_call 47;(with_reducible refine (aqueductref16_Nets.calls k _ _ l0_10 true _ ?side1 ?side2 A8.out).mono ?_);(case side1=>repeat (first | exact (Kd.C_below HR0_10.out (by repeat (first | (with_reducible first | exact HB.out | apply bwa | apply pwd | apply bwd | refine bwt ?_ GE239.out) | exact HB.out))) | (with_reducible refine Kd.C_alloc ?_ _) | (with_reducible refine Kd.C_drewN ?_ _) | (with_reducible refine Kd.C_drew ?_)));(case side2=>exact HC0_10.out);rintro e w' ⟨rfl,⟨nd,rfl⟩⟩))
     go_ret
     exact ⟨by first | rfl | (simp [eWn,eWs] <;> rfl) | (simp [*,eWn,eWs] <;> rfl),by repeat (first | (with_reducible first | exact HB.out | apply bwa | apply pwd | apply bwd | refine bwt ?_ GE239.out) | exact HB.out)⟩
    ·replace c9:=Bool.eq_false_iff.mpr c9
     subst c9
     have H1:(some 160)=some r:=by rw [if_neg (show ¬ (false=true) by decide)] at H;exact H
     clear H
     have H:=H1
     clear H1
     obtain rfl:=Option.some.inj H
     go_enter Try.func34,Try.ntmps34
     go_wp2_with (first | ((with_reducible refine gate_dst (N:=1) rfl ?_);refine box_event ?hg (N:=1) ?hd (cs:=#[.string a0_0,.bool a0_1,.bool a0_2,.bool a0_3,.bool a0_4,.bool a0_5,.bool a0_6,.slice A0_7 l0_7.length c0_7,.slice A0_8 l0_8.length c0_8,.bool a0_9,.slice A0_10 l0_10.length c0_10]) (t:=25) ?hr ?_;(case hd=>rfl);(case hg=>rfl);(case hr=>first | (go_simp;done) | (go_simp;rfl));intro gb239 hg w12 hbox hb;have n0_:=amk (bws (by repeat (first | (with_reducible first | exact HB.out | apply bwa | apply pwd | apply bwd) | exact HB.out)) hb);have n1_:=amk (hbox);have n2_:=amk ((by rw [hg];exact (below_size (by repeat (first | (with_reducible first | exact HB.out | apply bwa | apply pwd | apply bwd) | exact HB.out))):w.heap.size≤gb239));have n3_:=amk ((by rw [hg];exact (below_size (by repeat (first | (with_reducible first | exact HB.out | apply bwa | apply pwd | apply bwd) | exact HB.out))):w.heap.size≤gb239));clear HB;have HB:=n0_;have BK239:=n1_;have GW239:=n2_;have GE239:=n3_;clear n0_ n1_ n2_ n3_;clear hb hbox hg;have hcz13_0:w12.cell? ⟨gb239,0,none⟩=some (.string a0_0):=(bkc BK239.out 0).trans rfl;have hcz13_1:w12.cell? ⟨gb239,1,none⟩=some (.bool a0_1):=(bkc BK239.out 1).trans rfl;have hcz13_2:w12.cell? ⟨gb239,2,none⟩=some (.bool a0_2):=(bkc BK239.out 2).trans rfl;have hcz13_3:w12.cell? ⟨gb239,3,none⟩=some (.bool a0_3):=(bkc BK239.out 3).trans rfl;have hcz13_4:w12.cell? ⟨gb239,4,none⟩=some (.bool a0_4):=(bkc BK239.out 4).trans rfl;have hcz13_5:w12.cell? ⟨gb239,5,none⟩=some (.bool a0_5):=(bkc BK239.out 5).trans rfl;have hcz13_6:w12.cell? ⟨gb239,6,none⟩=some (.bool a0_6):=(bkc BK239.out 6).trans rfl;have hcz13_7:w12.cell? ⟨gb239,7,none⟩=some (.slice A0_7 l0_7.length c0_7):=(bkc BK239.out 7).trans rfl;have hcz13_8:w12.cell? ⟨gb239,8,none⟩=some (.slice A0_8 l0_8.length c0_8):=(bkc BK239.out 8).trans rfl;have hcz13_9:w12.cell? ⟨gb239,9,none⟩=some (.bool a0_9):=(bkc BK239.out 9).trans rfl;have hcz13_10:w12.cell? ⟨gb239,10,none⟩=some (.slice A0_10 l0_10.length c0_10):=(bkc BK239.out 10).trans rfl;have hfz13_0:=bkf BK239.out 0;have hfz13_1:=bkf BK239.out 1;have hfz13_2:=bkf BK239.out 2;have hfz13_3:=bkf BK239.out 3;have hfz13_4:=bkf BK239.out 4;have hfz13_5:=bkf BK239.out 5;have hfz13_6:=bkf BK239.out 6;have hfz13_7:=bkf BK239.out 7;have hfz13_8:=bkf BK239.out 8;have hfz13_9:=bkf BK239.out 9;have hfz13_10:=bkf BK239.out 10) | ((with_reducible refine gate_callee (f:=49) rfl ?_);refine goesL_ (some 5) rfl rfl Try.func49 (by kernel_rfl) rfl #[.string a0_0] rfl (by (try simp only [List.map_toArray,List.map_cons,List.map_nil]);first | done | rfl | (simp only [List.length_drop,List.length_take];rfl)) ?_;(with_reducible refine (aqueductref05_Kind.calls k a0_0 t240 _ A2.out).mono ?_);rintro e w' ⟨rfl,⟨nd,rfl⟩⟩;refine ⟨_,rfl,?_⟩) | (go_at_call 50;(with_reducible refine (aqueductref16_kinds.calls k _ _ l0_7 1 true _ ?side1 ?side2 A4.out).mono ?_);(case side1=>repeat (first | exact (Kd.C_below HR0_7.out (by repeat (first | (with_reducible first | exact HB.out | apply bwa | apply pwd | apply bwd | refine bwt ?_ GE239.out) | exact HB.out))) | (with_reducible refine Kd.C_alloc ?_ _) | (with_reducible refine Kd.C_drewN ?_ _) | (with_reducible refine Kd.C_drew ?_)));(case side2=>exact HC0_7.out);rintro e w' ⟨rfl,⟨nd,rfl⟩⟩) | (go_at_call 50;(with_reducible refine (aqueductref16_kinds.calls k _ _ l0_8 2 true _ ?side1 ?side2 A6.out).mono ?_);(case side1=>repeat (first | exact (Kd.C_below HR0_8.out (by repeat (first | (with_reducible first | exact HB.out | apply bwa | apply pwd | apply bwd | refine bwt ?_ GE239.out) | exact HB.out))) | (with_reducible refine Kd.C_alloc ?_ _) | (with_reducible refine Kd.C_drewN ?_ _) | (with_reducible refine Kd.C_drew ?_)));(case side2=>exact HC0_8.out);rintro e w' ⟨rfl,⟨nd,rfl⟩⟩) | (go_at_call 47;(with_reducible refine (aqueductref16_Nets.calls k _ _ l0_10 false _ ?side1 ?side2 A8.out).mono ?_);(case side1=>repeat (first | exact (Kd.C_below HR0_10.out (by repeat (first | (with_reducible first | exact HB.out | apply bwa | apply pwd | apply bwd | refine bwt ?_ GE239.out) | exact HB.out))) | (with_reducible refine Kd.C_alloc ?_ _) | (with_reducible refine Kd.C_drewN ?_ _) | (with_reducible refine Kd.C_drew ?_)));(case side2=>exact HC0_10.out);rintro e w' ⟨rfl,⟨nd,rfl⟩⟩))
     go_ret
     exact ⟨by first | rfl | (simp [eWn,eWs] <;> rfl) | (simp [*,eWn,eWs] <;> rfl),by repeat (first | (with_reducible first | exact HB.out | apply bwa | apply pwd | apply bwd | refine bwt ?_ GE239.out) | exact HB.out)⟩
   ·replace c7:=Bool.eq_false_iff.mpr c7
    subst c7
    have H1:(some 160)=some r:=by rw [if_neg (show ¬ (false=true) by decide)] at H;exact H
    clear H
    have H:=H1
    clear H1
    obtain rfl:=Option.some.inj H
    go_enter Try.func34,Try.ntmps34
    go_wp2_with (first | ((with_reducible refine gate_dst (N:=1) rfl ?_);refine box_event ?hg (N:=1) ?hd (cs:=#[.string a0_0,.bool a0_1,.bool a0_2,.bool a0_3,.bool a0_4,.bool a0_5,.bool a0_6,.slice A0_7 l0_7.length c0_7,.slice A0_8 l0_8.length c0_8,.bool a0_9,.slice A0_10 l0_10.length c0_10]) (t:=25) ?hr ?_;(case hd=>rfl);(case hg=>rfl);(case hr=>first | (go_simp;done) | (go_simp;rfl));intro gb239 hg w14 hbox hb;have n0_:=amk (bws (by repeat (first | (with_reducible first | exact HB.out | apply bwa | apply pwd | apply bwd) | exact HB.out)) hb);have n1_:=amk (hbox);have n2_:=amk ((by rw [hg];exact (below_size (by repeat (first | (with_reducible first | exact HB.out | apply bwa | apply pwd | apply bwd) | exact HB.out))):w.heap.size≤gb239));have n3_:=amk ((by rw [hg];exact (below_size (by repeat (first | (with_reducible first | exact HB.out | apply bwa | apply pwd | apply bwd) | exact HB.out))):w.heap.size≤gb239));clear HB;have HB:=n0_;have BK239:=n1_;have GW239:=n2_;have GE239:=n3_;clear n0_ n1_ n2_ n3_;clear hb hbox hg;have hcz15_0:w14.cell? ⟨gb239,0,none⟩=some (.string a0_0):=(bkc BK239.out 0).trans rfl;have hcz15_1:w14.cell? ⟨gb239,1,none⟩=some (.bool a0_1):=(bkc BK239.out 1).trans rfl;have hcz15_2:w14.cell? ⟨gb239,2,none⟩=some (.bool a0_2):=(bkc BK239.out 2).trans rfl;have hcz15_3:w14.cell? ⟨gb239,3,none⟩=some (.bool a0_3):=(bkc BK239.out 3).trans rfl;have hcz15_4:w14.cell? ⟨gb239,4,none⟩=some (.bool a0_4):=(bkc BK239.out 4).trans rfl;have hcz15_5:w14.cell? ⟨gb239,5,none⟩=some (.bool a0_5):=(bkc BK239.out 5).trans rfl;have hcz15_6:w14.cell? ⟨gb239,6,none⟩=some (.bool a0_6):=(bkc BK239.out 6).trans rfl;have hcz15_7:w14.cell? ⟨gb239,7,none⟩=some (.slice A0_7 l0_7.length c0_7):=(bkc BK239.out 7).trans rfl;have hcz15_8:w14.cell? ⟨gb239,8,none⟩=some (.slice A0_8 l0_8.length c0_8):=(bkc BK239.out 8).trans rfl;have hcz15_9:w14.cell? ⟨gb239,9,none⟩=some (.bool a0_9):=(bkc BK239.out 9).trans rfl;have hcz15_10:w14.cell? ⟨gb239,10,none⟩=some (.slice A0_10 l0_10.length c0_10):=(bkc BK239.out 10).trans rfl;have hfz15_0:=bkf BK239.out 0;have hfz15_1:=bkf BK239.out 1;have hfz15_2:=bkf BK239.out 2;have hfz15_3:=bkf BK239.out 3;have hfz15_4:=bkf BK239.out 4;have hfz15_5:=bkf BK239.out 5;have hfz15_6:=bkf BK239.out 6;have hfz15_7:=bkf BK239.out 7;have hfz15_8:=bkf BK239.out 8;have hfz15_9:=bkf BK239.out 9;have hfz15_10:=bkf BK239.out 10) | ((with_reducible refine gate_callee (f:=49) rfl ?_);refine goesL_ (some 5) rfl rfl Try.func49 (by kernel_rfl) rfl #[.string a0_0] rfl (by (try simp only [List.map_toArray,List.map_cons,List.map_nil]);first | done | rfl | (simp only [List.length_drop,List.length_take];rfl)) ?_;(with_reducible refine (aqueductref05_Kind.calls k a0_0 t240 _ A2.out).mono ?_);rintro e w' ⟨rfl,⟨nd,rfl⟩⟩;refine ⟨_,rfl,?_⟩) | (go_at_call 50;(with_reducible refine (aqueductref16_kinds.calls k _ _ l0_7 1 true _ ?side1 ?side2 A4.out).mono ?_);(case side1=>repeat (first | exact (Kd.C_below HR0_7.out (by repeat (first | (with_reducible first | exact HB.out | apply bwa | apply pwd | apply bwd | refine bwt ?_ GE239.out) | exact HB.out))) | (with_reducible refine Kd.C_alloc ?_ _) | (with_reducible refine Kd.C_drewN ?_ _) | (with_reducible refine Kd.C_drew ?_)));(case side2=>exact HC0_7.out);rintro e w' ⟨rfl,⟨nd,rfl⟩⟩) | (go_at_call 50;(with_reducible refine (aqueductref16_kinds.calls k _ _ l0_8 2 false _ ?side1 ?side2 A6.out).mono ?_);(case side1=>repeat (first | exact (Kd.C_below HR0_8.out (by repeat (first | (with_reducible first | exact HB.out | apply bwa | apply pwd | apply bwd | refine bwt ?_ GE239.out) | exact HB.out))) | (with_reducible refine Kd.C_alloc ?_ _) | (with_reducible refine Kd.C_drewN ?_ _) | (with_reducible refine Kd.C_drew ?_)));(case side2=>exact HC0_8.out);rintro e w' ⟨rfl,⟨nd,rfl⟩⟩))
    go_ret
    exact ⟨by first | rfl | (simp [eWn,eWs] <;> rfl) | (simp [*,eWn,eWs] <;> rfl),by repeat (first | (with_reducible first | exact HB.out | apply bwa | apply pwd | apply bwd | refine bwt ?_ GE239.out) | exact HB.out)⟩
  ·replace c5:=Bool.eq_false_iff.mpr c5
   subst c5
   have H1:(some 160)=some r:=by rw [if_neg (show ¬ (false=true) by decide)] at H;exact H
   clear H
   have H:=H1
   clear H1
   obtain rfl:=Option.some.inj H
   go_enter Try.func34,Try.ntmps34
   go_wp2_with (first | ((with_reducible refine gate_dst (N:=1) rfl ?_);refine box_event ?hg (N:=1) ?hd (cs:=#[.string a0_0,.bool a0_1,.bool a0_2,.bool a0_3,.bool a0_4,.bool a0_5,.bool a0_6,.slice A0_7 l0_7.length c0_7,.slice A0_8 l0_8.length c0_8,.bool a0_9,.slice A0_10 l0_10.length c0_10]) (t:=25) ?hr ?_;(case hd=>rfl);(case hg=>rfl);(case hr=>first | (go_simp;done) | (go_simp;rfl));intro gb239 hg w16 hbox hb;have n0_:=amk (bws (by repeat (first | (with_reducible first | exact HB.out | apply bwa | apply pwd | apply bwd) | exact HB.out)) hb);have n1_:=amk (hbox);have n2_:=amk ((by rw [hg];exact (below_size (by repeat (first | (with_reducible first | exact HB.out | apply bwa | apply pwd | apply bwd) | exact HB.out))):w.heap.size≤gb239));have n3_:=amk ((by rw [hg];exact (below_size (by repeat (first | (with_reducible first | exact HB.out | apply bwa | apply pwd | apply bwd) | exact HB.out))):w.heap.size≤gb239));clear HB;have HB:=n0_;have BK239:=n1_;have GW239:=n2_;have GE239:=n3_;clear n0_ n1_ n2_ n3_;clear hb hbox hg;have hcz17_0:w16.cell? ⟨gb239,0,none⟩=some (.string a0_0):=(bkc BK239.out 0).trans rfl;have hcz17_1:w16.cell? ⟨gb239,1,none⟩=some (.bool a0_1):=(bkc BK239.out 1).trans rfl;have hcz17_2:w16.cell? ⟨gb239,2,none⟩=some (.bool a0_2):=(bkc BK239.out 2).trans rfl;have hcz17_3:w16.cell? ⟨gb239,3,none⟩=some (.bool a0_3):=(bkc BK239.out 3).trans rfl;have hcz17_4:w16.cell? ⟨gb239,4,none⟩=some (.bool a0_4):=(bkc BK239.out 4).trans rfl;have hcz17_5:w16.cell? ⟨gb239,5,none⟩=some (.bool a0_5):=(bkc BK239.out 5).trans rfl;have hcz17_6:w16.cell? ⟨gb239,6,none⟩=some (.bool a0_6):=(bkc BK239.out 6).trans rfl;have hcz17_7:w16.cell? ⟨gb239,7,none⟩=some (.slice A0_7 l0_7.length c0_7):=(bkc BK239.out 7).trans rfl;have hcz17_8:w16.cell? ⟨gb239,8,none⟩=some (.slice A0_8 l0_8.length c0_8):=(bkc BK239.out 8).trans rfl;have hcz17_9:w16.cell? ⟨gb239,9,none⟩=some (.bool a0_9):=(bkc BK239.out 9).trans rfl;have hcz17_10:w16.cell? ⟨gb239,10,none⟩=some (.slice A0_10 l0_10.length c0_10):=(bkc BK239.out 10).trans rfl;have hfz17_0:=bkf BK239.out 0;have hfz17_1:=bkf BK239.out 1;have hfz17_2:=bkf BK239.out 2;have hfz17_3:=bkf BK239.out 3;have hfz17_4:=bkf BK239.out 4;have hfz17_5:=bkf BK239.out 5;have hfz17_6:=bkf BK239.out 6;have hfz17_7:=bkf BK239.out 7;have hfz17_8:=bkf BK239.out 8;have hfz17_9:=bkf BK239.out 9;have hfz17_10:=bkf BK239.out 10) | ((with_reducible refine gate_callee (f:=49) rfl ?_);refine goesL_ (some 5) rfl rfl Try.func49 (by kernel_rfl) rfl #[.string a0_0] rfl (by (try simp only [List.map_toArray,List.map_cons,List.map_nil]);first | done | rfl | (simp only [List.length_drop,List.length_take];rfl)) ?_;(with_reducible refine (aqueductref05_Kind.calls k a0_0 t240 _ A2.out).mono ?_);rintro e w' ⟨rfl,⟨nd,rfl⟩⟩;refine ⟨_,rfl,?_⟩) | (go_at_call 50;(with_reducible refine (aqueductref16_kinds.calls k _ _ l0_7 1 false _ ?side1 ?side2 A4.out).mono ?_);(case side1=>repeat (first | exact (Kd.C_below HR0_7.out (by repeat (first | (with_reducible first | exact HB.out | apply bwa | apply pwd | apply bwd | refine bwt ?_ GE239.out) | exact HB.out))) | (with_reducible refine Kd.C_alloc ?_ _) | (with_reducible refine Kd.C_drewN ?_ _) | (with_reducible refine Kd.C_drew ?_)));(case side2=>exact HC0_7.out);rintro e w' ⟨rfl,⟨nd,rfl⟩⟩))
   go_ret
   exact ⟨by first | rfl | (simp [eWn,eWs] <;> rfl) | (simp [*,eWn,eWs] <;> rfl),by repeat (first | (with_reducible first | exact HB.out | apply bwa | apply pwd | apply bwd | refine bwt ?_ GE239.out) | exact HB.out)⟩
 ·rw [if_neg c3] at H
  have c3b0:(t240 == 1)=false:=beq_eq_false_iff_ne.mpr c3
  have c3b1:(t240 != 1)=true:=bne_iff_ne.mpr c3
  obtain rfl:=Option.some.inj H
  go_enter Try.func34,Try.ntmps34
  go_wp2_with (first | ((with_reducible refine gate_dst (N:=1) rfl ?_);refine box_event ?hg (N:=1) ?hd (cs:=#[.string a0_0,.bool a0_1,.bool a0_2,.bool a0_3,.bool a0_4,.bool a0_5,.bool a0_6,.slice A0_7 l0_7.length c0_7,.slice A0_8 l0_8.length c0_8,.bool a0_9,.slice A0_10 l0_10.length c0_10]) (t:=25) ?hr ?_;(case hd=>rfl);(case hg=>rfl);(case hr=>first | (go_simp;done) | (go_simp;rfl));intro gb239 hg w18 hbox hb;have n0_:=amk (bws (by repeat (first | (with_reducible first | exact HB.out | apply bwa | apply pwd | apply bwd) | exact HB.out)) hb);have n1_:=amk (hbox);have n2_:=amk ((by rw [hg];exact (below_size (by repeat (first | (with_reducible first | exact HB.out | apply bwa | apply pwd | apply bwd) | exact HB.out))):w.heap.size≤gb239));have n3_:=amk ((by rw [hg];exact (below_size (by repeat (first | (with_reducible first | exact HB.out | apply bwa | apply pwd | apply bwd) | exact HB.out))):w.heap.size≤gb239));clear HB;have HB:=n0_;have BK239:=n1_;have GW239:=n2_;have GE239:=n3_;clear n0_ n1_ n2_ n3_;clear hb hbox hg;have hcz19_0:w18.cell? ⟨gb239,0,none⟩=some (.string a0_0):=(bkc BK239.out 0).trans rfl;have hcz19_1:w18.cell? ⟨gb239,1,none⟩=some (.bool a0_1):=(bkc BK239.out 1).trans rfl;have hcz19_2:w18.cell? ⟨gb239,2,none⟩=some (.bool a0_2):=(bkc BK239.out 2).trans rfl;have hcz19_3:w18.cell? ⟨gb239,3,none⟩=some (.bool a0_3):=(bkc BK239.out 3).trans rfl;have hcz19_4:w18.cell? ⟨gb239,4,none⟩=some (.bool a0_4):=(bkc BK239.out 4).trans rfl;have hcz19_5:w18.cell? ⟨gb239,5,none⟩=some (.bool a0_5):=(bkc BK239.out 5).trans rfl;have hcz19_6:w18.cell? ⟨gb239,6,none⟩=some (.bool a0_6):=(bkc BK239.out 6).trans rfl;have hcz19_7:w18.cell? ⟨gb239,7,none⟩=some (.slice A0_7 l0_7.length c0_7):=(bkc BK239.out 7).trans rfl;have hcz19_8:w18.cell? ⟨gb239,8,none⟩=some (.slice A0_8 l0_8.length c0_8):=(bkc BK239.out 8).trans rfl;have hcz19_9:w18.cell? ⟨gb239,9,none⟩=some (.bool a0_9):=(bkc BK239.out 9).trans rfl;have hcz19_10:w18.cell? ⟨gb239,10,none⟩=some (.slice A0_10 l0_10.length c0_10):=(bkc BK239.out 10).trans rfl;have hfz19_0:=bkf BK239.out 0;have hfz19_1:=bkf BK239.out 1;have hfz19_2:=bkf BK239.out 2;have hfz19_3:=bkf BK239.out 3;have hfz19_4:=bkf BK239.out 4;have hfz19_5:=bkf BK239.out 5;have hfz19_6:=bkf BK239.out 6;have hfz19_7:=bkf BK239.out 7;have hfz19_8:=bkf BK239.out 8;have hfz19_9:=bkf BK239.out 9;have hfz19_10:=bkf BK239.out 10) | ((with_reducible refine gate_callee (f:=49) rfl ?_);refine goesL_ (some 5) rfl rfl Try.func49 (by kernel_rfl) rfl #[.string a0_0] rfl (by (try simp only [List.map_toArray,List.map_cons,List.map_nil]);first | done | rfl | (simp only [List.length_drop,List.length_take];rfl)) ?_;(with_reducible refine (aqueductref05_Kind.calls k a0_0 t240 _ A2.out).mono ?_);rintro e w' ⟨rfl,⟨nd,rfl⟩⟩;refine ⟨_,rfl,?_⟩))
  go_ret
  exact ⟨by first | rfl | (simp [eWn,eWs] <;> rfl) | (simp [*,eWn,eWs] <;> rfl),by repeat (first | (with_reducible first | exact HB.out | apply bwa | apply pwd | apply bwd | refine bwt ?_ GE239.out) | exact HB.out)⟩

end Go.Proofs.Ytkgbhlcbjflnlaa.P
