/- What functions of the program compute, each with the walk that shows it: by a program (a turned copy of the kit's print; wip/myprint.py). -/
import Derived.Test.YtkgbhlcbjflnlaaZPx0
namespace Go.Proofs.Ytkgbhlcbjflnlaa.P
open Go.RowKit Go.Proofs.YtkgbhlcbjflnlaaW.PrintWords Go.Proofs.YtkgbhlcbjflnlaaW.PrintLast Go.Proofs.YtkgbhlcbjflnlaaW.PrintMore
attribute [local go_sem] max2_int min2_int max_two min_two max_three min_three max_four min_four   -- for this text's walks alone
set_option linter.unusedVariables false
set_option linter.unusedSimpArgs false

/-! ### addr_Kind: function 41 -/
def addr_Kind.f (a0:ByteArray):Option (Int):=if (a0.size:Int)=6 then (if a0.toList=([255,255,255,255,255,255]:List UInt8) then (some 3) else (if 0 < (a0.size:Int) then (if (Go.bits .and .u8 (bt a0 0) 1)=1 then (some 2) else (some 1)) else (none))) else (some 0)
set_option maxHeartbeats 8000000 in
set_option maxRecDepth 100000 in
theorem addr_Kind.calls (a0:ByteArray) (r:Int) (w:World) (h:addr_Kind.f a0=some r) :
  Calls Try.prog 41 #[.string a0] w fun e w'=>e=.returned (.int .i64 r)∧Drawn0 w w':=by
 have H:(if (a0.size:Int)=6 then (if a0.toList=([255,255,255,255,255,255]:List UInt8) then (some 3) else (if 0 < (a0.size:Int) then (if (Go.bits .and .u8 (bt a0 0) 1)=1 then (some 2) else (some 1)) else (none))) else (some 0))=some r:=h
 clear h
 by_cases c2:(a0.size:Int)=6
 ·rw [if_pos c2] at H
  have c2b0:((a0.size:Int) == 6)=true:=beq_iff_eq.mpr c2
  have c2b1:((a0.size:Int) != 6)=false:=bne_eq_false_iff_eq.mpr c2
  clear c2
  by_cases c3:a0.toList=([255,255,255,255,255,255]:List UInt8)
  ·rw [if_pos c3] at H
   have c3b0:(a0.toList == ([255,255,255,255,255,255]:List UInt8))=true:=beq_iff_eq.mpr c3
   have c3b1:(a0.toList != ([255,255,255,255,255,255]:List UInt8))=false:=bne_eq_false_iff_eq.mpr c3
   clear c3
   obtain rfl:=Option.some.inj H
   go_enter Try.func41,Try.ntmps41
   go_wp2
   go_ret
   exact ⟨by first | rfl | (simp;done) | (simp [*];done),by repeat (first | exact Drawn0.refl _ | apply Drawn0.step)⟩
  ·rw [if_neg c3] at H
   have c3b0:(a0.toList == ([255,255,255,255,255,255]:List UInt8))=false:=beq_eq_false_iff_ne.mpr c3
   have c3b1:(a0.toList != ([255,255,255,255,255,255]:List UInt8))=true:=bne_iff_ne.mpr c3
   by_cases c4:0 < (a0.size:Int)
   ·rw [if_pos c4] at H
    have c4b0:decide (0 < (a0.size:Int))=true:=decide_eq_true c4
    have c4b1:decide (0 < a0.size)=true:=decide_eq_true (by omega)
    clear c4
    by_cases c6:(Go.bits .and .u8 (bt a0 0) 1)=1
    ·rw [if_pos c6] at H
     have c6b0:((Go.bits .and .u8 (bt a0 0) 1) == 1)=true:=beq_iff_eq.mpr c6
     have c6b1:((Go.bits .and .u8 (bt a0 0) 1) != 1)=false:=bne_eq_false_iff_eq.mpr c6
     clear c6
     obtain rfl:=Option.some.inj H
     have p5:0≤(0:Int):=(by omega)
     have q5:0 < a0.size:=(by have:(0:Int) < (a0.size:Int):=of_decide_eq_true (by first | (with_reducible assumption) | assumption);omega)
     have hx5:∀ h:0 < a0.size,((a0[0]'h).toNat:Int)=bt a0 0:=bt_at a0 0
     clear p5
     have qi5:(0 < (a0.size:Int))=True:=eq_true (of_decide_eq_true (by first | (with_reducible assumption) | assumption))
     replace q5:=eq_true q5
     go_enter Try.func41,Try.ntmps41
     go_wp2
     go_ret
     exact ⟨by first | rfl | (simp;done) | (simp [*];done),by repeat (first | exact Drawn0.refl _ | apply Drawn0.step)⟩
    ·rw [if_neg c6] at H
     have c6b0:((Go.bits .and .u8 (bt a0 0) 1) == 1)=false:=beq_eq_false_iff_ne.mpr c6
     have c6b1:((Go.bits .and .u8 (bt a0 0) 1) != 1)=true:=bne_iff_ne.mpr c6
     obtain rfl:=Option.some.inj H
     have p5:0≤(0:Int):=(by omega)
     have q5:0 < a0.size:=(by have:(0:Int) < (a0.size:Int):=of_decide_eq_true (by first | (with_reducible assumption) | assumption);omega)
     have hx5:∀ h:0 < a0.size,((a0[0]'h).toNat:Int)=bt a0 0:=bt_at a0 0
     clear p5
     have qi5:(0 < (a0.size:Int))=True:=eq_true (of_decide_eq_true (by first | (with_reducible assumption) | assumption))
     replace q5:=eq_true q5
     go_enter Try.func41,Try.ntmps41
     go_wp2
     go_ret
     exact ⟨by first | rfl | (simp;done) | (simp [*];done),by repeat (first | exact Drawn0.refl _ | apply Drawn0.step)⟩
   ·rw [if_neg c4] at H
    exact absurd H (by simp)
 ·rw [if_neg c2] at H
  have c2b0:((a0.size:Int) == 6)=false:=beq_eq_false_iff_ne.mpr c2
  have c2b1:((a0.size:Int) != 6)=true:=bne_iff_ne.mpr c2
  obtain rfl:=Option.some.inj H
  go_enter Try.func41,Try.ntmps41
  go_wp2
  go_ret
  exact ⟨by first | rfl | (simp;done) | (simp [*];done),by repeat (first | exact Drawn0.refl _ | apply Drawn0.step)⟩

/-! ### aqueductlaw17_six: function 19 -/
def aqueductlaw17_six.l0:Nat→List ByteArray→Int→Option (Bool)
 | 0,_,_=>none
 | k+1,x0,x3=>if x3 < (x0.length:Int) then (if 0≤x3 then (if ((rdOf ByteArray.empty x0 x3).size:Int)=6 then (aqueductlaw17_six.l0 k x0 (wrap64 (x3+1))) else (some false)) else (none)) else (some true)
def aqueductlaw17_six.f (k:Nat) (l0:List ByteArray):Option (Bool):=aqueductlaw17_six.l0 k l0 0
theorem aqueductlaw17_six.mono_l:∀ k,(∀ y0 y1,LeO (aqueductlaw17_six.l0 k y0 y1) (aqueductlaw17_six.l0 (k+1) y0 y1))
 | 0=>fun _ _ r h=>by simp [aqueductlaw17_six.l0] at h
 | k+1=>by
  have ih0:=aqueductlaw17_six.mono_l k
  ·intro y0 y1
   unfold aqueductlaw17_six.l0
   repeat' first
   | (with_reducible exact ih0 _ _)
   | (with_reducible exact LeO.refl _)
   | (with_reducible exact LeO.none _)
   | (with_reducible refine LeO.ite ?_ ?_)
   | (with_reducible refine LeO.bind ?_ (fun _=>?_))
   | exact ih0 _ _
   | exact LeO.none _
   | refine LeO.ite ?_ ?_
   | refine LeO.bind ?_ (fun _=>?_)
theorem aqueductlaw17_six.mono:∀ a0 k,LeO (aqueductlaw17_six.f k a0) (aqueductlaw17_six.f (k+1) a0):=by
 intro a0 k
 have ih0:=aqueductlaw17_six.mono_l k
 unfold aqueductlaw17_six.f
 repeat' first
   | (with_reducible exact ih0 _ _)
   | (with_reducible exact LeO.refl _)
   | (with_reducible exact LeO.none _)
   | (with_reducible refine LeO.ite ?_ ?_)
   | (with_reducible refine LeO.bind ?_ (fun _=>?_))
   | exact ih0 _ _
   | exact LeO.none _
   | refine LeO.ite ?_ ?_
   | refine LeO.bind ?_ (fun _=>?_)
set_option maxHeartbeats 8000000 in
set_option maxRecDepth 100000 in
theorem aqueductlaw17_six.calls (k:Nat) (A0:Option Addr) (c0:Nat) (l0:List ByteArray) (r:Bool) (w:World) (hr0:Kd.C Kd.string w A0 l0.length l0) (hc0:l0.length≤c0) (h:aqueductlaw17_six.f k l0=some r) :
  Calls Try.prog 19 #[.slice A0 l0.length c0] w fun e w'=>e=.returned (.bool r)∧Drawn0 w w':=by
 have HR0:=amk hr0
 have HC0:=amk hc0
 clear hr0 hc0
 have H:(aqueductlaw17_six.l0 k l0 0)=some r:=h
 clear h
 have H':=amk H
 clear H
 go_enter Try.func19,Try.ntmps19
 go_wp2
 go_loopg [3] k (fun kq v3 w'=>∃ (x3_1:Int),v3=.int .i64 x3_1∧Aside0 (aqueductlaw17_six.l0 kq l0 x3_1=some r)∧Aside0 (kq≤k)∧Drawn0 w w')
 case atStart=>exact ⟨(0),(by first | rfl | (simp;done) | (simp [*];done)),H',⟨Nat.le_refl _⟩,by repeat (first | exact Drawn0.refl _ | apply Drawn0.step)⟩
 case round =>
  clear H'
  try clear c1
  obtain ⟨x3_1,rfl,HA,HK1,⟨m1,rfl⟩⟩:=hrel
  cases gk with
  | zero=>exact absurd HA.out (by simp [aqueductlaw17_six.l0])
  | succ k1 =>
   have H:=HA.out
   clear HA
   simp only [aqueductlaw17_six.l0] at H
   by_cases c2:x3_1 < (l0.length:Int)
   ·rw [if_pos c2] at H
    have c2b0:decide (x3_1 < (l0.length:Int))=true:=decide_eq_true c2
    clear c2
    by_cases c3:0≤x3_1
    ·rw [if_pos c3] at H
     have c3b0:decide (0≤x3_1)=true:=decide_eq_true c3
     clear c3
     by_cases c4:((rdOf ByteArray.empty l0 x3_1).size:Int)=6
     ·rw [if_pos c4] at H
      have c4b0:(((rdOf ByteArray.empty l0 x3_1).size:Int) == 6)=true:=beq_iff_eq.mpr c4
      have c4b1:(((rdOf ByteArray.empty l0 x3_1).size:Int) != 6)=false:=bne_eq_false_iff_eq.mpr c4
      clear c4
      have H':=amk H
      clear H
      have p257:0≤(x3_1:Int):=of_decide_eq_true (by first | (with_reducible assumption) | assumption)
      have q257:x3_1 < (l0.length:Int):=of_decide_eq_true (by first | (with_reducible assumption) | assumption)
      obtain ⟨ad257,e257,hx257_0⟩:=Kd.at_string HR0.out x3_1 p257 q257
      cases e257
      replace p257:=eq_true p257
      replace q257:=eq_true q257
      go_wp2
      go_roundg k1
      case measure=>have:=HK1.out;omega
      case rel=>exact ⟨(wrap64 (x3_1+1)),(by first | rfl | (simp;done) | (simp [*];done)),H',⟨by have:=HK1.out;omega⟩,by repeat (first | exact Drawn0.refl _ | apply Drawn0.step)⟩
     ·rw [if_neg c4] at H
      have c4b0:(((rdOf ByteArray.empty l0 x3_1).size:Int) == 6)=false:=beq_eq_false_iff_ne.mpr c4
      have c4b1:(((rdOf ByteArray.empty l0 x3_1).size:Int) != 6)=true:=bne_iff_ne.mpr c4
      obtain rfl:=Option.some.inj H
      have p257:0≤(x3_1:Int):=of_decide_eq_true (by first | (with_reducible assumption) | assumption)
      have q257:x3_1 < (l0.length:Int):=of_decide_eq_true (by first | (with_reducible assumption) | assumption)
      obtain ⟨ad257,e257,hx257_0⟩:=Kd.at_string HR0.out x3_1 p257 q257
      cases e257
      replace p257:=eq_true p257
      replace q257:=eq_true q257
      go_wp2
      go_ret
      exact ⟨by first | rfl | (simp;done) | (simp [*];done),by repeat (first | exact Drawn0.refl _ | apply Drawn0.step)⟩
    ·rw [if_neg c3] at H
     exact absurd H (by simp)
   ·rw [if_neg c2] at H
    have c2b0:decide (x3_1 < (l0.length:Int))=false:=decide_eq_false c2
    clear c2
    obtain rfl:=Option.some.inj H
    go_wp2
    go_ret
    exact ⟨by first | rfl | (simp;done) | (simp [*];done),by repeat (first | exact Drawn0.refl _ | apply Drawn0.step)⟩

end Go.Proofs.Ytkgbhlcbjflnlaa.P
