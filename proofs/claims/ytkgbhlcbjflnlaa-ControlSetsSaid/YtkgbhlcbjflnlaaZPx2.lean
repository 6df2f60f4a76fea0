/- What functions of the program compute, each with the walk that shows it: by a program (a turned copy of the kit's print; wip/myprint.py). -/
import Derived.Test.YtkgbhlcbjflnlaaZPx0
import Derived.Test.YtkgbhlcbjflnlaaZPx1
namespace Go.Proofs.Ytkgbhlcbjflnlaa.P
open Go.RowKit Go.Proofs.YtkgbhlcbjflnlaaW.PrintWords Go.Proofs.YtkgbhlcbjflnlaaW.PrintLast Go.Proofs.YtkgbhlcbjflnlaaW.PrintMore
attribute [local go_sem] max2_int min2_int max_two min_two max_three min_three max_four min_four   -- for this text's walks alone
set_option linter.unusedVariables false
set_option linter.unusedSimpArgs false

/-! ### words_Get: function 68 -/
mutual
def words_Get.j0:Nat→ByteArray→Int→Int→Bool→Bool→Option (Int × Int)
 | 0,_,_,_,_,_=>none
 | k+1,x0,x1,x2,x3,x12=>if x12=true then (some (0,1)) else (if x1 < 0 then (some (0,10)) else (if x1 > (wrap64 ((x0.size:Int) - x2)) then (some (0,10)) else (if 0≤x1 then (if x1≤(wrap64 (x1+x2)) then (if (wrap64 (x1+x2))≤(x0.size:Int) then (if x3=true then (words_Get.j1 k (x0.extract (x1:Int).toNat ((wrap64 (x1+x2)):Int).toNat) x2) else ((words_Turn.f k (x0.extract (x1:Int).toNat ((wrap64 (x1+x2)):Int).toNat)).bind fun t105=>(words_Get.j1 k t105 x2))) else (none)) else (none)) else (none))))
def words_Get.j1:Nat→ByteArray→Int→Option (Int × Int)
 | 0,_,_=>none
 | k+1,x0,x2=>words_Get.l0 k x0 0 x2 0
def words_Get.l0:Nat→ByteArray→Int→Int→Int→Option (Int × Int)
 | 0,_,_,_,_=>none
 | k+1,x0,x10,x40,x41=>if x41 < x40 then (if 0≤x41 then (if x41 < (x0.size:Int) then (words_Get.l0 k x0 (Go.bits .or .u64 (IntKind.u64.wrap (x10 * 256)) (IntKind.u64.wrap (bt x0 x41))) x40 (wrap64 (x41+1))) else (none)) else (none)) else (some (x10,0))
end
def words_Get.f (k:Nat) (a0:ByteArray) (a1:Int) (a2:Int) (a3:Bool):Option (Int × Int):=if a2 < 1 then (words_Get.j0 k a0 a1 a2 a3 true) else (words_Get.j0 k a0 a1 a2 a3 (decide (a2 > 8)))
theorem words_Get.mono_l:∀ k,(∀ y0 y1 y2 y3 y4,LeO (words_Get.j0 k y0 y1 y2 y3 y4) (words_Get.j0 (k+1) y0 y1 y2 y3 y4))∧(∀ y0 y1,LeO (words_Get.j1 k y0 y1) (words_Get.j1 (k+1) y0 y1))∧(∀ y0 y1 y2 y3,LeO (words_Get.l0 k y0 y1 y2 y3) (words_Get.l0 (k+1) y0 y1 y2 y3))
 | 0=>⟨fun _ _ _ _ _ r h=>by simp [words_Get.j0] at h,fun _ _ r h=>by simp [words_Get.j1] at h,fun _ _ _ _ r h=>by simp [words_Get.l0] at h⟩
 | k+1=>by
  obtain ⟨ih0,ih1,ih2⟩:=words_Get.mono_l k
  refine ⟨?_,?_,?_⟩
  ·intro y0 y1 y2 y3 y4
   unfold words_Get.j0
   repeat' first
   | (with_reducible exact ih0 _ _ _ _ _)
   | (with_reducible exact ih1 _ _)
   | (with_reducible exact ih2 _ _ _ _)
   | (with_reducible exact words_Turn.mono _ _)
   | (with_reducible exact LeO.refl _)
   | (with_reducible exact LeO.none _)
   | (with_reducible refine LeO.ite ?_ ?_)
   | (with_reducible refine LeO.bind ?_ (fun _=>?_))
   | exact ih0 _ _ _ _ _
   | exact ih1 _ _
   | exact ih2 _ _ _ _
   | exact words_Turn.mono _ _
   | exact LeO.none _
   | refine LeO.ite ?_ ?_
   | refine LeO.bind ?_ (fun _=>?_)
  ·intro y0 y1
   unfold words_Get.j1
   repeat' first
   | (with_reducible exact ih0 _ _ _ _ _)
   | (with_reducible exact ih1 _ _)
   | (with_reducible exact ih2 _ _ _ _)
   | (with_reducible exact words_Turn.mono _ _)
   | (with_reducible exact LeO.refl _)
   | (with_reducible exact LeO.none _)
   | (with_reducible refine LeO.ite ?_ ?_)
   | (with_reducible refine LeO.bind ?_ (fun _=>?_))
   | exact ih0 _ _ _ _ _
   | exact ih1 _ _
   | exact ih2 _ _ _ _
   | exact words_Turn.mono _ _
   | exact LeO.none _
   | refine LeO.ite ?_ ?_
   | refine LeO.bind ?_ (fun _=>?_)
  ·intro y0 y1 y2 y3
   unfold words_Get.l0
   repeat' first
   | (with_reducible exact ih0 _ _ _ _ _)
   | (with_reducible exact ih1 _ _)
   | (with_reducible exact ih2 _ _ _ _)
   | (with_reducible exact words_Turn.mono _ _)
   | (with_reducible exact LeO.refl _)
   | (with_reducible exact LeO.none _)
   | (with_reducible refine LeO.ite ?_ ?_)
   | (with_reducible refine LeO.bind ?_ (fun _=>?_))
   | exact ih0 _ _ _ _ _
   | exact ih1 _ _
   | exact ih2 _ _ _ _
   | exact words_Turn.mono _ _
   | exact LeO.none _
   | refine LeO.ite ?_ ?_
   | refine LeO.bind ?_ (fun _=>?_)
theorem words_Get.mono:∀ a0 a1 a2 a3 k,LeO (words_Get.f k a0 a1 a2 a3) (words_Get.f (k+1) a0 a1 a2 a3):=by
 intro a0 a1 a2 a3 k
 obtain ⟨ih0,ih1,ih2⟩:=words_Get.mono_l k
 unfold words_Get.f
 repeat' first
   | (with_reducible exact ih0 _ _ _ _ _)
   | (with_reducible exact ih1 _ _)
   | (with_reducible exact ih2 _ _ _ _)
   | (with_reducible exact words_Turn.mono _ _)
   | (with_reducible exact LeO.refl _)
   | (with_reducible exact LeO.none _)
   | (with_reducible refine LeO.ite ?_ ?_)
   | (with_reducible refine LeO.bind ?_ (fun _=>?_))
   | exact ih0 _ _ _ _ _
   | exact ih1 _ _
   | exact ih2 _ _ _ _
   | exact words_Turn.mono _ _
   | exact LeO.none _
   | refine LeO.ite ?_ ?_
   | refine LeO.bind ?_ (fun _=>?_)
set_option maxHeartbeats 8000000 in
set_option maxRecDepth 100000 in
theorem words_Get.calls (k:Nat) (a0:ByteArray) (a1:Int) (a2:Int) (a3:Bool) (r1:Int) (r2:Int) (w:World) (h:words_Get.f k a0 a1 a2 a3=some (r1,r2)) :
  Calls Try.prog 68 #[.string a0,.int .i64 a1,.int .i64 a2,.bool a3] w fun e w'=>e=.returned (.tuple #[.int .u64 r1,.int .i64 r2])∧Below w.heap.size w w':=by
 have HB:=amk (Below.refl w.heap.size w)
 have H:(if a2 < 1 then (words_Get.j0 k a0 a1 a2 a3 true) else (words_Get.j0 k a0 a1 a2 a3 (decide (a2 > 8))))=some (r1,r2):=h
 clear h
 have HC5:=amk H
 clear H
 go_enter Try.func68,Try.ntmps68
 go_upto_region 1 with (fail)
 go_cut [12] (fun v12 wc=>∃ (kq:Nat) (x12_4:Bool),v12=.bool x12_4∧Aside0 (words_Get.j0 kq a0 a1 a2 a3 x12_4=some (r1,r2))∧Aside0 (kq≤k)∧Aside0 (Below w.heap.size w wc))
 case first =>
  have H:=HC5.out
  clear HC5
  by_cases c6:a2 < 1
  ·rw [if_pos c6] at H
   have c6b0:decide (a2 < 1)=true:=decide_eq_true c6
   clear c6
   (first | rw [c6b0] | (simp only [i64_w,i32_w];rw [c6b0]) | skip)
   have H':=amk H
   clear H
   go_wp2
   go_meet
   case rel=>exact ⟨_,(true),(by first | rfl | (simp;done) | (simp [*];done)),H',⟨by first | omega | exact Nat.le_refl _⟩,⟨by repeat (first | (with_reducible first | exact HB.out | apply bwa | apply pwd | apply bwd) | exact HB.out)⟩⟩
  ·rw [if_neg c6] at H
   have c6b0:decide (a2 < 1)=false:=decide_eq_false c6
   clear c6
   (first | rw [c6b0] | (simp only [i64_w,i32_w];rw [c6b0]) | skip)
   have H':=amk H
   clear H
   go_wp2
   go_meet
   case rel=>exact ⟨_,(decide (a2 > 8)),(by first | rfl | (simp;done) | (simp [*];done)),H',⟨by first | omega | exact Nat.le_refl _⟩,⟨by repeat (first | (with_reducible first | exact HB.out | apply bwa | apply pwd | apply bwd) | exact HB.out)⟩⟩
 case rest =>
  clear HC5
  try clear p2
  try clear c6
  try clear c6b0
  obtain ⟨kq,x12_4,rfl,HA,HJ4,HB⟩:=hcut
  cases kq with
  | zero=>exact absurd HA.out (by simp [words_Get.j0])
  | succ kj4 =>
   have H:=HA.out
   clear HA
   simp only [words_Get.j0] at H
   by_cases c7:x12_4=true
   ·subst c7
    have H1:(some (0,1))=some (r1,r2):=by rw [if_pos rfl] at H;exact H
    clear H
    have H:=H1
    clear H1
    simp only [Option.some.injEq,Prod.mk.injEq] at H
    obtain ⟨rfl,rfl⟩:=H
    go_wp2
    go_ret2
    exact ⟨by first | rfl | (simp [eWn,eWs] <;> rfl) | (simp [*,eWn,eWs] <;> rfl),by repeat (first | (with_reducible first | exact HB.out | apply bwa | apply pwd | apply bwd) | exact HB.out)⟩
   ·replace c7:=Bool.eq_false_iff.mpr c7
    subst c7
    have H1:(if a1 < 0 then (some (0,10)) else (if a1 > (wrap64 ((a0.size:Int) - a2)) then (some (0,10)) else (if 0≤a1 then (if a1≤(wrap64 (a1+a2)) then (if (wrap64 (a1+a2))≤(a0.size:Int) then (if a3=true then (words_Get.j1 kj4 (a0.extract (a1:Int).toNat ((wrap64 (a1+a2)):Int).toNat) a2) else ((words_Turn.f kj4 (a0.extract (a1:Int).toNat ((wrap64 (a1+a2)):Int).toNat)).bind fun t105=>(words_Get.j1 kj4 t105 a2))) else (none)) else (none)) else (none))))=some (r1,r2):=by rw [if_neg (show ¬ (false=true) by decide)] at H;exact H
    clear H
    have H:=H1
    clear H1
    by_cases c8:a1 < 0
    ·rw [if_pos c8] at H
     have c8b0:decide (a1 < 0)=true:=decide_eq_true c8
     clear c8
     simp only [Option.some.injEq,Prod.mk.injEq] at H
     obtain ⟨rfl,rfl⟩:=H
     go_wp2
     go_ret2
     exact ⟨by first | rfl | (simp [eWn,eWs] <;> rfl) | (simp [*,eWn,eWs] <;> rfl),by repeat (first | (with_reducible first | exact HB.out | apply bwa | apply pwd | apply bwd) | exact HB.out)⟩
    ·rw [if_neg c8] at H
     have c8b0:decide (a1 < 0)=false:=decide_eq_false c8
     clear c8
     by_cases c9:a1 > (wrap64 ((a0.size:Int) - a2))
     ·rw [if_pos c9] at H
      have c9b0:decide ((wrap64 ((a0.size:Int) - a2)) < a1)=true:=decide_eq_true c9
      clear c9
      simp only [Option.some.injEq,Prod.mk.injEq] at H
      obtain ⟨rfl,rfl⟩:=H
      go_wp2
      go_ret2
      exact ⟨by first | rfl | (simp [eWn,eWs] <;> rfl) | (simp [*,eWn,eWs] <;> rfl),by repeat (first | (with_reducible first | exact HB.out | apply bwa | apply pwd | apply bwd) | exact HB.out)⟩
     ·rw [if_neg c9] at H
      have c9b0:decide ((wrap64 ((a0.size:Int) - a2)) < a1)=false:=decide_eq_false c9
      clear c9
      by_cases c10:0≤a1
      ·rw [if_pos c10] at H
       have c10b0:=eq_true c10
       have c10b1:decide (0≤a1)=true:=decide_eq_true c10
       clear c10
       by_cases c11:a1≤(wrap64 (a1+a2))
       ·rw [if_pos c11] at H
        have c11b0:=eq_true c11
        have c11b1:decide (a1≤(wrap64 (a1+a2)))=true:=decide_eq_true c11
        by_cases c12:(wrap64 (a1+a2))≤(a0.size:Int)
        ·rw [if_pos c12] at H
         have c12b0:=eq_true c12
         have c12b1:decide ((wrap64 (a1+a2))≤(a0.size:Int))=true:=decide_eq_true c12
         have HC13:=amk H
         clear H
         go_upto_if 37 with (fail)
         go_cut [0] (fun v0 wc=>∃ (kq:Nat) (x0_12:ByteArray),v0=.string x0_12∧Aside0 (words_Get.j1 kq x0_12 a2=some (r1,r2))∧Aside0 (kq≤kj4)∧Aside0 (Below w.heap.size w wc))
         case first =>
          have H:=HC13.out
          clear HC13
          by_cases c14:a3=true
          ·subst c14
           have H1:(words_Get.j1 kj4 (a0.extract (a1:Int).toNat ((wrap64 (a1+a2)):Int).toNat) a2)=some (r1,r2):=by rw [if_pos rfl] at H;exact H
           clear H
           have H:=H1
           clear H1
           have H':=amk H
           clear H
           go_wp2
           go_meet
           case rel=>exact ⟨_,(a0.extract (a1:Int).toNat ((wrap64 (a1+a2)):Int).toNat),(by first | rfl | (simp;done) | (simp [*];done)),H',⟨by have:=HJ4.out;first | omega | exact Nat.le_refl _⟩,⟨by repeat (first | (with_reducible first | exact HB.out | apply bwa | apply pwd | apply bwd) | exact HB.out)⟩⟩
          ·replace c14:=Bool.eq_false_iff.mpr c14
           subst c14
           have H1:((words_Turn.f kj4 (a0.extract (a1:Int).toNat ((wrap64 (a1+a2)):Int).toNat)).bind fun t105=>(words_Get.j1 kj4 t105 a2))=some (r1,r2):=by rw [if_neg (show ¬ (false=true) by decide)] at H;exact H
           clear H
           have H:=H1
           clear H1
           replace H:=Option.bind_eq_some_iff.mp H
           obtain ⟨t105,A150,H⟩:=H
           replace H:(words_Get.j1 kj4 t105 a2)=some (r1,r2):=H
           have A15:=amk A150
           clear A150
           have H':=amk H
           clear H
           go_wp2_with (first | ((with_reducible refine gate_callee (f:=74) rfl ?_);refine goesL_ (some 39) rfl rfl Try.func74 (by kernel_rfl) rfl #[.string (a0.extract (a1:Int).toNat ((wrap64 (a1+a2)):Int).toNat)] rfl (by (try simp only [List.map_toArray,List.map_cons,List.map_nil]);first | done | rfl | (simp only [List.length_drop,List.length_take];rfl)) ?_;(with_reducible refine (words_Turn.calls kj4 (a0.extract (a1:Int).toNat ((wrap64 (a1+a2)):Int).toNat) t105 _ A15.out).mono ?_);rintro e w16 ⟨rfl,hb⟩;refine ⟨_,rfl,?_⟩;have n0_:=amk (bws (by repeat (first | (with_reducible first | exact HB.out | apply bwa | apply pwd | apply bwd) | exact HB.out)) hb);clear HB;have HB:=n0_;clear n0_;(try clear hb);(try clear hb2);(try clear hk);(try clear hi)))
           go_meet
           case rel=>exact ⟨_,(t105),(by first | rfl | (simp;done) | (simp [*];done)),H',⟨by have:=HJ4.out;first | omega | exact Nat.le_refl _⟩,⟨by repeat (first | (with_reducible first | exact HB.out | apply bwa | apply pwd | apply bwd) | exact HB.out)⟩⟩
         case rest =>
          clear HC13
          try clear c1
          try clear p2
          try clear c6
          try clear c6b0
          try clear p6
          try clear c7
          try clear c8
          try clear c8b0
          try clear c9
          try clear c9b0
          try clear c10
          try clear c10b0
          try clear c10b1
          try clear c11
          try clear c11b0
          try clear c11b1
          try clear c12
          try clear c12b0
          try clear c12b1
          try clear c14
          try clear p2
          obtain ⟨kq,x0_12,rfl,HA,HJ12,HB⟩:=hcut
          cases kq with
          | zero=>exact absurd HA.out (by simp [words_Get.j1])
          | succ kj12 =>
           have H:=HA.out
           clear HA
           simp only [words_Get.j1] at H
           have H':=amk H
           clear H
           go_wp2
           go_loopg [10,41] kj12 (fun kq v10 v41 w'=>∃ (x10_3:Int) (x41_3:Int),v10=.int .u64 x10_3∧v41=.int .i64 x41_3∧Aside0 (words_Get.l0 kq x0_12 x10_3 a2 x41_3=some (r1,r2))∧Aside0 (kq≤kj12)∧Aside0 (Below w.heap.size w w'))
           case atStart=>exact ⟨(0),(0),(by first | rfl | (simp;done) | (simp [*];done)),(by first | rfl | (simp;done) | (simp [*];done)),H',⟨Nat.le_refl _⟩,⟨by repeat (first | (with_reducible first | exact HB.out | apply bwa | apply pwd | apply bwd) | exact HB.out)⟩⟩
           case round =>
            clear H'
            try clear c1
            try clear p2
            try clear c6
            try clear c6b0
            try clear p6
            try clear c7
            try clear c8
            try clear c8b0
            try clear c9
            try clear c9b0
            try clear c10
            try clear c10b0
            try clear c10b1
            try clear c11
            try clear c11b0
            try clear c11b1
            try clear c12
            try clear c12b0
            try clear c12b1
            try clear c14
            try clear p2
            try clear p6
            obtain ⟨x10_3,x41_3,rfl,rfl,HA,HK3,HB⟩:=hrel
            cases gk with
            | zero=>exact absurd HA.out (by simp [words_Get.l0])
            | succ k3 =>
             have H:=HA.out
             clear HA
             simp only [words_Get.l0] at H
             by_cases c17:x41_3 < a2
             ·rw [if_pos c17] at H
              have c17b0:decide (x41_3 < a2)=true:=decide_eq_true c17
              clear c17
              by_cases c18:0≤x41_3
              ·rw [if_pos c18] at H
               have c18b0:decide (0≤x41_3)=true:=decide_eq_true c18
               clear c18
               by_cases c19:x41_3 < (x0_12.size:Int)
               ·rw [if_pos c19] at H
                have c19b0:decide (x41_3 < (x0_12.size:Int))=true:=decide_eq_true c19
                clear c19
                have H':=amk H
                clear H
                have p20:0≤(x41_3:Int):=of_decide_eq_true (by first | (with_reducible assumption) | assumption)
                have q20:x41_3 < (x0_12.size:Int):=of_decide_eq_true (by first | (with_reducible assumption) | assumption)
                have hx20:=bt_at x0_12 x41_3
                replace p20:=eq_true p20
                replace q20:=eq_true q20
                go_wp2
                go_roundg k3
                case measure=>have:=HJ4.out;have:=HJ12.out;have:=HK3.out;omega
                case rel=>exact ⟨(Go.bits .or .u64 (IntKind.u64.wrap (x10_3 * 256)) (IntKind.u64.wrap (bt x0_12 x41_3))),(wrap64 (x41_3+1)),(by first | rfl | (simp;done) | (simp [*];done)),(by first | rfl | (simp;done) | (simp [*];done)),H',⟨by have:=HJ4.out;have:=HJ12.out;have:=HK3.out;omega⟩,⟨by repeat (first | (with_reducible first | exact HB.out | apply bwa | apply pwd | apply bwd) | exact HB.out)⟩⟩
               ·rw [if_neg c19] at H
                exact absurd H (by simp)
              ·rw [if_neg c18] at H
               exact absurd H (by simp)
             ·rw [if_neg c17] at H
              have c17b0:decide (x41_3 < a2)=false:=decide_eq_false c17
              clear c17
              simp only [Option.some.injEq,Prod.mk.injEq] at H
              obtain ⟨rfl,rfl⟩:=H
              go_wp2
              go_ret2
              exact ⟨by first | rfl | (simp [eWn,eWs] <;> rfl) | (simp [*,eWn,eWs] <;> rfl),by repeat (first | (with_reducible first | exact HB.out | apply bwa | apply pwd | apply bwd) | exact HB.out)⟩
        ·rw [if_neg c12] at H
         exact absurd H (by simp)
       ·rw [if_neg c11] at H
        exact absurd H (by simp)
      ·rw [if_neg c10] at H
       exact absurd H (by simp)

/-! ### control_reader_num: function 51 -/
def control_reader_num.f (k:Nat) (s0_0:ByteArray) (s0_1:Bool) (a1:Int):Option (Int × ByteArray × Bool):=(control_reader_take.f s0_0 s0_1 a1).bind fun bt106=>((words_Get.f k bt106.1 0 a1 false).bind fun bt109=>(if bt106.2.2=true then (some (wrap64 (bt109.1),bt106.2.1,true)) else (some (wrap64 (bt109.1),bt106.2.1,(bt109.2 != 0)))))
theorem control_reader_num.mono:∀ a0 a1 a2 k,LeO (control_reader_num.f k a0 a1 a2) (control_reader_num.f (k+1) a0 a1 a2):=by
 intro a0 a1 a2 k
 unfold control_reader_num.f
 repeat' first
   | (with_reducible exact words_Get.mono _ _ _ _ _)
   | (with_reducible exact LeO.refl _)
   | (with_reducible exact LeO.none _)
   | (with_reducible refine LeO.ite ?_ ?_)
   | (with_reducible refine LeO.bind ?_ (fun _=>?_))
   | exact words_Get.mono _ _ _ _ _
   | exact LeO.none _
   | refine LeO.ite ?_ ?_
   | refine LeO.bind ?_ (fun _=>?_)
set_option maxHeartbeats 8000000 in
set_option maxRecDepth 100000 in
theorem control_reader_num.calls (k:Nat) (g:Nat) (s0_0:ByteArray) (s0_1:Bool) (a1:Int) (r1:Int) (r2:ByteArray) (r3:Bool) (w0 w:World) (hI:IsS64 w0 w g s0_0 s0_1) (hB:Below w0.heap.size w0 w) (h:control_reader_num.f k s0_0 s0_1 a1=some (r1,r2,r3)) :
  Calls Try.prog 51 #[.pointer (some ⟨g,0,none⟩),.int .i64 a1] w fun e w'=>e=.returned (.int .i64 r1)∧IsS64 w0 w' g r2 r3∧Below w0.heap.size w0 w'∧KeepBut w w' g none:=by
 have HI0:=amk hI
 have HK:=amk (KeepBut.refl w g none)
 have HL:=amk hB.size
 clear hI
 have HW0:=amk hB.size
 have HB:=amk hB
 clear hB
 have H:((control_reader_take.f s0_0 s0_1 a1).bind fun bt106=>((words_Get.f k bt106.1 0 a1 false).bind fun bt109=>(if bt106.2.2=true then (some (wrap64 (bt109.1),bt106.2.1,true)) else (some (wrap64 (bt109.1),bt106.2.1,(bt109.2 != 0))))))=some (r1,r2,r3):=h
 clear h
 replace H:=Option.bind_eq_some_iff.mp H
 obtain ⟨⟨t106,t107,t108⟩,A30,H⟩:=H
 replace H:((words_Get.f k t106 0 a1 false).bind fun bt109=>(if t108=true then (some (wrap64 (bt109.1),t107,true)) else (some (wrap64 (bt109.1),t107,(bt109.2 != 0)))))=some (r1,r2,r3):=H
 have A3:=amk A30
 clear A30
 replace H:=Option.bind_eq_some_iff.mp H
 obtain ⟨⟨t109,t110⟩,A40,H⟩:=H
 replace H:(if t108=true then (some (wrap64 (t109),t107,true)) else (some (wrap64 (t109),t107,(t110 != 0))))=some (r1,r2,r3):=H
 have A4:=amk A40
 clear A40
 by_cases c5:t108=true
 ·subst c5
  have H1:(some (wrap64 (t109),t107,true))=some (r1,r2,r3):=by rw [if_pos rfl] at H;exact H
  clear H
  have H:=H1
  clear H1
  simp only [Option.some.injEq,Prod.mk.injEq] at H
  obtain ⟨rfl,rfl,rfl⟩:=H
  go_enter Try.func51,Try.ntmps51
  go_wp2_with (first | ((with_reducible refine gate_callee (f:=54) rfl ?_);refine goesL_ (some 10) rfl rfl Try.func54 (by kernel_rfl) rfl #[.pointer (some ⟨g,0,none⟩),.int .i64 a1] rfl (by (try simp only [List.map_toArray,List.map_cons,List.map_nil]);first | done | rfl | (simp only [List.length_drop,List.length_take];rfl)) ?_;(with_reducible refine (control_reader_take.calls g s0_0 s0_1 a1 t106 t107 true w0 _ ?side1 ?side2 A3.out).mono ?_);(case side1=>repeat (first | (with_reducible first | exact HI0.out | apply IsS64.alloc | apply IsS64.drewN | apply IsS64.drew | apply IsS64.set_0 | apply IsS64.set_1) | exact HI0.out));(case side2=>repeat (first | (with_reducible first | exact HB.out | apply bwa | apply pwd | apply bwd | refine bwt ?_ (IsS64.ge HI0.out)) | exact HB.out));rintro e w6 ⟨rfl,hi,hb,hk⟩;refine ⟨_,rfl,?_⟩;have n0_:=amk (KeepBut.trans (by repeat (first | (with_reducible first | exact HK.out | apply KeepBut.set_ | apply keep_drewN | apply keep_drew | apply keep_alloc) | exact HK.out)) hk (.inl rfl));have n1_:=amk (hb);have n2_:=amk (hi);clear HK;clear HB;clear HI0;have HK:=n0_;have HB:=n1_;have HI0:=n2_;clear n0_ n1_ n2_;(try clear hb);(try clear hb2);(try clear hk);(try clear hi)) | ((with_reducible refine gate_callee (f:=68) rfl ?_);refine goesL_ (some 12) rfl rfl Try.func68 (by kernel_rfl) rfl #[.string t106,.int .i64 0,.int .i64 a1,.bool false] rfl (by (try simp only [List.map_toArray,List.map_cons,List.map_nil]);first | done | rfl | (simp only [List.length_drop,List.length_take];rfl)) ?_;(with_reducible refine (words_Get.calls k t106 0 a1 false t109 t110 _ A4.out).mono ?_);rintro e w7 ⟨rfl,hb⟩;refine ⟨_,rfl,?_⟩;have n0_:=amk (IsS64.below (by repeat (first | (with_reducible first | exact HI0.out | apply IsS64.alloc | apply IsS64.drewN | apply IsS64.drew | apply IsS64.set_0 | apply IsS64.set_1) | exact HI0.out)) hb);have n1_:=amk (KeepBut.trans (by repeat (first | (with_reducible first | exact HK.out | apply KeepBut.set_ | apply keep_drewN | apply keep_drew | apply keep_alloc) | exact HK.out)) (KeepBut.of_below hb g none) (.inl rfl));have n2_:=amk (bws (by repeat (first | (with_reducible first | exact HB.out | apply bwa | apply pwd | apply bwd | refine bwt ?_ (IsS64.ge HI0.out)) | exact HB.out)) hb);clear HI0;clear HK;clear HB;have HI0:=n0_;have HK:=n1_;have HB:=n2_;clear n0_ n1_ n2_;(try clear hb);(try clear hb2);(try clear hk);(try clear hi);obtain ⟨HGz8,hgz8⟩:=HI0.out;have hcz8_0:=cellS64_0 HGz8;have hcz8_1:=cellS64_1 HGz8;have hfz8_0:=bkf HGz8 0;have hfz8_1:=bkf HGz8 1;clear HGz8 hgz8))
  go_ret
  exact ⟨by first | rfl | (simp [eWn,eWs] <;> rfl) | (simp [*,eWn,eWs] <;> rfl),by repeat (first | (with_reducible first | exact HI0.out | apply IsS64.alloc | apply IsS64.drewN | apply IsS64.drew | apply IsS64.set_0 | apply IsS64.set_1) | exact HI0.out),by repeat (first | (with_reducible first | exact HB.out | apply bwa | apply pwd | apply bwd | refine bwt ?_ (IsS64.ge HI0.out)) | exact HB.out),by repeat (first | (with_reducible first | exact HK.out | apply KeepBut.set_ | apply keep_drewN | apply keep_drew | apply keep_alloc) | exact HK.out)⟩
 ·replace c5:=Bool.eq_false_iff.mpr c5
  subst c5
  have H1:(some (wrap64 (t109),t107,(t110 != 0)))=some (r1,r2,r3):=by rw [if_neg (show ¬ (false=true) by decide)] at H;exact H
  clear H
  have H:=H1
  clear H1
  simp only [Option.some.injEq,Prod.mk.injEq] at H
  obtain ⟨rfl,rfl,rfl⟩:=H
  go_enter Try.func51,Try.ntmps51
  go_wp2_with (first | ((with_reducible refine gate_callee (f:=54) rfl ?_);refine goesL_ (some 10) rfl rfl Try.func54 (by kernel_rfl) rfl #[.pointer (some ⟨g,0,none⟩),.int .i64 a1] rfl (by (try simp only [List.map_toArray,List.map_cons,List.map_nil]);first | done | rfl | (simp only [List.length_drop,List.length_take];rfl)) ?_;(with_reducible refine (control_reader_take.calls g s0_0 s0_1 a1 t106 t107 false w0 _ ?side1 ?side2 A3.out).mono ?_);(case side1=>repeat (first | (with_reducible first | exact HI0.out | apply IsS64.alloc | apply IsS64.drewN | apply IsS64.drew | apply IsS64.set_0 | apply IsS64.set_1) | exact HI0.out));(case side2=>repeat (first | (with_reducible first | exact HB.out | apply bwa | apply pwd | apply bwd | refine bwt ?_ (IsS64.ge HI0.out)) | exact HB.out));rintro e w9 ⟨rfl,hi,hb,hk⟩;refine ⟨_,rfl,?_⟩;have n0_:=amk (KeepBut.trans (by repeat (first | (with_reducible first | exact HK.out | apply KeepBut.set_ | apply keep_drewN | apply keep_drew | apply keep_alloc) | exact HK.out)) hk (.inl rfl));have n1_:=amk (hb);have n2_:=amk (hi);clear HK;clear HB;clear HI0;have HK:=n0_;have HB:=n1_;have HI0:=n2_;clear n0_ n1_ n2_;(try clear hb);(try clear hb2);(try clear hk);(try clear hi)) | ((with_reducible refine gate_callee (f:=68) rfl ?_);refine goesL_ (some 12) rfl rfl Try.func68 (by kernel_rfl) rfl #[.string t106,.int .i64 0,.int .i64 a1,.bool false] rfl (by (try simp only [List.map_toArray,List.map_cons,List.map_nil]);first | done | rfl | (simp only [List.length_drop,List.length_take];rfl)) ?_;(with_reducible refine (words_Get.calls k t106 0 a1 false t109 t110 _ A4.out).mono ?_);rintro e w10 ⟨rfl,hb⟩;refine ⟨_,rfl,?_⟩;have n0_:=amk (IsS64.below (by repeat (first | (with_reducible first | exact HI0.out | apply IsS64.alloc | apply IsS64.drewN | apply IsS64.drew | apply IsS64.set_0 | apply IsS64.set_1) | exact HI0.out)) hb);have n1_:=amk (KeepBut.trans (by repeat (first | (with_reducible first | exact HK.out | apply KeepBut.set_ | apply keep_drewN | apply keep_drew | apply keep_alloc) | exact HK.out)) (KeepBut.of_below hb g none) (.inl rfl));have n2_:=amk (bws (by repeat (first | (with_reducible first | exact HB.out | apply bwa | apply pwd | apply bwd | refine bwt ?_ (IsS64.ge HI0.out)) | exact HB.out)) hb);clear HI0;clear HK;clear HB;have HI0:=n0_;have HK:=n1_;have HB:=n2_;clear n0_ n1_ n2_;(try clear hb);(try clear hb2);(try clear hk);(try clear hi);obtain ⟨HGz11,hgz11⟩:=HI0.out;have hcz11_0:=cellS64_0 HGz11;have hcz11_1:=cellS64_1 HGz11;have hfz11_0:=bkf HGz11 0;have hfz11_1:=bkf HGz11 1;clear HGz11 hgz11))
  go_ret
  exact ⟨by first | rfl | (simp [eWn,eWs] <;> rfl) | (simp [*,eWn,eWs] <;> rfl),by repeat (first | (with_reducible first | exact HI0.out | apply IsS64.alloc | apply IsS64.drewN | apply IsS64.drew | apply IsS64.set_0 | apply IsS64.set_1) | exact HI0.out),by repeat (first | (with_reducible first | exact HB.out | apply bwa | apply pwd | apply bwd | refine bwt ?_ (IsS64.ge HI0.out)) | exact HB.out),by repeat (first | (with_reducible first | exact HK.out | apply KeepBut.set_ | apply keep_drewN | apply keep_drew | apply keep_alloc) | exact HK.out)⟩

end Go.Proofs.Ytkgbhlcbjflnlaa.P
