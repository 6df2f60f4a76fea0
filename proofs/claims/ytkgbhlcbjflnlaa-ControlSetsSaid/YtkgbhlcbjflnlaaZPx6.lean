/- What functions of the program compute, each with the walk that shows it: by a program (a turned copy of the kit's print; wip/myprint.py). -/
import Derived.Test.YtkgbhlcbjflnlaaZPx0
import Derived.Test.YtkgbhlcbjflnlaaZPx1
import Derived.Test.YtkgbhlcbjflnlaaZJoin
namespace Go.Proofs.Ytkgbhlcbjflnlaa.P
open Go.RowKit Go.Proofs.YtkgbhlcbjflnlaaW.PrintWords Go.Proofs.YtkgbhlcbjflnlaaW.PrintLast Go.Proofs.YtkgbhlcbjflnlaaW.PrintMore
attribute [local go_sem] max2_int min2_int max_two min_two max_three min_three max_four min_four   -- for this text's walks alone
set_option linter.unusedVariables false
set_option linter.unusedSimpArgs false

/-! ### words_may: function 73 -/
def words_may.f (a0:Int) (a1:Int):Option (Bool):=if a1 ≥ 1 then (if a1≤8 then (if a1=8 then (some true) else (if 0≤(wrap64 (8 * a1)) then (some ((shr .u64 a0 (wrap64 (8 * a1))) == 0)) else (none))) else (some false)) else (some false)
set_option maxHeartbeats 8000000 in
set_option maxRecDepth 100000 in
theorem words_may.calls (a0:Int) (a1:Int) (r:Bool) (w:World) (h:words_may.f a0 a1=some r) :
  Calls Try.prog 73 #[.int .u64 a0,.int .i64 a1] w fun e w'=>e=.returned (.bool r)∧Drawn0 w w':=by
 have H:(if a1 ≥ 1 then (if a1≤8 then (if a1=8 then (some true) else (if 0≤(wrap64 (8 * a1)) then (some ((shr .u64 a0 (wrap64 (8 * a1))) == 0)) else (none))) else (some false)) else (some false))=some r:=h
 clear h
 by_cases c3:a1 ≥ 1
 ·rw [if_pos c3] at H
  have c3b0:decide (1≤a1)=true:=decide_eq_true c3
  clear c3
  by_cases c4:a1≤8
  ·rw [if_pos c4] at H
   have c4b0:decide (a1≤8)=true:=decide_eq_true c4
   clear c4
   by_cases c5:a1=8
   ·rw [if_pos c5] at H
    have c5b0:(a1 == 8)=true:=beq_iff_eq.mpr c5
    have c5b1:(a1 != 8)=false:=bne_eq_false_iff_eq.mpr c5
    clear c5
    obtain rfl:=Option.some.inj H
    go_enter Try.func73,Try.ntmps73
    go_wp2
    go_ret
    exact ⟨by first | rfl | (simp;done) | (simp [*];done),by repeat (first | exact Drawn0.refl _ | apply Drawn0.step)⟩
   ·rw [if_neg c5] at H
    have c5b0:(a1 == 8)=false:=beq_eq_false_iff_ne.mpr c5
    have c5b1:(a1 != 8)=true:=bne_iff_ne.mpr c5
    obtain ⟨ji6,hji6⟩:∃ j_:Int,(wrap64 (8 * a1))=j_:=⟨_,rfl⟩
    replace H:(if 0≤(ji6) then (some ((shr .u64 a0 (ji6)) == 0)) else (none))=some r:=by first | (rw [hji6] at H;exact H) | (simp only [hji6] at H ⊢; exact H)
    have hji6w:(IntKind.i64.wrap (8 * a1))=ji6:=(i64_w _).trans hji6
    by_cases c7:0≤(ji6)
    ·rw [if_pos c7] at H
     have c7b0:=eq_true c7
     have c7b1:decide (0≤(ji6))=true:=decide_eq_true c7
     clear c7
     obtain ⟨ji8,hji8⟩:∃ j_:Int,(shr .u64 a0 (ji6))=j_:=⟨_,rfl⟩
     replace H:(some ((ji8) == 0))=some r:=by first | (rw [hji8] at H;exact H) | (simp only [hji8] at H ⊢; exact H)
     have hji8_:(a0 / 2 ^ min (ji6).toNat 64)=ji8:=hji8
     have hji8z:(ji6)≤64→(a0 / 2 ^ (ji6).toNat)=ji8:=shr_small hji8
     obtain rfl:=Option.some.inj H
     go_enter Try.func73,Try.ntmps73
     go_wp2
     go_ret
     exact ⟨by first | rfl | (simp;done) | (simp only [← hji6,← hji8] <;> (first | rfl | simp)) | (simp [*];done),by repeat (first | exact Drawn0.refl _ | apply Drawn0.step)⟩
    ·rw [if_neg c7] at H
     exact absurd H (by simp)
  ·rw [if_neg c4] at H
   have c4b0:decide (a1≤8)=false:=decide_eq_false c4
   clear c4
   obtain rfl:=Option.some.inj H
   go_enter Try.func73,Try.ntmps73
   go_wp2
   go_ret
   exact ⟨by first | rfl | (simp;done) | (simp [*];done),by repeat (first | exact Drawn0.refl _ | apply Drawn0.step)⟩
 ·rw [if_neg c3] at H
  have c3b0:decide (1≤a1)=false:=decide_eq_false c3
  clear c3
  obtain rfl:=Option.some.inj H
  go_enter Try.func73,Try.ntmps73
  go_wp2
  go_ret
  exact ⟨by first | rfl | (simp;done) | (simp [*];done),by repeat (first | exact Drawn0.refl _ | apply Drawn0.step)⟩

/-! ### words_Put: function 61 -/
def words_Put.l0:Nat→Int→Int→Bool→List Int→Int→Int→Option (ByteArray × Int)
 | 0,_,_,_,_,_,_=>none
 | k+1,x0,x1,x2,x8,x16,x17=>if x17 < x16 then (if 0≤(wrap64 (8 * x17)) then (if 0≤(wrap64 ((wrap64 (x1 - 1)) - x17)) then (if (wrap64 ((wrap64 (x1 - 1)) - x17)) < (x8.length:Int) then (words_Put.l0 k x0 x1 x2 (x8.set ((wrap64 ((wrap64 (x1 - 1)) - x17)):Int).toNat ((shr .u64 x0 (wrap64 (8 * x17))) % 256)) x16 (wrap64 (x17+1))) else (none)) else (none)) else (none)) else (if x2=true then (some (strOfNums x8,0)) else ((words_Turn.f k (strOfNums x8)).bind fun t144=>(some (t144,0))))
def words_Put.f (k:Nat) (a0:Int) (a1:Int) (a2:Bool):Option (ByteArray × Int):=(words_may.f a0 a1).bind fun t139=>(if t139=true then (if 0≤a1 then (if (a1:Int).toNat≤281474976710656 then (words_Put.l0 k a0 a1 a2 (List.replicate (a1:Int).toNat 0) a1 0) else (none)) else (none)) else (some ((⟨#[]⟩:ByteArray),1)))
theorem words_Put.mono_l:∀ k,(∀ y0 y1 y2 y3 y4 y5,LeO (words_Put.l0 k y0 y1 y2 y3 y4 y5) (words_Put.l0 (k+1) y0 y1 y2 y3 y4 y5))
 | 0=>fun _ _ _ _ _ _ r h=>by simp [words_Put.l0] at h
 | k+1=>by
  have ih0:=words_Put.mono_l k
  ·intro y0 y1 y2 y3 y4 y5
   unfold words_Put.l0
   repeat' first
   | (with_reducible exact ih0 _ _ _ _ _ _)
   | (with_reducible exact words_Turn.mono _ _)
   | (with_reducible exact LeO.refl _)
   | (with_reducible exact LeO.none _)
   | (with_reducible refine LeO.ite ?_ ?_)
   | (with_reducible refine LeO.bind ?_ (fun _=>?_))
   | exact ih0 _ _ _ _ _ _
   | exact words_Turn.mono _ _
   | exact LeO.none _
   | refine LeO.ite ?_ ?_
   | refine LeO.bind ?_ (fun _=>?_)
theorem words_Put.mono:∀ a0 a1 a2 k,LeO (words_Put.f k a0 a1 a2) (words_Put.f (k+1) a0 a1 a2):=by
 intro a0 a1 a2 k
 have ih0:=words_Put.mono_l k
 unfold words_Put.f
 repeat' first
   | (with_reducible exact ih0 _ _ _ _ _ _)
   | (with_reducible exact words_Turn.mono _ _)
   | (with_reducible exact LeO.refl _)
   | (with_reducible exact LeO.none _)
   | (with_reducible refine LeO.ite ?_ ?_)
   | (with_reducible refine LeO.bind ?_ (fun _=>?_))
   | exact ih0 _ _ _ _ _ _
   | exact words_Turn.mono _ _
   | exact LeO.none _
   | refine LeO.ite ?_ ?_
   | refine LeO.bind ?_ (fun _=>?_)
set_option maxHeartbeats 8000000 in
set_option maxRecDepth 100000 in
theorem words_Put.calls (k:Nat) (a0:Int) (a1:Int) (a2:Bool) (r1:ByteArray) (r2:Int) (w:World) (h:words_Put.f k a0 a1 a2=some (r1,r2)) :
  Calls Try.prog 61 #[.int .u64 a0,.int .i64 a1,.bool a2] w fun e w'=>e=.returned (.tuple #[.string r1,.int .i64 r2])∧Below w.heap.size w w':=by
 have HB:=amk (Below.refl w.heap.size w)
 have H:((words_may.f a0 a1).bind fun t139=>(if t139=true then (if 0≤a1 then (if (a1:Int).toNat≤281474976710656 then (words_Put.l0 k a0 a1 a2 (List.replicate (a1:Int).toNat 0) a1 0) else (none)) else (none)) else (some ((⟨#[]⟩:ByteArray),1))))=some (r1,r2):=h
 clear h
 replace H:=Option.bind_eq_some_iff.mp H
 obtain ⟨t139,A40,H⟩:=H
 replace H:(if t139=true then (if 0≤a1 then (if (a1:Int).toNat≤281474976710656 then (words_Put.l0 k a0 a1 a2 (List.replicate (a1:Int).toNat 0) a1 0) else (none)) else (none)) else (some ((⟨#[]⟩:ByteArray),1)))=some (r1,r2):=H
 have A4:=amk A40
 clear A40
 by_cases c5:t139=true
 ·subst c5
  have H1:(if 0≤a1 then (if (a1:Int).toNat≤281474976710656 then (words_Put.l0 k a0 a1 a2 (List.replicate (a1:Int).toNat 0) a1 0) else (none)) else (none))=some (r1,r2):=by rw [if_pos rfl] at H;exact H
  clear H
  have H:=H1
  clear H1
  by_cases c6:0≤a1
  ·rw [if_pos c6] at H
   have c6b0:=eq_true c6
   have c6b1:decide (0≤a1)=true:=decide_eq_true c6
   clear c6
   by_cases c7:(a1:Int).toNat≤281474976710656
   ·rw [if_pos c7] at H
    have c7b0:=eq_true c7
    have c7b1:decide ((a1:Int).toNat≤281474976710656)=true:=decide_eq_true c7
    clear c7
    obtain ⟨y140,hy140⟩:∃ y_:List Int,y_=(List.replicate (a1:Int).toNat 0):=⟨_,rfl⟩
    replace H:(words_Put.l0 k a0 a1 a2 y140 a1 0)=some (r1,r2):=by first | (rw [hy140];with_reducible exact H) | (have H2_:=(Option.bind_some _ _).symm.trans H;rw [hy140];with_reducible exact H2_) | (have H2_:=(Option.bind_some _ _).symm.trans H;with_reducible exact H2_) | with_reducible exact H | (rw [hy140];exact H) | exact H
    have Ny140:=amk hy140
    clear hy140
    have H':=amk H
    clear H
    go_enter Try.func61,Try.ntmps61
    go_wp2_with (first | ((with_reducible refine gate_callee (f:=73) rfl ?_);refine goesL_ (some 12) rfl rfl Try.func73 (by kernel_rfl) rfl #[.int .u64 a0,.int .i64 a1] rfl (by (try simp only [List.map_toArray,List.map_cons,List.map_nil]);first | done | rfl | (simp only [List.length_drop,List.length_take];rfl)) ?_;(with_reducible refine (words_may.calls a0 a1 true _ A4.out).mono ?_);rintro e w' ⟨rfl,⟨nd,rfl⟩⟩;refine ⟨_,rfl,?_⟩) | ((with_reducible refine gate_dst (N:=15) rfl ?_);refine Kd.R_make (Kd.int .u8) _ 5 rfl (N:=15) rfl 75 _ _ rfl a1 rfl rfl Try.underlying75 (.int .u8 0) 1 info5 rfl (by decide) (by omega) 0 (ok:=fun _=>True) (okp:=fun _=>True) rfl (fun _ hk=>hk) trivial (of_decide_eq_true (by first | (with_reducible assumption) | assumption)) (Nat.le_trans (Nat.mul_le_mul_right _ (of_decide_eq_true (by first | (with_reducible assumption) | assumption):a1.toNat≤281474976710656)) (by omega)) (Below.refl _ _) (Nat.le_refl _) ?_;intro v141 w8 ho9 hb hg_ hnew_;clear hg_ hnew_;(first | rw [← Ny140.out] at ho9 | (simp only [Int.reduceToNat] at ho9;rw [← Ny140.out] at ho9));have n0_:=amk (Kd.R_lower ho9 (below_size (by repeat (first | (with_reducible first | exact HB.out | apply bwa | apply pwd | apply bwd) | exact HB.out))));have n1_:=amk (bws (by repeat (first | (with_reducible first | exact HB.out | apply bwa | apply pwd | apply bwd) | exact HB.out)) hb);clear HB;have HO142:=n0_;have HB:=n1_;clear n0_ n1_;clear hb ho9))
    go_loopg [17] k (fun kq v17 w'=>∃ (x8_1:List Int) (x17_1:Int),v17=.int .i64 x17_1∧Aside0 (words_Put.l0 kq a0 a1 a2 x8_1 a1 x17_1=some (r1,r2))∧Aside0 (kq≤k)∧Aside0 (Kd.R (Kd.int .u8) 5 w' w.heap.size (fun _=>True) v141 x8_1)∧Aside0 (Below w.heap.size w w'))
    case atStart=>exact ⟨(y140),(0),(by first | rfl | (simp;done) | (simp [*];done)),H',⟨Nat.le_refl _⟩,⟨by (with_reducible repeat (first | apply Kd.R_alloc | apply Kd.R_drewN | apply Kd.R_drew));exact HO142.out⟩,⟨by repeat (first | (with_reducible first | exact HB.out | apply bwa | apply pwd | apply bwd) | exact HB.out)⟩⟩
    case round =>
     clear H'
     try clear p2
     try clear c5
     try clear c6
     try clear c6b0
     try clear c6b1
     try clear c7
     try clear c7b0
     try clear c7b1
     obtain ⟨x8_1,x17_1,rfl,HA,HK1,HO_8,HB⟩:=hrel
     cases gk with
     | zero=>exact absurd HA.out (by simp [words_Put.l0])
     | succ k1 =>
      have H:=HA.out
      clear HA
      simp only [words_Put.l0] at H
      by_cases c10:x17_1 < a1
      ·rw [if_pos c10] at H
       have c10b0:decide (x17_1 < a1)=true:=decide_eq_true c10
       clear c10
       obtain ⟨ji11,hji11⟩:∃ j_:Int,(wrap64 (8 * x17_1))=j_:=⟨_,rfl⟩
       replace H:(if 0≤(ji11) then (if 0≤(wrap64 ((wrap64 (a1 - 1)) - x17_1)) then (if (wrap64 ((wrap64 (a1 - 1)) - x17_1)) < (x8_1.length:Int) then (words_Put.l0 k1 a0 a1 a2 (x8_1.set ((wrap64 ((wrap64 (a1 - 1)) - x17_1)):Int).toNat ((shr .u64 a0 (ji11)) % 256)) a1 (wrap64 (x17_1+1))) else (none)) else (none)) else (none))=some (r1,r2):=by first | (rw [hji11] at H;exact H) | (simp only [hji11] at H ⊢; exact H)
       have hji11w:(IntKind.i64.wrap (8 * x17_1))=ji11:=(i64_w _).trans hji11
       by_cases c12:0≤(ji11)
       ·rw [if_pos c12] at H
        have c12b0:=eq_true c12
        have c12b1:decide (0≤(ji11))=true:=decide_eq_true c12
        clear c12
        obtain ⟨ji13,hji13⟩:∃ j_:Int,(shr .u64 a0 (ji11))=j_:=⟨_,rfl⟩
        replace H:(if 0≤(wrap64 ((wrap64 (a1 - 1)) - x17_1)) then (if (wrap64 ((wrap64 (a1 - 1)) - x17_1)) < (x8_1.length:Int) then (words_Put.l0 k1 a0 a1 a2 (x8_1.set ((wrap64 ((wrap64 (a1 - 1)) - x17_1)):Int).toNat ((ji13) % 256)) a1 (wrap64 (x17_1+1))) else (none)) else (none))=some (r1,r2):=by first | (rw [hji13] at H;exact H) | (simp only [hji13] at H ⊢; exact H)
        have hji13_:(a0 / 2 ^ min (ji11).toNat 64)=ji13:=hji13
        have hji13z:(ji11)≤64→(a0 / 2 ^ (ji11).toNat)=ji13:=shr_small hji13
        obtain ⟨ji14,hji14⟩:∃ j_:Int,(wrap64 ((wrap64 (a1 - 1)) - x17_1))=j_:=⟨_,rfl⟩
        replace H:(if 0≤(ji14) then (if (ji14) < (x8_1.length:Int) then (words_Put.l0 k1 a0 a1 a2 (x8_1.set ((ji14):Int).toNat ((ji13) % 256)) a1 (wrap64 (x17_1+1))) else (none)) else (none))=some (r1,r2):=by first | (rw [hji14] at H;exact H) | (simp only [hji14] at H ⊢; exact H)
        have hji14w:(IntKind.i64.wrap ((wrap64 (a1 - 1)) - x17_1))=ji14:=(i64_w _).trans hji14
        by_cases c15:0≤(ji14)
        ·rw [if_pos c15] at H
         have c15b0:decide (0≤(ji14))=true:=decide_eq_true c15
         clear c15
         by_cases c16:(ji14) < (x8_1.length:Int)
         ·rw [if_pos c16] at H
          have c16b0:decide ((ji14) < (x8_1.length:Int))=true:=decide_eq_true c16
          clear c16
          obtain ⟨y143,hy143⟩:∃ y_:List Int,y_=(x8_1.set ((ji14):Int).toNat ((ji13) % 256)):=⟨_,rfl⟩
          replace H:(words_Put.l0 k1 a0 a1 a2 y143 a1 (wrap64 (x17_1+1)))=some (r1,r2):=by first | (rw [hy143];with_reducible exact H) | (have H2_:=(Option.bind_some _ _).symm.trans H;rw [hy143];with_reducible exact H2_) | (have H2_:=(Option.bind_some _ _).symm.trans H;with_reducible exact H2_) | with_reducible exact H | (rw [hy143];exact H) | exact H
          have Ny143:=amk hy143
          clear hy143
          have H':=amk H
          clear H
          have p17:0≤((ji14):Int):=of_decide_eq_true (by first | (with_reducible assumption) | assumption)
          have q17:((ji14):Int) < ((x8_1.length:Int):Int):=of_decide_eq_true (by first | (with_reducible assumption) | assumption)
          obtain ⟨go17,co17,eo17,gb17,gl17,cl17,HG17⟩:=Kd.R_form HO_8.out (by omega)
          (first | cases eo17 | (injection eo17 with ea_ en_ ec_;(first | subst ea_ | (injection ea_ with ea_;subst ea_));subst ec_;clear en_))
          have GB17:=amk gb17
          have GG17:=amk HG17
          clear gb17 gl17 HG17
          obtain ⟨hx17_0,hf17_0⟩:=Kd.R_celln 0 HO_8.out ((ji14):Int) p17 q17
          replace p17:=eq_true p17
          replace q17:=eq_true q17
          have HP18:=Kd.R_putg HO_8.out ((ji14):Int) ((ji13) % 256)
          go_wp2_with (first | ((with_reducible refine gate_store (t:=5) (p:=30) rfl ?_);refine store_event (t:=5) (p:=30) (v:=?vo_w19) (w1:=(wr.setCell ⟨go17,((ji14):Int).toNat,none⟩ (.int .u8 ((ji13) % 256)))) ?hg ?ho ?hn ?hr ?_;(case ho=>rfl);(case hg=>rfl);(case hn=>rfl);(case hr=>first | (go_simp;done) | (go_simp;rfl));intro w19 hw;have hg:wr.grownBy w19 (some go17):=(by rw [hw];exact HP18.2);have hp_:Kd.R (Kd.int .u8) 5 w19 w.heap.size (fun _=>True) (.slice (some ⟨go17,0,none⟩) x8_1.length co17) y143:=(by rw [hw,Ny143.out];exact HP18.1);clear HP18;have n0_:=amk (hp_);have n1_:=amk ((by rw [hw];exact bwt (HB.out) GB17.out:Below w.heap.size w w19));clear HO_8;clear HB;have HO_8:=n0_;have HB:=n1_;clear n0_ n1_;clear hg hw hp_))
          go_roundg k1
          case measure=>have:=HK1.out;omega
          case rel=>exact ⟨(y143),(wrap64 (x17_1+1)),(by first | rfl | (simp;done) | (simp [*];done)),H',⟨by have:=HK1.out;omega⟩,⟨by (with_reducible repeat (first | apply Kd.R_alloc | apply Kd.R_drewN | apply Kd.R_drew));exact HO_8.out⟩,⟨by repeat (first | (with_reducible first | exact HB.out | apply bwa | apply pwd | apply bwd) | exact HB.out)⟩⟩
         ·rw [if_neg c16] at H
          exact absurd H (by simp)
        ·rw [if_neg c15] at H
         exact absurd H (by simp)
       ·rw [if_neg c12] at H
        exact absurd H (by simp)
      ·rw [if_neg c10] at H
       have c10b0:decide (x17_1 < a1)=false:=decide_eq_false c10
       clear c10
       by_cases c20:a2=true
       ·subst c20
        have H1:(some (strOfNums x8_1,0))=some (r1,r2):=by rw [if_pos rfl] at H;exact H
        clear H
        have H:=H1
        clear H1
        simp only [Option.some.injEq,Prod.mk.injEq] at H
        obtain ⟨rfl,rfl⟩:=H
        have hcv21:=own_string (P:=Try.prog) Try.underlying75 Try.underlying5 Try.underlying9 (Kd.own_of_R HO_8.out)
        go_wp2
        go_ret2
        exact ⟨by first | rfl | (simp [eWn,eWs] <;> rfl) | (simp [*,eWn,eWs] <;> rfl),by repeat (first | (with_reducible first | exact HB.out | apply bwa | apply pwd | apply bwd) | exact HB.out)⟩
       ·replace c20:=Bool.eq_false_iff.mpr c20
        subst c20
        have H1:((words_Turn.f k1 (strOfNums x8_1)).bind fun t144=>(some (t144,0)))=some (r1,r2):=by rw [if_neg (show ¬ (false=true) by decide)] at H;exact H
        clear H
        have H:=H1
        clear H1
        replace H:=Option.bind_eq_some_iff.mp H
        obtain ⟨t144,A220,H⟩:=H
        replace H:(some (t144,0))=some (r1,r2):=H
        have A22:=amk A220
        clear A220
        simp only [Option.some.injEq,Prod.mk.injEq] at H
        obtain ⟨rfl,rfl⟩:=H
        have hcv23:=own_string (P:=Try.prog) Try.underlying75 Try.underlying5 Try.underlying9 (Kd.own_of_R HO_8.out)
        go_wp2_with (first | ((with_reducible refine gate_callee (f:=74) rfl ?_);refine goesL_ (some 36) rfl rfl Try.func74 (by kernel_rfl) rfl #[.string (strOfNums x8_1)] rfl (by (try simp only [List.map_toArray,List.map_cons,List.map_nil]);first | done | rfl | (simp only [List.length_drop,List.length_take];rfl)) ?_;(with_reducible refine (words_Turn.calls k1 (strOfNums x8_1) t144 _ A22.out).mono ?_);rintro e w24 ⟨rfl,hb⟩;refine ⟨_,rfl,?_⟩;have n0_:=amk (Kd.R_below (by (with_reducible repeat (first | apply Kd.R_alloc | apply Kd.R_drewN | apply Kd.R_drew));exact HO_8.out) hb);have n1_:=amk (bws (by repeat (first | (with_reducible first | exact HB.out | apply bwa | apply pwd | apply bwd) | exact HB.out)) hb);clear HO_8;clear HB;have HO_8:=n0_;have HB:=n1_;clear n0_ n1_;(try clear hb);(try clear hb2);(try clear hk);(try clear hi)))
        go_ret2
        exact ⟨by first | rfl | (simp [eWn,eWs] <;> rfl) | (simp [*,eWn,eWs] <;> rfl),by repeat (first | (with_reducible first | exact HB.out | apply bwa | apply pwd | apply bwd) | exact HB.out)⟩
   ·rw [if_neg c7] at H
    exact absurd H (by simp)
  ·rw [if_neg c6] at H
   exact absurd H (by simp)
 ·replace c5:=Bool.eq_false_iff.mpr c5
  subst c5
  have H1:(some ((⟨#[]⟩:ByteArray),1))=some (r1,r2):=by rw [if_neg (show ¬ (false=true) by decide)] at H;exact H
  clear H
  have H:=H1
  clear H1
  simp only [Option.some.injEq,Prod.mk.injEq] at H
  obtain ⟨rfl,rfl⟩:=H
  go_enter Try.func61,Try.ntmps61
  go_wp2_with (first | ((with_reducible refine gate_callee (f:=73) rfl ?_);refine goesL_ (some 12) rfl rfl Try.func73 (by kernel_rfl) rfl #[.int .u64 a0,.int .i64 a1] rfl (by (try simp only [List.map_toArray,List.map_cons,List.map_nil]);first | done | rfl | (simp only [List.length_drop,List.length_take];rfl)) ?_;(with_reducible refine (words_may.calls a0 a1 false _ A4.out).mono ?_);rintro e w' ⟨rfl,⟨nd,rfl⟩⟩;refine ⟨_,rfl,?_⟩))
  go_ret2
  exact ⟨by first | rfl | (simp [eWn,eWs] <;> rfl) | (simp [*,eWn,eWs] <;> rfl),by repeat (first | (with_reducible first | exact HB.out | apply bwa | apply pwd | apply bwd) | exact HB.out)⟩

/-! ### control_low: function 39 -/
def control_low.f (k:Nat) (a0:Int) (a1:Int):Option (ByteArray):=if 0≤(wrap64 (8 * a1)) then (if (shl .u64 1 (wrap64 (8 * a1)))=0 then (none) else ((words_Put.f k (Int.tmod (IntKind.u64.wrap (a0)) (shl .u64 1 (wrap64 (8 * a1)))) a1 false).bind fun bt145=>(some bt145.1))) else (none)
theorem control_low.mono:∀ a0 a1 k,LeO (control_low.f k a0 a1) (control_low.f (k+1) a0 a1):=by
 intro a0 a1 k
 unfold control_low.f
 repeat' first
   | (with_reducible exact words_Put.mono _ _ _ _)
   | (with_reducible exact LeO.refl _)
   | (with_reducible exact LeO.none _)
   | (with_reducible refine LeO.ite ?_ ?_)
   | (with_reducible refine LeO.bind ?_ (fun _=>?_))
   | exact words_Put.mono _ _ _ _
   | exact LeO.none _
   | refine LeO.ite ?_ ?_
   | refine LeO.bind ?_ (fun _=>?_)
set_option maxHeartbeats 8000000 in
set_option maxRecDepth 100000 in
theorem control_low.calls (k:Nat) (a0:Int) (a1:Int) (r:ByteArray) (w:World) (h:control_low.f k a0 a1=some r) :
  Calls Try.prog 39 #[.int .i64 a0,.int .i64 a1] w fun e w'=>e=.returned (.string r)∧Below w.heap.size w w':=by
 have HB:=amk (Below.refl w.heap.size w)
 have H:(if 0≤(wrap64 (8 * a1)) then (if (shl .u64 1 (wrap64 (8 * a1)))=0 then (none) else ((words_Put.f k (Int.tmod (IntKind.u64.wrap (a0)) (shl .u64 1 (wrap64 (8 * a1)))) a1 false).bind fun bt145=>(some bt145.1))) else (none))=some r:=h
 clear h
 obtain ⟨ji3,hji3⟩:∃ j_:Int,(wrap64 (8 * a1))=j_:=⟨_,rfl⟩
 replace H:(if 0≤(ji3) then (if (shl .u64 1 (ji3))=0 then (none) else ((words_Put.f k (Int.tmod (IntKind.u64.wrap (a0)) (shl .u64 1 (ji3))) a1 false).bind fun bt145=>(some bt145.1))) else (none))=some r:=by first | (rw [hji3] at H;exact H) | (simp only [hji3] at H ⊢; exact H)
 have hji3w:(IntKind.i64.wrap (8 * a1))=ji3:=(i64_w _).trans hji3
 by_cases c4:0≤(ji3)
 ·rw [if_pos c4] at H
  have c4b0:=eq_true c4
  have c4b1:decide (0≤(ji3))=true:=decide_eq_true c4
  clear c4
  obtain ⟨ji5,hji5⟩:∃ j_:Int,(shl .u64 1 (ji3))=j_:=⟨_,rfl⟩
  replace H:(if (ji5)=0 then (none) else ((words_Put.f k (Int.tmod (IntKind.u64.wrap (a0)) (ji5)) a1 false).bind fun bt145=>(some bt145.1)))=some r:=by first | (rw [hji5] at H;exact H) | (simp only [hji5] at H ⊢; exact H)
  have hji5_:(IntKind.u64.wrap (1 * 2 ^ min (ji3).toNat 64))=ji5:=hji5
  have hji5z:(ji3)≤64→(IntKind.u64.wrap (1 * 2 ^ (ji3).toNat))=ji5:=shl_small hji5
  have hji5u:(IntKind.u64.wrap (2 ^ min (ji3).toNat 64))=ji5:=by have h_:=hji5_;rw [Int.one_mul] at h_;exact h_
  have hji5v:(ji3)≤64→(IntKind.u64.wrap (2 ^ (ji3).toNat))=ji5:=fun hle_=>by have h_:=hji5z hle_;rw [Int.one_mul] at h_;exact h_
  by_cases c6:(ji5)=0
  ·rw [if_pos c6] at H
   exact absurd H (by simp)
  ·rw [if_neg c6] at H
   have c6b0:((ji5) == 0)=false:=beq_eq_false_iff_ne.mpr c6
   have c6b1:((ji5) != 0)=true:=bne_iff_ne.mpr c6
   replace H:=Option.bind_eq_some_iff.mp H
   obtain ⟨⟨t145,t146⟩,A70,H⟩:=H
   replace H:(some t145)=some r:=H
   have A7:=amk A70
   clear A70
   obtain rfl:=Option.some.inj H
   go_enter Try.func39,Try.ntmps39
   go_wp2_with (first | ((with_reducible refine gate_callee (f:=61) rfl ?_);refine goesL_ (some 15) rfl rfl Try.func61 (by kernel_rfl) rfl #[.int .u64 (Int.tmod (IntKind.u64.wrap (a0)) (ji5)),.int .i64 a1,.bool false] rfl (by (try simp only [List.map_toArray,List.map_cons,List.map_nil]);first | done | (simp only [hji5];rfl) | rfl | (simp only [List.length_drop,List.length_take];rfl)) ?_;(with_reducible refine (words_Put.calls k (Int.tmod (IntKind.u64.wrap (a0)) (ji5)) a1 false t145 t146 _ A7.out).mono ?_);rintro e w8 ⟨rfl,hb⟩;refine ⟨_,rfl,?_⟩;have n0_:=amk (bws (by repeat (first | (with_reducible first | exact HB.out | apply bwa | apply pwd | apply bwd) | exact HB.out)) hb);clear HB;have HB:=n0_;clear n0_;(try clear hb);(try clear hb2);(try clear hk);(try clear hi)))
   go_ret
   exact ⟨by first | rfl | (simp [eWn,eWs] <;> rfl) | (simp only [← hji3,← hji5];first | rfl | (simp [eWn,eWs] <;> rfl)) | (simp [*,eWn,eWs] <;> rfl),by repeat (first | (with_reducible first | exact HB.out | apply bwa | apply pwd | apply bwd) | exact HB.out)⟩
 ·rw [if_neg c4] at H
  exact absurd H (by simp)

-- NOT PRINTED: function 83 (abi_NoEscape)

-- NOT PRINTED: function 75 (strings_Builder_copyCheck)

-- NOT PRINTED: function 84 (bytealg_MakeNoZero)

-- NOT PRINTED: function 76 (strings_Builder_grow)

-- NOT PRINTED: function 65 (strings_Builder_Grow)

-- NOT PRINTED: function 66 (strings_Builder_WriteString)

-- NOT PRINTED: function 67 (strings_Builder_String)

/-! ### control_cmd: function 38 -/
def control_cmd.f (k:Nat) (a0:Int) (a1:Int) (l2:List ByteArray):Option (ByteArray):=(control_low.f k a0 1).bind fun t147=>((control_low.f k a1 1).bind fun t148=>(if t147.size+t148.size≤9223372036854775807 then ((strings_Join.f l2 (⟨#[]⟩:ByteArray)).bind fun t149=>(if (t147 ++ t148).size+t149.size≤9223372036854775807 then (some ((t147 ++ t148) ++ t149)) else (none))) else (none)))
theorem control_cmd.mono:∀ a0 a1 a2 k,LeO (control_cmd.f k a0 a1 a2) (control_cmd.f (k+1) a0 a1 a2):=by
 intro a0 a1 a2 k
 unfold control_cmd.f
 repeat' first
   | (with_reducible exact control_low.mono _ _ _)
   | (with_reducible exact LeO.refl _)
   | (with_reducible exact LeO.none _)
   | (with_reducible refine LeO.ite ?_ ?_)
   | (with_reducible refine LeO.bind ?_ (fun _=>?_))
   | exact control_low.mono _ _ _
   | exact LeO.none _
   | refine LeO.ite ?_ ?_
   | refine LeO.bind ?_ (fun _=>?_)
set_option maxHeartbeats 8000000 in
set_option maxRecDepth 100000 in
theorem control_cmd.calls (k:Nat) (a0:Int) (a1:Int) (A2:Option Addr) (c2:Nat) (l2:List ByteArray) (r:ByteArray) (w:World) (hr2:Kd.C Kd.string w A2 l2.length l2) (hc2:l2.length≤c2) (h:control_cmd.f k a0 a1 l2=some r) :
  Calls Try.prog 38 #[.int .i64 a0,.int .i64 a1,.slice A2 l2.length c2] w fun e w'=>e=.returned (.string r)∧Below w.heap.size w w':=by
 have HR2:=amk hr2
 have HC2:=amk hc2
 clear hr2 hc2
 have HB:=amk (Below.refl w.heap.size w)
 have H:((control_low.f k a0 1).bind fun t147=>((control_low.f k a1 1).bind fun t148=>(if t147.size+t148.size≤9223372036854775807 then ((strings_Join.f l2 (⟨#[]⟩:ByteArray)).bind fun t149=>(if (t147 ++ t148).size+t149.size≤9223372036854775807 then (some ((t147 ++ t148) ++ t149)) else (none))) else (none))))=some r:=h
 clear h
 replace H:=Option.bind_eq_some_iff.mp H
 obtain ⟨t147,A40,H⟩:=H
 replace H:((control_low.f k a1 1).bind fun t148=>(if t147.size+t148.size≤9223372036854775807 then ((strings_Join.f l2 (⟨#[]⟩:ByteArray)).bind fun t149=>(if (t147 ++ t148).size+t149.size≤9223372036854775807 then (some ((t147 ++ t148) ++ t149)) else (none))) else (none)))=some r:=H
 have A4:=amk A40
 clear A40
 replace H:=Option.bind_eq_some_iff.mp H
 obtain ⟨t148,A50,H⟩:=H
 replace H:(if t147.size+t148.size≤9223372036854775807 then ((strings_Join.f l2 (⟨#[]⟩:ByteArray)).bind fun t149=>(if (t147 ++ t148).size+t149.size≤9223372036854775807 then (some ((t147 ++ t148) ++ t149)) else (none))) else (none))=some r:=H
 have A5:=amk A50
 clear A50
 by_cases c6:t147.size+t148.size≤9223372036854775807
 ·rw [if_pos c6] at H
  have c6b0:=eq_true c6
  have c6b1:decide (t147.size+t148.size≤9223372036854775807)=true:=decide_eq_true c6
  try have c6b2:(9223372036854775807 < t147.size+t148.size)=False:=eq_false (Nat.not_lt.2 c6)
  replace H:=Option.bind_eq_some_iff.mp H
  obtain ⟨t149,A70,H⟩:=H
  replace H:(if (t147 ++ t148).size+t149.size≤9223372036854775807 then (some ((t147 ++ t148) ++ t149)) else (none))=some r:=H
  have A7:=amk A70
  clear A70
  by_cases c8:(t147 ++ t148).size+t149.size≤9223372036854775807
  ·rw [if_pos c8] at H
   have c8b0:=eq_true c8
   have c8b1:decide ((t147 ++ t148).size+t149.size≤9223372036854775807)=true:=decide_eq_true c8
   try have c8b2:(9223372036854775807 < (t147 ++ t148).size+t149.size)=False:=eq_false (Nat.not_lt.2 c8)
   (try (have c8b3:(9223372036854775807 < ((t147.size)+(t148.size))+t149.size)=False:=eq_false (by have h_:=c8;simp only [ByteArray.size_append] at h_;omega)))
   (try (have c8b4:(((t147.size)+(t148.size))+t149.size≤9223372036854775807)=True:=eq_true (by have h_:=c8;simp only [ByteArray.size_append] at h_;omega)))
   obtain rfl:=Option.some.inj H
   go_enter Try.func38,Try.ntmps38
   go_wp2_with (first | ((with_reducible refine gate_callee (f:=39) rfl ?_);refine goesL_ (some 8) rfl rfl Try.func39 (by kernel_rfl) rfl #[.int .i64 a0,.int .i64 1] rfl (by (try simp only [List.map_toArray,List.map_cons,List.map_nil]);first | done | rfl | (simp only [List.length_drop,List.length_take];rfl)) ?_;(with_reducible refine (control_low.calls k a0 1 t147 _ A4.out).mono ?_);rintro e w9 ⟨rfl,hb⟩;refine ⟨_,rfl,?_⟩;have n0_:=amk (bws (by repeat (first | (with_reducible first | exact HB.out | apply bwa | apply pwd | apply bwd) | exact HB.out)) hb);clear HB;have HB:=n0_;clear n0_;(try clear hb);(try clear hb2);(try clear hk);(try clear hi)) | ((with_reducible refine gate_callee (f:=39) rfl ?_);refine goesL_ (some 10) rfl rfl Try.func39 (by kernel_rfl) rfl #[.int .i64 a1,.int .i64 1] rfl (by (try simp only [List.map_toArray,List.map_cons,List.map_nil]);first | done | rfl | (simp only [List.length_drop,List.length_take];rfl)) ?_;(with_reducible refine (control_low.calls k a1 1 t148 _ A5.out).mono ?_);rintro e w10 ⟨rfl,hb⟩;refine ⟨_,rfl,?_⟩;have n0_:=amk (bws (by repeat (first | (with_reducible first | exact HB.out | apply bwa | apply pwd | apply bwd) | exact HB.out)) hb);clear HB;have HB:=n0_;clear n0_;(try clear hb);(try clear hb2);(try clear hk);(try clear hi)) | ((with_reducible refine gate_callee (f:=45) rfl ?_);refine goesL_ (some 13) rfl rfl Try.func45 (by kernel_rfl) rfl #[.slice A2 l2.length c2,.string (⟨#[]⟩:ByteArray)] rfl (by (try simp only [List.map_toArray,List.map_cons,List.map_nil]);first | done | rfl | (simp only [List.length_drop,List.length_take];rfl)) ?_;(with_reducible refine (strings_Join.calls _ _ l2 (⟨#[]⟩:ByteArray) t149 _ ?side1 ?side2 A7.out).mono ?_);(case side1=>repeat (first | exact (Kd.C_below HR2.out HB.out) | (with_reducible refine Kd.C_alloc ?_ _) | (with_reducible refine Kd.C_drewN ?_ _) | (with_reducible refine Kd.C_drew ?_)));(case side2=>exact HC2.out);rintro e w11 ⟨rfl,hb⟩;refine ⟨_,rfl,?_⟩;have n0_:=amk (bws (by repeat (first | (with_reducible first | exact HB.out | apply bwa | apply pwd | apply bwd) | exact HB.out)) hb);clear HB;have HB:=n0_;clear n0_;(try clear hb);(try clear hb2);(try clear hk);(try clear hi)))
   go_ret
   exact ⟨by first | rfl | (simp [eWn,eWs] <;> rfl) | (simp [*,eWn,eWs] <;> rfl),by repeat (first | (with_reducible first | exact HB.out | apply bwa | apply pwd | apply bwd) | exact HB.out)⟩
  ·rw [if_neg c8] at H
   exact absurd H (by simp)
 ·rw [if_neg c6] at H
  exact absurd H (by simp)

/-! ### control_Rx: function 14 -/
def control_Rx.f (k:Nat) (a0:Int) (a1:Bool):Option (ByteArray):=if a1=true then ((control_low.f k 1 1).bind fun t150=>((control_cmd.f k 0 a0 (([t150]:List ByteArray))).bind fun t154=>(some t154))) else ((control_low.f k 0 1).bind fun t155=>((control_cmd.f k 0 a0 (([t155]:List ByteArray))).bind fun t159=>(some t159)))
theorem control_Rx.mono:∀ a0 a1 k,LeO (control_Rx.f k a0 a1) (control_Rx.f (k+1) a0 a1):=by
 intro a0 a1 k
 unfold control_Rx.f
 repeat' first
   | (with_reducible exact control_cmd.mono _ _ _ _)
   | (with_reducible exact control_low.mono _ _ _)
   | (with_reducible exact LeO.refl _)
   | (with_reducible exact LeO.none _)
   | (with_reducible refine LeO.ite ?_ ?_)
   | (with_reducible refine LeO.bind ?_ (fun _=>?_))
   | exact control_cmd.mono _ _ _ _
   | exact control_low.mono _ _ _
   | exact LeO.none _
   | refine LeO.ite ?_ ?_
   | refine LeO.bind ?_ (fun _=>?_)
set_option maxHeartbeats 8000000 in
set_option maxRecDepth 100000 in
theorem control_Rx.calls (k:Nat) (a0:Int) (a1:Bool) (r:ByteArray) (w:World) (h:control_Rx.f k a0 a1=some r) :
  Calls Try.prog 14 #[.int .i64 a0,.bool a1] w fun e w'=>e=.returned (.string r)∧Below w.heap.size w w':=by
 have HB:=amk (Below.refl w.heap.size w)
 have H:(if a1=true then ((control_low.f k 1 1).bind fun t150=>((control_cmd.f k 0 a0 (([t150]:List ByteArray))).bind fun t154=>(some t154))) else ((control_low.f k 0 1).bind fun t155=>((control_cmd.f k 0 a0 (([t155]:List ByteArray))).bind fun t159=>(some t159))))=some r:=h
 clear h
 by_cases c3:a1=true
 ·subst c3
  have H1:((control_low.f k 1 1).bind fun t150=>((control_cmd.f k 0 a0 (([t150]:List ByteArray))).bind fun t154=>(some t154)))=some r:=by rw [if_pos rfl] at H;exact H
  clear H
  have H:=H1
  clear H1
  replace H:=Option.bind_eq_some_iff.mp H
  obtain ⟨t150,A40,H⟩:=H
  replace H:((control_cmd.f k 0 a0 (([t150]:List ByteArray))).bind fun t154=>(some t154))=some r:=H
  have A4:=amk A40
  clear A40
  obtain ⟨y151,hy151⟩:∃ y_:List ByteArray,y_=(([t150]:List ByteArray)):=⟨_,rfl⟩
  replace H:((control_cmd.f k 0 a0 y151).bind fun t154=>(some t154))=some r:=by first | (rw [hy151];with_reducible exact H) | (have H2_:=(Option.bind_some _ _).symm.trans H;rw [hy151];with_reducible exact H2_) | (have H2_:=(Option.bind_some _ _).symm.trans H;with_reducible exact H2_) | with_reducible exact H | (rw [hy151];exact H) | exact H
  have Ny151:=amk hy151
  clear hy151
  replace H:=Option.bind_eq_some_iff.mp H
  obtain ⟨t154,A50,H⟩:=H
  replace H:(some t154)=some r:=H
  have A5:=amk A50
  clear A50
  obtain rfl:=Option.some.inj H
  go_enter Try.func14,Try.ntmps14
  go_wp2_with (first | ((with_reducible refine gate_callee (f:=39) rfl ?_);refine goesL_ (some 7) rfl rfl Try.func39 (by kernel_rfl) rfl #[.int .i64 1,.int .i64 1] rfl (by (try simp only [List.map_toArray,List.map_cons,List.map_nil]);first | done | rfl | (simp only [List.length_drop,List.length_take];rfl)) ?_;(with_reducible refine (control_low.calls k 1 1 t150 _ A4.out).mono ?_);rintro e w6 ⟨rfl,hb⟩;refine ⟨_,rfl,?_⟩;have n0_:=amk (bws (by repeat (first | (with_reducible first | exact HB.out | apply bwa | apply pwd | apply bwd) | exact HB.out)) hb);clear HB;have HB:=n0_;clear n0_;(try clear hb);(try clear hb2);(try clear hk);(try clear hi)) | ((with_reducible refine gate_dst (N:=8) rfl ?_);refine Kd.R_lit Kd.string _ 9 ?hg (N:=8) ?hd (xs:=([t150]:List ByteArray)) (inner:=[.string t150]) (ok:=fun _=>True) (okp:=fun _=>True) ?hr ?hp (fun _ hk=>hk) trivial (Below.refl _ _) (Nat.le_refl _) (by simp) ?_;(case hd=>rfl);(case hg=>rfl);(case hr=>first | (go_simp;done) | (go_simp;rfl));(case hp=>exact (Reps.one (show Kd.M Kd.string _ _ _ t150 [.string t150] from rfl) (Reps.none _ _)));intro v152 w7 ho8 hb hg_ hnew_;clear hg_ hnew_;(first | rw [← Ny151.out] at ho8 | (simp only [Int.reduceToNat] at ho8;rw [← Ny151.out] at ho8));have n0_:=amk (Kd.R_lower ho8 (below_size (by repeat (first | (with_reducible first | exact HB.out | apply bwa | apply pwd | apply bwd) | exact HB.out))));have n1_:=amk (bws (by repeat (first | (with_reducible first | exact HB.out | apply bwa | apply pwd | apply bwd) | exact HB.out)) hb);clear HB;have HO153:=n0_;have HB:=n1_;clear n0_ n1_;clear hb ho8;obtain ⟨Ao9,co9,eo9⟩:=Kd.R_slice HO153.out;subst eo9) | ((with_reducible refine gate_callee (f:=38) rfl ?_);refine goesL_ (some 9) rfl rfl Try.func38 (by kernel_rfl) rfl #[.int .i64 0,.int .i64 a0,.slice Ao9 y151.length co9] rfl (by (try simp only [List.map_toArray,List.map_cons,List.map_nil]);first | done | rfl | (simp only [List.length_drop,List.length_take];rfl)) ?_;(with_reducible refine (control_cmd.calls k 0 a0 _ _ y151 t154 _ ?side1 ?side2 A5.out).mono ?_);(case side1=>repeat (first | exact (Kd.R_reads' HO153.out).2.2 | (with_reducible refine Kd.C_alloc ?_ _) | (with_reducible refine Kd.C_drewN ?_ _) | (with_reducible refine Kd.C_drew ?_)));(case side2=>exact (Kd.R_reads' HO153.out).2.1);rintro e w10 ⟨rfl,hb⟩;refine ⟨_,rfl,?_⟩;have n0_:=amk (Kd.R_below (by (with_reducible repeat (first | apply Kd.R_alloc | apply Kd.R_drewN | apply Kd.R_drew));exact HO153.out) hb);have n1_:=amk (bws (by repeat (first | (with_reducible first | exact HB.out | apply bwa | apply pwd | apply bwd) | exact HB.out)) hb);clear HO153;clear HB;have HO153:=n0_;have HB:=n1_;clear n0_ n1_;(try clear hb);(try clear hb2);(try clear hk);(try clear hi)))
  go_ret
  exact ⟨by first | rfl | (simp [eWn,eWs] <;> rfl) | (simp [*,eWn,eWs] <;> rfl),by repeat (first | (with_reducible first | exact HB.out | apply bwa | apply pwd | apply bwd) | exact HB.out)⟩
 ·replace c3:=Bool.eq_false_iff.mpr c3
  subst c3
  have H1:((control_low.f k 0 1).bind fun t155=>((control_cmd.f k 0 a0 (([t155]:List ByteArray))).bind fun t159=>(some t159)))=some r:=by rw [if_neg (show ¬ (false=true) by decide)] at H;exact H
  clear H
  have H:=H1
  clear H1
  replace H:=Option.bind_eq_some_iff.mp H
  obtain ⟨t155,A110,H⟩:=H
  replace H:((control_cmd.f k 0 a0 (([t155]:List ByteArray))).bind fun t159=>(some t159))=some r:=H
  have A11:=amk A110
  clear A110
  obtain ⟨y156,hy156⟩:∃ y_:List ByteArray,y_=(([t155]:List ByteArray)):=⟨_,rfl⟩
  replace H:((control_cmd.f k 0 a0 y156).bind fun t159=>(some t159))=some r:=by first | (rw [hy156];with_reducible exact H) | (have H2_:=(Option.bind_some _ _).symm.trans H;rw [hy156];with_reducible exact H2_) | (have H2_:=(Option.bind_some _ _).symm.trans H;with_reducible exact H2_) | with_reducible exact H | (rw [hy156];exact H) | exact H
  have Ny156:=amk hy156
  clear hy156
  replace H:=Option.bind_eq_some_iff.mp H
  obtain ⟨t159,A120,H⟩:=H
  replace H:(some t159)=some r:=H
  have A12:=amk A120
  clear A120
  obtain rfl:=Option.some.inj H
  go_enter Try.func14,Try.ntmps14
  go_wp2_with (first | ((with_reducible refine gate_callee (f:=39) rfl ?_);refine goesL_ (some 11) rfl rfl Try.func39 (by kernel_rfl) rfl #[.int .i64 0,.int .i64 1] rfl (by (try simp only [List.map_toArray,List.map_cons,List.map_nil]);first | done | rfl | (simp only [List.length_drop,List.length_take];rfl)) ?_;(with_reducible refine (control_low.calls k 0 1 t155 _ A11.out).mono ?_);rintro e w13 ⟨rfl,hb⟩;refine ⟨_,rfl,?_⟩;have n0_:=amk (bws (by repeat (first | (with_reducible first | exact HB.out | apply bwa | apply pwd | apply bwd) | exact HB.out)) hb);clear HB;have HB:=n0_;clear n0_;(try clear hb);(try clear hb2);(try clear hk);(try clear hi)) | ((with_reducible refine gate_dst (N:=12) rfl ?_);refine Kd.R_lit Kd.string _ 9 ?hg (N:=12) ?hd (xs:=([t155]:List ByteArray)) (inner:=[.string t155]) (ok:=fun _=>True) (okp:=fun _=>True) ?hr ?hp (fun _ hk=>hk) trivial (Below.refl _ _) (Nat.le_refl _) (by simp) ?_;(case hd=>rfl);(case hg=>rfl);(case hr=>first | (go_simp;done) | (go_simp;rfl));(case hp=>exact (Reps.one (show Kd.M Kd.string _ _ _ t155 [.string t155] from rfl) (Reps.none _ _)));intro v157 w14 ho15 hb hg_ hnew_;clear hg_ hnew_;(first | rw [← Ny156.out] at ho15 | (simp only [Int.reduceToNat] at ho15;rw [← Ny156.out] at ho15));have n0_:=amk (Kd.R_lower ho15 (below_size (by repeat (first | (with_reducible first | exact HB.out | apply bwa | apply pwd | apply bwd) | exact HB.out))));have n1_:=amk (bws (by repeat (first | (with_reducible first | exact HB.out | apply bwa | apply pwd | apply bwd) | exact HB.out)) hb);clear HB;have HO158:=n0_;have HB:=n1_;clear n0_ n1_;clear hb ho15;obtain ⟨Ao16,co16,eo16⟩:=Kd.R_slice HO158.out;subst eo16) | ((with_reducible refine gate_callee (f:=38) rfl ?_);refine goesL_ (some 13) rfl rfl Try.func38 (by kernel_rfl) rfl #[.int .i64 0,.int .i64 a0,.slice Ao16 y156.length co16] rfl (by (try simp only [List.map_toArray,List.map_cons,List.map_nil]);first | done | rfl | (simp only [List.length_drop,List.length_take];rfl)) ?_;(with_reducible refine (control_cmd.calls k 0 a0 _ _ y156 t159 _ ?side1 ?side2 A12.out).mono ?_);(case side1=>repeat (first | exact (Kd.R_reads' HO158.out).2.2 | (with_reducible refine Kd.C_alloc ?_ _) | (with_reducible refine Kd.C_drewN ?_ _) | (with_reducible refine Kd.C_drew ?_)));(case side2=>exact (Kd.R_reads' HO158.out).2.1);rintro e w17 ⟨rfl,hb⟩;refine ⟨_,rfl,?_⟩;have n0_:=amk (Kd.R_below (by (with_reducible repeat (first | apply Kd.R_alloc | apply Kd.R_drewN | apply Kd.R_drew));exact HO158.out) hb);have n1_:=amk (bws (by repeat (first | (with_reducible first | exact HB.out | apply bwa | apply pwd | apply bwd) | exact HB.out)) hb);clear HO158;clear HB;have HO158:=n0_;have HB:=n1_;clear n0_ n1_;(try clear hb);(try clear hb2);(try clear hk);(try clear hi)))
  go_ret
  exact ⟨by first | rfl | (simp [eWn,eWs] <;> rfl) | (simp [*,eWn,eWs] <;> rfl),by repeat (first | (with_reducible first | exact HB.out | apply bwa | apply pwd | apply bwd) | exact HB.out)⟩

end Go.Proofs.Ytkgbhlcbjflnlaa.P
