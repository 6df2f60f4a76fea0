/- What functions of the program compute, each with the walk that shows it: by a program (a turned copy of the kit's print; wip/myprint.py). -/
import Derived.Test.YtkgbhlcbjflnlaaZPx0
namespace Go.Proofs.Ytkgbhlcbjflnlaa.P
open Go.RowKit Go.Proofs.YtkgbhlcbjflnlaaW.PrintWords Go.Proofs.YtkgbhlcbjflnlaaW.PrintLast Go.Proofs.YtkgbhlcbjflnlaaW.PrintMore
attribute [local go_sem] max2_int min2_int max_two min_two max_three min_three max_four min_four   -- for this text's walks alone
set_option linter.unusedVariables false
set_option linter.unusedSimpArgs false

/-- A state of type 64 at block g of W; what its slices lead to came in by w0. -/
def IsS64 (w0 W:World) (g:Nat) (f0:ByteArray) (f1:Bool):Prop:=W.heap[g]?=some (.cells #[.string f0,.bool f1] 64 (0,0))∧w0.heap.size≤g
theorem IsS64.grown {w0 W:World} {g:Nat} {f0:ByteArray} {f1:Bool} {W1:World} {row:Option Nat} (h:IsS64 w0 W g f0 f1) (hw:W.grownBy W1 row) (hne:some g ≠ row):IsS64 w0 W1 g f0 f1:=by
 obtain ⟨hb,hg⟩:=h
 exact ⟨blk_grown hb hw hne,hg⟩
theorem IsS64.kept {w0 W:World} {g:Nat} {f0:ByteArray} {f1:Bool} {W1:World} {S:Nat→Prop} (h:IsS64 w0 W g f0 f1) (hk:Kept W W1 S) (hne : ¬ S g):IsS64 w0 W1 g f0 f1:=by
 obtain ⟨hb,hg⟩:=h
 exact ⟨blk_kept hb hk hne,hg⟩
theorem IsS64.below {w0 W:World} {g:Nat} {f0:ByteArray} {f1:Bool} {W1:World} (h:IsS64 w0 W g f0 f1) (hw:Below W.heap.size W W1):IsS64 w0 W1 g f0 f1:=h.grown (grown_of_below hw none) (by simp)
theorem IsS64.alloc {w0 W:World} {g:Nat} {f0:ByteArray} {f1:Bool} (h:IsS64 w0 W g f0 f1) (o:Obj):IsS64 w0 (W.alloc o) g f0 f1:=h.below (bwa (Below.refl _ _) o)
theorem IsS64.drewN {w0 W:World} {g:Nat} {f0:ByteArray} {f1:Bool} (h:IsS64 w0 W g f0 f1) (m:Nat):IsS64 w0 (W.drewN m) g f0 f1:=h
theorem IsS64.drew {w0 W:World} {g:Nat} {f0:ByteArray} {f1:Bool} (h:IsS64 w0 W g f0 f1):IsS64 w0 W.drew g f0 f1:=h
theorem IsS64.at_ {w0 W:World} {g:Nat} {f0:ByteArray} {f1:Bool} {w':World} {m:Nat} (hq:W.drewN m=w') (h:IsS64 w0 W g f0 f1):IsS64 w0 w' g f0 f1:=by subst hq;exact IsS64.drewN h m
theorem IsS64.apart {w0 W:World} {g:Nat} {f0:ByteArray} {f1:Bool} {α:Type} {d:Kd α} {e:Nat} {base:Nat} {ok:Nat→Prop} {v:Value} {xs:List α} (h:IsS64 w0 W g f0 f1) (ho:d.R e W base ok v xs) (ht:∀ q,q∈e :: d.E→q ≠ 64):d.R e W base (fun k=>ok k∧k ≠ g) v xs:=by
 obtain ⟨hb,hg⟩:=h
 exact Kd.R_types ho hb ht
theorem IsS64.own_ne {w0 W:World} {g:Nat} {f0:ByteArray} {f1:Bool} {α:Type} {d:Kd α} {e:Nat} {base:Nat} {ok:Nat→Prop} {v:Value} {xs:List α} (h:IsS64 w0 W g f0 f1) (ho:d.R e W base ok v xs) (ht:e ≠ 64):some g ≠ v.ownBlock:=by
 obtain ⟨hb,hg⟩:=h
 exact Kd.R_ne ho hb ht
theorem IsS64.lt {w0 W:World} {g:Nat} {f0:ByteArray} {f1:Bool} (h:IsS64 w0 W g f0 f1):g < W.heap.size:=by
 obtain ⟨hb,hg⟩:=h
 exact blk_lt hb
theorem IsS64.ge {w0 W:World} {g:Nat} {f0:ByteArray} {f1:Bool} (h:IsS64 w0 W g f0 f1):w0.heap.size≤g:=by
 obtain ⟨hb,hg⟩:=h
 exact hg
theorem IsS64.far {w0 W:World} {g:Nat} {f0:ByteArray} {f1:Bool} {p:Addr} (h:IsS64 w0 W g f0 f1) (hne:g ≠ p.block) (u:Value):IsS64 w0 (W.setCell p u) g f0 f1:=by
 obtain ⟨hb,hg⟩:=h
 exact ⟨blk_far hb hne u,hg⟩
theorem cellS64_0 {W:World} {g:Nat} {f0:ByteArray} {f1:Bool} (h:W.heap[g]?=some (.cells #[.string f0,.bool f1] 64 (0,0))):W.cell? ⟨g,0,none⟩=some (.string f0):=(bkc h 0).trans rfl
theorem IsS64.set_0 {w0 W:World} {g:Nat} {f0:ByteArray} {f1:Bool} (h:IsS64 w0 W g f0 f1) (x:ByteArray):IsS64 w0 (W.setCell ⟨g,0,none⟩ (.string x)) g x f1:=by
 obtain ⟨hb,hg⟩:=h
 exact ⟨by simpa using blk_set hb 0 (.string x),hg⟩
theorem cellS64_1 {W:World} {g:Nat} {f0:ByteArray} {f1:Bool} (h:W.heap[g]?=some (.cells #[.string f0,.bool f1] 64 (0,0))):W.cell? ⟨g,1,none⟩=some (.bool f1):=(bkc h 1).trans rfl
theorem IsS64.set_1 {w0 W:World} {g:Nat} {f0:ByteArray} {f1:Bool} (h:IsS64 w0 W g f0 f1) (x:Bool):IsS64 w0 (W.setCell ⟨g,1,none⟩ (.bool x)) g f0 x:=by
 obtain ⟨hb,hg⟩:=h
 exact ⟨by simpa using blk_set hb 1 (.bool x),hg⟩
theorem IsS64.new (w0 W:World) (f0:ByteArray) (f1:Bool) (hB:Below w0.heap.size w0 W):IsS64 w0 (W.alloc (.cells #[.string f0,.bool f1] 64)) W.heap.size f0 f1:=⟨by simpa using heap_alloc_new W _,hB.size⟩

/-! ### control_reader_take: function 54 -/
def control_reader_take.f (s0_0:ByteArray) (s0_1:Bool) (a1:Int):Option (ByteArray × ByteArray × Bool):=if a1 > (s0_0.size:Int) then (some ((⟨#[]⟩:ByteArray),s0_0,true)) else (if 0≤a1 then (if a1≤(s0_0.size:Int) then (some (s0_0.extract 0 (a1:Int).toNat,s0_0.extract (a1:Int).toNat s0_0.size,s0_1)) else (none)) else (none))
set_option maxHeartbeats 8000000 in
set_option maxRecDepth 100000 in
theorem control_reader_take.calls (g:Nat) (s0_0:ByteArray) (s0_1:Bool) (a1:Int) (r1:ByteArray) (r2:ByteArray) (r3:Bool) (w0 w:World) (hI:IsS64 w0 w g s0_0 s0_1) (hB:Below w0.heap.size w0 w) (h:control_reader_take.f s0_0 s0_1 a1=some (r1,r2,r3)) :
  Calls Try.prog 54 #[.pointer (some ⟨g,0,none⟩),.int .i64 a1] w fun e w'=>e=.returned (.string r1)∧IsS64 w0 w' g r2 r3∧Below w0.heap.size w0 w'∧KeepBut w w' g none:=by
 have HI0:=amk hI
 have HK:=amk (KeepBut.refl w g none)
 have HL:=amk hB.size
 clear hI
 have HW0:=amk hB.size
 have HB:=amk hB
 clear hB
 have H:(if a1 > (s0_0.size:Int) then (some ((⟨#[]⟩:ByteArray),s0_0,true)) else (if 0≤a1 then (if a1≤(s0_0.size:Int) then (some (s0_0.extract 0 (a1:Int).toNat,s0_0.extract (a1:Int).toNat s0_0.size,s0_1)) else (none)) else (none)))=some (r1,r2,r3):=h
 clear h
 by_cases c3:a1 > (s0_0.size:Int)
 ·rw [if_pos c3] at H
  have c3b0:decide ((s0_0.size:Int) < a1)=true:=decide_eq_true c3
  clear c3
  simp only [Option.some.injEq,Prod.mk.injEq] at H
  obtain ⟨rfl,rfl,rfl⟩:=H
  obtain ⟨HGz4,hgz4⟩:=HI0.out
  have hcz4_0:=cellS64_0 HGz4
  have hcz4_1:=cellS64_1 HGz4
  have hfz4_0:=bkf HGz4 0
  have hfz4_1:=bkf HGz4 1
  clear HGz4 hgz4
  go_enter Try.func54,Try.ntmps54
  go_wp2
  go_ret
  exact ⟨by first | rfl | (simp [eWn,eWs] <;> rfl) | (simp [*,eWn,eWs] <;> rfl),by repeat (first | (with_reducible first | exact HI0.out | apply IsS64.alloc | apply IsS64.drewN | apply IsS64.drew | apply IsS64.set_0 | apply IsS64.set_1) | exact HI0.out),by repeat (first | (with_reducible first | exact HB.out | apply bwa | apply pwd | apply bwd | refine bwt ?_ (IsS64.ge HI0.out)) | exact HB.out),by repeat (first | (with_reducible first | exact HK.out | apply KeepBut.set_ | apply keep_drewN | apply keep_drew | apply keep_alloc) | exact HK.out)⟩
 ·rw [if_neg c3] at H
  have c3b0:decide ((s0_0.size:Int) < a1)=false:=decide_eq_false c3
  clear c3
  by_cases c5:0≤a1
  ·rw [if_pos c5] at H
   have c5b0:=eq_true c5
   have c5b1:decide (0≤a1)=true:=decide_eq_true c5
   clear c5
   by_cases c6:a1≤(s0_0.size:Int)
   ·rw [if_pos c6] at H
    have c6b0:=eq_true c6
    have c6b1:decide (a1≤(s0_0.size:Int))=true:=decide_eq_true c6
    clear c6
    have c7b0:=eq_true (of_decide_eq_true (by first | (with_reducible assumption) | assumption):0≤a1)
    have c8b0:=eq_true (of_decide_eq_true (by first | (with_reducible assumption) | assumption):a1≤(s0_0.size:Int))
    simp only [Option.some.injEq,Prod.mk.injEq] at H
    obtain ⟨rfl,rfl,rfl⟩:=H
    obtain ⟨HGz9,hgz9⟩:=HI0.out
    have hcz9_0:=cellS64_0 HGz9
    have hcz9_1:=cellS64_1 HGz9
    have hfz9_0:=bkf HGz9 0
    have hfz9_1:=bkf HGz9 1
    clear HGz9 hgz9
    go_enter Try.func54,Try.ntmps54
    go_wp2
    go_ret
    exact ⟨by first | rfl | (simp [eWn,eWs] <;> rfl) | (simp [*,eWn,eWs] <;> rfl),by repeat (first | (with_reducible first | exact HI0.out | apply IsS64.alloc | apply IsS64.drewN | apply IsS64.drew | apply IsS64.set_0 | apply IsS64.set_1) | exact HI0.out),by repeat (first | (with_reducible first | exact HB.out | apply bwa | apply pwd | apply bwd | refine bwt ?_ (IsS64.ge HI0.out)) | exact HB.out),by repeat (first | (with_reducible first | exact HK.out | apply KeepBut.set_ | apply keep_drewN | apply keep_drew | apply keep_alloc) | exact HK.out)⟩
   ·rw [if_neg c6] at H
    exact absurd H (by simp)
  ·rw [if_neg c5] at H
   exact absurd H (by simp)

/-! ### words_Turn: function 74 -/
def words_Turn.l0:Nat→ByteArray→List Int→Int→Int→Option (ByteArray)
 | 0,_,_,_,_=>none
 | k+1,x0,x3,x9,x10=>if x10 < x9 then (if 0≤x10 then (if x10 < (x0.size:Int) then (if 0≤(wrap64 ((wrap64 ((x0.size:Int) - 1)) - x10)) then (if (wrap64 ((wrap64 ((x0.size:Int) - 1)) - x10)) < (x3.length:Int) then (words_Turn.l0 k x0 (x3.set ((wrap64 ((wrap64 ((x0.size:Int) - 1)) - x10)):Int).toNat (bt x0 x10)) x9 (wrap64 (x10+1))) else (none)) else (none)) else (none)) else (none)) else (some (strOfNums x3))
def words_Turn.f (k:Nat) (a0:ByteArray):Option (ByteArray):=if 0≤(a0.size:Int) then (if ((a0.size:Int):Int).toNat≤281474976710656 then (words_Turn.l0 k a0 (List.replicate ((a0.size:Int):Int).toNat 0) (a0.size:Int) 0) else (none)) else (none)
theorem words_Turn.mono_l:∀ k,(∀ y0 y1 y2 y3,LeO (words_Turn.l0 k y0 y1 y2 y3) (words_Turn.l0 (k+1) y0 y1 y2 y3))
 | 0=>fun _ _ _ _ r h=>by simp [words_Turn.l0] at h
 | k+1=>by
  have ih0:=words_Turn.mono_l k
  ·intro y0 y1 y2 y3
   unfold words_Turn.l0
   repeat' first
   | (with_reducible exact ih0 _ _ _ _)
   | (with_reducible exact LeO.refl _)
   | (with_reducible exact LeO.none _)
   | (with_reducible refine LeO.ite ?_ ?_)
   | (with_reducible refine LeO.bind ?_ (fun _=>?_))
   | exact ih0 _ _ _ _
   | exact LeO.none _
   | refine LeO.ite ?_ ?_
   | refine LeO.bind ?_ (fun _=>?_)
theorem words_Turn.mono:∀ a0 k,LeO (words_Turn.f k a0) (words_Turn.f (k+1) a0):=by
 intro a0 k
 have ih0:=words_Turn.mono_l k
 unfold words_Turn.f
 repeat' first
   | (with_reducible exact ih0 _ _ _ _)
   | (with_reducible exact LeO.refl _)
   | (with_reducible exact LeO.none _)
   | (with_reducible refine LeO.ite ?_ ?_)
   | (with_reducible refine LeO.bind ?_ (fun _=>?_))
   | exact ih0 _ _ _ _
   | exact LeO.none _
   | refine LeO.ite ?_ ?_
   | refine LeO.bind ?_ (fun _=>?_)
set_option maxHeartbeats 8000000 in
set_option maxRecDepth 100000 in
theorem words_Turn.calls (k:Nat) (a0:ByteArray) (r:ByteArray) (w:World) (h:words_Turn.f k a0=some r) :
  Calls Try.prog 74 #[.string a0] w fun e w'=>e=.returned (.string r)∧Below w.heap.size w w':=by
 have HB:=amk (Below.refl w.heap.size w)
 have H:(if 0≤(a0.size:Int) then (if ((a0.size:Int):Int).toNat≤281474976710656 then (words_Turn.l0 k a0 (List.replicate ((a0.size:Int):Int).toNat 0) (a0.size:Int) 0) else (none)) else (none))=some r:=h
 clear h
 by_cases c2:0≤(a0.size:Int)
 ·rw [if_pos c2] at H
  have c2b0:=eq_true c2
  have c2b1:decide (0≤(a0.size:Int))=true:=decide_eq_true c2
  clear c2
  by_cases c3:((a0.size:Int):Int).toNat≤281474976710656
  ·rw [if_pos c3] at H
   have c3b0:=eq_true c3
   have c3b1:decide (((a0.size:Int):Int).toNat≤281474976710656)=true:=decide_eq_true c3
   clear c3
   obtain ⟨y101,hy101⟩:∃ y_:List Int,y_=(List.replicate ((a0.size:Int):Int).toNat 0):=⟨_,rfl⟩
   replace H:(words_Turn.l0 k a0 y101 (a0.size:Int) 0)=some r:=by first | (rw [hy101];with_reducible exact H) | (have H2_:=(Option.bind_some _ _).symm.trans H;rw [hy101];with_reducible exact H2_) | (have H2_:=(Option.bind_some _ _).symm.trans H;with_reducible exact H2_) | with_reducible exact H | (rw [hy101];exact H) | exact H
   have Ny101:=amk hy101
   clear hy101
   have H':=amk H
   clear H
   go_enter Try.func74,Try.ntmps74
   go_wp2_with (first | ((with_reducible refine gate_dst (N:=7) rfl ?_);refine Kd.R_make (Kd.int .u8) _ 5 rfl (N:=7) rfl 75 _ _ rfl (a0.size:Int) rfl rfl Try.underlying75 (.int .u8 0) 1 info5 rfl (by decide) (by omega) 0 (ok:=fun _=>True) (okp:=fun _=>True) rfl (fun _ hk=>hk) trivial (of_decide_eq_true (by first | (with_reducible assumption) | assumption)) (Nat.le_trans (Nat.mul_le_mul_right _ (of_decide_eq_true (by first | (with_reducible assumption) | assumption):(a0.size:Int).toNat≤281474976710656)) (by omega)) (Below.refl _ _) (Nat.le_refl _) ?_;intro v102 w4 ho5 hb hg_ hnew_;clear hg_ hnew_;(first | rw [← Ny101.out] at ho5 | (simp only [Int.reduceToNat] at ho5;rw [← Ny101.out] at ho5));have n0_:=amk (Kd.R_lower ho5 (below_size (by repeat (first | (with_reducible first | exact HB.out | apply bwa | apply pwd | apply bwd) | exact HB.out))));have n1_:=amk (bws (by repeat (first | (with_reducible first | exact HB.out | apply bwa | apply pwd | apply bwd) | exact HB.out)) hb);clear HB;have HO103:=n0_;have HB:=n1_;clear n0_ n1_;clear hb ho5))
   go_loopg [10] k (fun kq v10 w'=>∃ (x3_1:List Int) (x10_1:Int),v10=.int .i64 x10_1∧Aside0 (words_Turn.l0 kq a0 x3_1 (a0.size:Int) x10_1=some r)∧Aside0 (kq≤k)∧Aside0 (Kd.R (Kd.int .u8) 5 w' w.heap.size (fun _=>True) v102 x3_1)∧Aside0 (Below w.heap.size w w'))
   case atStart=>exact ⟨(y101),(0),(by first | rfl | (simp;done) | (simp [*];done)),H',⟨Nat.le_refl _⟩,⟨by (with_reducible repeat (first | apply Kd.R_alloc | apply Kd.R_drewN | apply Kd.R_drew));exact HO103.out⟩,⟨by repeat (first | (with_reducible first | exact HB.out | apply bwa | apply pwd | apply bwd) | exact HB.out)⟩⟩
   case round =>
    clear H'
    try clear c2
    try clear c2b0
    try clear c2b1
    try clear p2
    try clear c3
    try clear c3b0
    try clear c3b1
    obtain ⟨x3_1,x10_1,rfl,HA,HK1,HO_3,HB⟩:=hrel
    cases gk with
    | zero=>exact absurd HA.out (by simp [words_Turn.l0])
    | succ k1 =>
     have H:=HA.out
     clear HA
     simp only [words_Turn.l0] at H
     by_cases c6:x10_1 < (a0.size:Int)
     ·rw [if_pos c6] at H
      have c6b0:decide (x10_1 < (a0.size:Int))=true:=decide_eq_true c6
      clear c6
      by_cases c7:0≤x10_1
      ·rw [if_pos c7] at H
       have c7b0:decide (0≤x10_1)=true:=decide_eq_true c7
       clear c7
       by_cases c8:x10_1 < (a0.size:Int)
       ·rw [if_pos c8] at H
        have c8b0:decide (x10_1 < (a0.size:Int))=true:=decide_eq_true c8
        clear c8
        obtain ⟨ji10,hji10⟩:∃ j_:Int,(wrap64 ((wrap64 ((a0.size:Int) - 1)) - x10_1))=j_:=⟨_,rfl⟩
        replace H:(if 0≤(ji10) then (if (ji10) < (x3_1.length:Int) then (words_Turn.l0 k1 a0 (x3_1.set ((ji10):Int).toNat (bt a0 x10_1)) (a0.size:Int) (wrap64 (x10_1+1))) else (none)) else (none))=some r:=by first | (rw [hji10] at H;exact H) | (simp only [hji10] at H ⊢; exact H)
        have hji10w:(IntKind.i64.wrap ((wrap64 ((a0.size:Int) - 1)) - x10_1))=ji10:=(i64_w _).trans hji10
        by_cases c11:0≤(ji10)
        ·rw [if_pos c11] at H
         have c11b0:decide (0≤(ji10))=true:=decide_eq_true c11
         clear c11
         by_cases c12:(ji10) < (x3_1.length:Int)
         ·rw [if_pos c12] at H
          have c12b0:decide ((ji10) < (x3_1.length:Int))=true:=decide_eq_true c12
          clear c12
          obtain ⟨y104,hy104⟩:∃ y_:List Int,y_=(x3_1.set ((ji10):Int).toNat (bt a0 x10_1)):=⟨_,rfl⟩
          replace H:(words_Turn.l0 k1 a0 y104 (a0.size:Int) (wrap64 (x10_1+1)))=some r:=by first | (rw [hy104];with_reducible exact H) | (have H2_:=(Option.bind_some _ _).symm.trans H;rw [hy104];with_reducible exact H2_) | (have H2_:=(Option.bind_some _ _).symm.trans H;with_reducible exact H2_) | with_reducible exact H | (rw [hy104];exact H) | exact H
          have Ny104:=amk hy104
          clear hy104
          have H':=amk H
          clear H
          have p9:0≤(x10_1:Int):=of_decide_eq_true (by first | (with_reducible assumption) | assumption)
          have q9:x10_1 < (a0.size:Int):=of_decide_eq_true (by first | (with_reducible assumption) | assumption)
          have hx9:=bt_at a0 x10_1
          replace p9:=eq_true p9
          replace q9:=eq_true q9
          have p13:0≤((ji10):Int):=of_decide_eq_true (by first | (with_reducible assumption) | assumption)
          have q13:((ji10):Int) < ((x3_1.length:Int):Int):=of_decide_eq_true (by first | (with_reducible assumption) | assumption)
          obtain ⟨go13,co13,eo13,gb13,gl13,cl13,HG13⟩:=Kd.R_form HO_3.out (by omega)
          (first | cases eo13 | (injection eo13 with ea_ en_ ec_;(first | subst ea_ | (injection ea_ with ea_;subst ea_));subst ec_;clear en_))
          have GB13:=amk gb13
          have GG13:=amk HG13
          clear gb13 gl13 HG13
          obtain ⟨hx13_0,hf13_0⟩:=Kd.R_celln 0 HO_3.out ((ji10):Int) p13 q13
          replace p13:=eq_true p13
          replace q13:=eq_true q13
          have HP14:=Kd.R_putg HO_3.out ((ji10):Int) (bt a0 x10_1)
          go_wp2_with (first | ((with_reducible refine gate_store (t:=5) (p:=22) rfl ?_);refine store_event (t:=5) (p:=22) (v:=?vo_w15) (w1:=(wr.setCell ⟨go13,((ji10):Int).toNat,none⟩ (.int .u8 (bt a0 x10_1)))) ?hg ?ho ?hn ?hr ?_;(case ho=>rfl);(case hg=>rfl);(case hn=>rfl);(case hr=>first | (go_simp;done) | (go_simp;rfl));intro w15 hw;have hg:wr.grownBy w15 (some go13):=(by rw [hw];exact HP14.2);have hp_:Kd.R (Kd.int .u8) 5 w15 w.heap.size (fun _=>True) (.slice (some ⟨go13,0,none⟩) x3_1.length co13) y104:=(by rw [hw,Ny104.out];exact HP14.1);clear HP14;have n0_:=amk (hp_);have n1_:=amk ((by rw [hw];exact bwt (HB.out) GB13.out:Below w.heap.size w w15));clear HO_3;clear HB;have HO_3:=n0_;have HB:=n1_;clear n0_ n1_;clear hg hw hp_))
          go_roundg k1
          case measure=>have:=HK1.out;omega
          case rel=>exact ⟨(y104),(wrap64 (x10_1+1)),(by first | rfl | (simp;done) | (simp [*];done)),H',⟨by have:=HK1.out;omega⟩,⟨by (with_reducible repeat (first | apply Kd.R_alloc | apply Kd.R_drewN | apply Kd.R_drew));exact HO_3.out⟩,⟨by repeat (first | (with_reducible first | exact HB.out | apply bwa | apply pwd | apply bwd) | exact HB.out)⟩⟩
         ·rw [if_neg c12] at H
          exact absurd H (by simp)
        ·rw [if_neg c11] at H
         exact absurd H (by simp)
       ·rw [if_neg c8] at H
        exact absurd H (by simp)
      ·rw [if_neg c7] at H
       exact absurd H (by simp)
     ·rw [if_neg c6] at H
      have c6b0:decide (x10_1 < (a0.size:Int))=false:=decide_eq_false c6
      clear c6
      obtain rfl:=Option.some.inj H
      have hcv16:=own_string (P:=Try.prog) Try.underlying75 Try.underlying5 Try.underlying9 (Kd.own_of_R HO_3.out)
      go_wp2
      go_ret
      exact ⟨by first | rfl | (simp [eWn,eWs] <;> rfl) | (simp [*,eWn,eWs] <;> rfl),by repeat (first | (with_reducible first | exact HB.out | apply bwa | apply pwd | apply bwd) | exact HB.out)⟩
  ·rw [if_neg c3] at H
   exact absurd H (by simp)
 ·rw [if_neg c2] at H
  exact absurd H (by simp)

end Go.Proofs.Ytkgbhlcbjflnlaa.P
