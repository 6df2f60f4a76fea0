/- What functions of the program compute, each with the walk that shows it: by a program (a turned copy of the kit's print; wip/myprint.py). -/
import Derived.Test.YtkgbhlcbjflnlaaZPx0
namespace Go.Proofs.Ytkgbhlcbjflnlaa.P
open Go.RowKit Go.Proofs.YtkgbhlcbjflnlaaW.PrintWords Go.Proofs.YtkgbhlcbjflnlaaW.PrintLast Go.Proofs.YtkgbhlcbjflnlaaW.PrintMore
attribute [local go_sem] max2_int min2_int max_two min_two max_three min_three max_four min_four   -- for this text's walks alone
set_option linter.unusedVariables false
set_option linter.unusedSimpArgs false

/-! ### aqueductref11_Check: function 24 -/
mutual
def aqueductref11_Check.l0:Nat→Bool→Int→Int→List Int→ByteArray→Int→Option (Int)
 | 0,_,_,_,_,_,_=>none
 | k+1,x3,x4,x245000,x245001,x245002,x245003=>if x4≤128 then (if x3=true then (aqueductref11_Check.l0 k true (wrap64 (x4 * 2)) x245000 x245001 x245002 x245003) else (aqueductref11_Check.l0 k ((x245001.length:Int) == x4) (wrap64 (x4 * 2)) x245000 x245001 x245002 x245003)) else (if x3=true then (if x245000 ≥ 0 then (if x245000≤126 then (if (Int.tmod x245000 2)=0 then (if (x245002.size:Int) ≥ 4 then (if (x245002.size:Int)≤52 then (if x245003 ≥ 0 then (aqueductref11_Check.j1 k (decide (x245003≤7)) x245000 x245001 x245002 x245003) else (aqueductref11_Check.j1 k false x245000 x245001 x245002 x245003)) else (aqueductref11_Check.j1 k false x245000 x245001 x245002 x245003)) else (aqueductref11_Check.j1 k false x245000 x245001 x245002 x245003)) else (aqueductref11_Check.j1 k false x245000 x245001 x245002 x245003)) else (aqueductref11_Check.j1 k false x245000 x245001 x245002 x245003)) else (aqueductref11_Check.j1 k false x245000 x245001 x245002 x245003)) else (aqueductref11_Check.j1 k false x245000 x245001 x245002 x245003))
def aqueductref11_Check.j1:Nat→Bool→Int→List Int→ByteArray→Int→Option (Int)
 | 0,_,_,_,_,_=>none
 | k+1,x5,x245000,x245001,x245002,x245003=>aqueductref11_Check.l1 k x5 0 x245000 x245001 x245002 x245003
def aqueductref11_Check.l1:Nat→Bool→Int→Int→List Int→ByteArray→Int→Option (Int)
 | 0,_,_,_,_,_,_=>none
 | k+1,x5,x6,x245000,x245001,x245002,x245003=>if x6 < (x245001.length:Int) then (if x5=true then (if 0≤x6 then (if (rd x245001 x6) ≥ 0 then (aqueductref11_Check.l1 k (decide ((rd x245001 x6)≤7)) (wrap64 (x6+1)) x245000 x245001 x245002 x245003) else (aqueductref11_Check.l1 k false (wrap64 (x6+1)) x245000 x245001 x245002 x245003)) else (none)) else (aqueductref11_Check.l1 k false (wrap64 (x6+1)) x245000 x245001 x245002 x245003)) else (if x5=true then (some 0) else (some 110))
end
def aqueductref11_Check.f (k:Nat) (a0_0:Int) (l0_1:List Int) (a0_2:ByteArray) (a0_3:Int):Option (Int):=aqueductref11_Check.l0 k false 1 a0_0 l0_1 a0_2 a0_3
theorem aqueductref11_Check.mono_l:∀ k,(∀ y0 y1 y2 y3 y4 y5,LeO (aqueductref11_Check.l0 k y0 y1 y2 y3 y4 y5) (aqueductref11_Check.l0 (k+1) y0 y1 y2 y3 y4 y5))∧(∀ y0 y1 y2 y3 y4,LeO (aqueductref11_Check.j1 k y0 y1 y2 y3 y4) (aqueductref11_Check.j1 (k+1) y0 y1 y2 y3 y4))∧(∀ y0 y1 y2 y3 y4 y5,LeO (aqueductref11_Check.l1 k y0 y1 y2 y3 y4 y5) (aqueductref11_Check.l1 (k+1) y0 y1 y2 y3 y4 y5))
 | 0=>⟨fun _ _ _ _ _ _ r h=>by simp [aqueductref11_Check.l0] at h,fun _ _ _ _ _ r h=>by simp [aqueductref11_Check.j1] at h,fun _ _ _ _ _ _ r h=>by simp [aqueductref11_Check.l1] at h⟩
 | k+1=>by
  obtain ⟨ih0,ih1,ih2⟩:=aqueductref11_Check.mono_l k
  refine ⟨?_,?_,?_⟩
  ·intro y0 y1 y2 y3 y4 y5
   unfold aqueductref11_Check.l0
   repeat' first
   | (with_reducible exact ih0 _ _ _ _ _ _)
   | (with_reducible exact ih1 _ _ _ _ _)
   | (with_reducible exact ih2 _ _ _ _ _ _)
   | (with_reducible exact LeO.refl _)
   | (with_reducible exact LeO.none _)
   | (with_reducible refine LeO.ite ?_ ?_)
   | (with_reducible refine LeO.bind ?_ (fun _=>?_))
   | exact ih0 _ _ _ _ _ _
   | exact ih1 _ _ _ _ _
   | exact ih2 _ _ _ _ _ _
   | exact LeO.none _
   | refine LeO.ite ?_ ?_
   | refine LeO.bind ?_ (fun _=>?_)
  ·intro y0 y1 y2 y3 y4
   unfold aqueductref11_Check.j1
   repeat' first
   | (with_reducible exact ih0 _ _ _ _ _ _)
   | (with_reducible exact ih1 _ _ _ _ _)
   | (with_reducible exact ih2 _ _ _ _ _ _)
   | (with_reducible exact LeO.refl _)
   | (with_reducible exact LeO.none _)
   | (with_reducible refine LeO.ite ?_ ?_)
   | (with_reducible refine LeO.bind ?_ (fun _=>?_))
   | exact ih0 _ _ _ _ _ _
   | exact ih1 _ _ _ _ _
   | exact ih2 _ _ _ _ _ _
   | exact LeO.none _
   | refine LeO.ite ?_ ?_
   | refine LeO.bind ?_ (fun _=>?_)
  ·intro y0 y1 y2 y3 y4 y5
   unfold aqueductref11_Check.l1
   repeat' first
   | (with_reducible exact ih0 _ _ _ _ _ _)
   | (with_reducible exact ih1 _ _ _ _ _)
   | (with_reducible exact ih2 _ _ _ _ _ _)
   | (with_reducible exact LeO.refl _)
   | (with_reducible exact LeO.none _)
   | (with_reducible refine LeO.ite ?_ ?_)
   | (with_reducible refine LeO.bind ?_ (fun _=>?_))
   | exact ih0 _ _ _ _ _ _
   | exact ih1 _ _ _ _ _
   | exact ih2 _ _ _ _ _ _
   | exact LeO.none _
   | refine LeO.ite ?_ ?_
   | refine LeO.bind ?_ (fun _=>?_)
theorem aqueductref11_Check.mono:∀ a0 a1 a2 a3 k,LeO (aqueductref11_Check.f k a0 a1 a2 a3) (aqueductref11_Check.f (k+1) a0 a1 a2 a3):=by
 intro a0 a1 a2 a3 k
 obtain ⟨ih0,ih1,ih2⟩:=aqueductref11_Check.mono_l k
 unfold aqueductref11_Check.f
 repeat' first
   | (with_reducible exact ih0 _ _ _ _ _ _)
   | (with_reducible exact ih1 _ _ _ _ _)
   | (with_reducible exact ih2 _ _ _ _ _ _)
   | (with_reducible exact LeO.refl _)
   | (with_reducible exact LeO.none _)
   | (with_reducible refine LeO.ite ?_ ?_)
   | (with_reducible refine LeO.bind ?_ (fun _=>?_))
   | exact ih0 _ _ _ _ _ _
   | exact ih1 _ _ _ _ _
   | exact ih2 _ _ _ _ _ _
   | exact LeO.none _
   | refine LeO.ite ?_ ?_
   | refine LeO.bind ?_ (fun _=>?_)
set_option maxHeartbeats 8000000 in
set_option maxRecDepth 100000 in
theorem aqueductref11_Check.calls (k:Nat) (a0_0:Int) (A0_1:Option Addr) (c0_1:Nat) (l0_1:List Int) (a0_2:ByteArray) (a0_3:Int) (r:Int) (w:World) (hr0_1:Kd.C (Kd.int .i64) w A0_1 l0_1.length l0_1) (hc0_1:l0_1.length≤c0_1) (h:aqueductref11_Check.f k a0_0 l0_1 a0_2 a0_3=some r) :
  Calls Try.prog 24 #[.agg #[.int .i64 a0_0,.slice A0_1 l0_1.length c0_1,.string a0_2,.int .i64 a0_3]] w fun e w'=>e=.returned (.int .i64 r)∧Below w.heap.size w w':=by
 have hu27:=Try.underlying27
 have HR0_1:=amk hr0_1
 have HC0_1:=amk hc0_1
 clear hr0_1 hc0_1
 have HB:=amk (Below.refl w.heap.size w)
 have H:(aqueductref11_Check.l0 k false 1 a0_0 l0_1 a0_2 a0_3)=some r:=h
 clear h
 have H':=amk H
 clear H
 go_enter Try.func24,Try.ntmps24
 go_wp2_with (first | ((with_reducible refine gate_dst (N:=1) rfl ?_);(try (refine gate_guard (by rfl) ?_;dsimp only));refine box_event ?hg (N:=1) ?hd (cs:=#[.int .i64 a0_0,.slice A0_1 l0_1.length c0_1,.string a0_2,.int .i64 a0_3]) (t:=27) ?hr ?_;(case hd=>rfl);(case hg=>rfl);(case hr=>first | (go_simp;done) | (go_simp;rfl));intro gb244 hg w2 hbox hb;have n0_:=amk (bws (by repeat (first | (with_reducible first | exact HB.out | apply bwa | apply pwd | apply bwd) | exact HB.out)) hb);have n1_:=amk (hbox);have n2_:=amk ((by rw [hg];exact (below_size (by repeat (first | (with_reducible first | exact HB.out | apply bwa | apply pwd | apply bwd) | exact HB.out))):w.heap.size≤gb244));have n3_:=amk ((by rw [hg];exact (below_size (by repeat (first | (with_reducible first | exact HB.out | apply bwa | apply pwd | apply bwd) | exact HB.out))):w.heap.size≤gb244));clear HB;have HB:=n0_;have BK244:=n1_;have GW244:=n2_;have GE244:=n3_;clear n0_ n1_ n2_ n3_;clear hb hbox hg))
 go_loopg [3,4] k (fun kq v3 v4 w'=>∃ (x3_1:Bool) (x4_1:Int),v3=.bool x3_1∧v4=.int .i64 x4_1∧Aside0 (aqueductref11_Check.l0 kq x3_1 x4_1 a0_0 l0_1 a0_2 a0_3=some r)∧Aside0 (kq≤k)∧Aside0 (w'.heap[gb244]?=some (.cells #[.int .i64 a0_0,(.slice A0_1 l0_1.length c0_1),.string a0_2,.int .i64 a0_3] 27 (0,0)))∧Aside0 (Below w.heap.size w w'))
 case atStart=>exact ⟨(false),(1),(by first | rfl | (simp;done) | (simp [*];done)),(by first | rfl | (simp;done) | (simp [*];done)),H',⟨Nat.le_refl _⟩,⟨by (with_reducible repeat (first | refine bkN ?_ _ | refine blk_drew ?_ | refine bka ?_ _));exact BK244.out⟩,⟨by repeat (first | (with_reducible first | exact HB.out | apply bwa | apply pwd | apply bwd | refine bwt ?_ GE244.out) | exact HB.out)⟩⟩
 case round =>
  clear H'
  try clear c2
  try clear p2
  obtain ⟨x3_1,x4_1,rfl,rfl,HA,HK1,BK244,HB⟩:=hrel
  cases gk with
  | zero=>exact absurd HA.out (by simp [aqueductref11_Check.l0])
  | succ k1 =>
   have H:=HA.out
   clear HA
   simp only [aqueductref11_Check.l0] at H
   by_cases c3:x4_1≤128
   ·rw [if_pos c3] at H
    have c3b0:decide (x4_1≤128)=true:=decide_eq_true c3
    clear c3
    by_cases c4:x3_1=true
    ·subst c4
     have H1:(aqueductref11_Check.l0 k1 true (wrap64 (x4_1 * 2)) a0_0 l0_1 a0_2 a0_3)=some r:=by rw [if_pos rfl] at H;exact H
     clear H
     have H:=H1
     clear H1
     have H':=amk H
     clear H
     go_wp2
     go_roundg k1
     case measure=>have:=HK1.out;omega
     case rel=>exact ⟨(true),(wrap64 (x4_1 * 2)),(by first | rfl | (simp;done) | (simp [*];done)),(by first | rfl | (simp;done) | (simp [*];done)),H',⟨by have:=HK1.out;omega⟩,⟨by (with_reducible repeat (first | refine bkN ?_ _ | refine blk_drew ?_ | refine bka ?_ _));exact BK244.out⟩,⟨by repeat (first | (with_reducible first | exact HB.out | apply bwa | apply pwd | apply bwd | refine bwt ?_ GE244.out) | exact HB.out)⟩⟩
    ·replace c4:=Bool.eq_false_iff.mpr c4
     subst c4
     have H1:(aqueductref11_Check.l0 k1 ((l0_1.length:Int) == x4_1) (wrap64 (x4_1 * 2)) a0_0 l0_1 a0_2 a0_3)=some r:=by rw [if_neg (show ¬ (false=true) by decide)] at H;exact H
     clear H
     have H:=H1
     clear H1
     have H':=amk H
     clear H
     have hcz5_0:wr.cell? ⟨gb244,0,none⟩=some (.int .i64 a0_0):=(bkc BK244.out 0).trans rfl
     have hcz5_1:wr.cell? ⟨gb244,1,none⟩=some (.slice A0_1 l0_1.length c0_1):=(bkc BK244.out 1).trans rfl
     have hcz5_2:wr.cell? ⟨gb244,2,none⟩=some (.string a0_2):=(bkc BK244.out 2).trans rfl
     have hcz5_3:wr.cell? ⟨gb244,3,none⟩=some (.int .i64 a0_3):=(bkc BK244.out 3).trans rfl
     have hfz5_0:=bkf BK244.out 0
     have hfz5_1:=bkf BK244.out 1
     have hfz5_2:=bkf BK244.out 2
     have hfz5_3:=bkf BK244.out 3
     go_wp2
     go_roundg k1
     case measure=>have:=HK1.out;omega
     case rel=>exact ⟨(((l0_1.length:Int) == x4_1)),(wrap64 (x4_1 * 2)),(by first | rfl | (simp;done) | (simp [*];done)),(by first | rfl | (simp;done) | (simp [*];done)),H',⟨by have:=HK1.out;omega⟩,⟨by (with_reducible repeat (first | refine bkN ?_ _ | refine blk_drew ?_ | refine bka ?_ _));exact BK244.out⟩,⟨by repeat (first | (with_reducible first | exact HB.out | apply bwa | apply pwd | apply bwd | refine bwt ?_ GE244.out) | exact HB.out)⟩⟩
   ·rw [if_neg c3] at H
    have c3b0:decide (x4_1≤128)=false:=decide_eq_false c3
    clear c3
    have HC6:=amk H
    clear H
    go_upto_region 6 with (fail)
    go_cut [5] (fun v5 wc=>∃ (kq:Nat) (x5_5:Bool),v5=.bool x5_5∧Aside0 (aqueductref11_Check.j1 kq x5_5 a0_0 l0_1 a0_2 a0_3=some r)∧Aside0 (kq≤k1)∧Aside0 (wc.heap[gb244]?=some (.cells #[.int .i64 a0_0,(.slice A0_1 l0_1.length c0_1),.string a0_2,.int .i64 a0_3] 27 (0,0)))∧Aside0 (Below w.heap.size w wc))
    case first =>
     have H:=HC6.out
     clear HC6
     by_cases c7:x3_1=true
     ·subst c7
      have H1:(if a0_0 ≥ 0 then (if a0_0≤126 then (if (Int.tmod a0_0 2)=0 then (if (a0_2.size:Int) ≥ 4 then (if (a0_2.size:Int)≤52 then (if a0_3 ≥ 0 then (aqueductref11_Check.j1 k1 (decide (a0_3≤7)) a0_0 l0_1 a0_2 a0_3) else (aqueductref11_Check.j1 k1 false a0_0 l0_1 a0_2 a0_3)) else (aqueductref11_Check.j1 k1 false a0_0 l0_1 a0_2 a0_3)) else (aqueductref11_Check.j1 k1 false a0_0 l0_1 a0_2 a0_3)) else (aqueductref11_Check.j1 k1 false a0_0 l0_1 a0_2 a0_3)) else (aqueductref11_Check.j1 k1 false a0_0 l0_1 a0_2 a0_3)) else (aqueductref11_Check.j1 k1 false a0_0 l0_1 a0_2 a0_3))=some r:=by rw [if_pos rfl] at H;exact H
      clear H
      have H:=H1
      clear H1
      by_cases c8:a0_0 ≥ 0
      ·rw [if_pos c8] at H
       have c8b0:decide (0≤a0_0)=true:=decide_eq_true c8
       clear c8
       (first | rw [c8b0] | (simp only [i64_w,i32_w];rw [c8b0]) | skip)
       by_cases c9:a0_0≤126
       ·rw [if_pos c9] at H
        have c9b0:decide (a0_0≤126)=true:=decide_eq_true c9
        clear c9
        by_cases c10:(Int.tmod a0_0 2)=0
        ·rw [if_pos c10] at H
         have c10b0:((Int.tmod a0_0 2) == 0)=true:=beq_iff_eq.mpr c10
         have c10b1:((Int.tmod a0_0 2) != 0)=false:=bne_eq_false_iff_eq.mpr c10
         clear c10
         by_cases c11:(a0_2.size:Int) ≥ 4
         ·rw [if_pos c11] at H
          have c11b0:decide (4≤(a0_2.size:Int))=true:=decide_eq_true c11
          have c11b1:decide (4≤a0_2.size)=true:=decide_eq_true (by omega)
          clear c11
          by_cases c12:(a0_2.size:Int)≤52
          ·rw [if_pos c12] at H
           have c12b0:decide ((a0_2.size:Int)≤52)=true:=decide_eq_true c12
           have c12b1:decide (a0_2.size≤52)=true:=decide_eq_true (by omega)
           clear c12
           by_cases c13:a0_3 ≥ 0
           ·rw [if_pos c13] at H
            have c13b0:decide (0≤a0_3)=true:=decide_eq_true c13
            clear c13
            have H':=amk H
            clear H
            have hcz14_0:wr.cell? ⟨gb244,0,none⟩=some (.int .i64 a0_0):=(bkc BK244.out 0).trans rfl
            have hcz14_1:wr.cell? ⟨gb244,1,none⟩=some (.slice A0_1 l0_1.length c0_1):=(bkc BK244.out 1).trans rfl
            have hcz14_2:wr.cell? ⟨gb244,2,none⟩=some (.string a0_2):=(bkc BK244.out 2).trans rfl
            have hcz14_3:wr.cell? ⟨gb244,3,none⟩=some (.int .i64 a0_3):=(bkc BK244.out 3).trans rfl
            have hfz14_0:=bkf BK244.out 0
            have hfz14_1:=bkf BK244.out 1
            have hfz14_2:=bkf BK244.out 2
            have hfz14_3:=bkf BK244.out 3
            go_wp2
            go_meet
            case rel=>exact ⟨_,(decide (a0_3≤7)),(by first | rfl | (simp;done) | (simp [*];done)),H',⟨by have:=HK1.out;first | omega | exact Nat.le_refl _⟩,⟨by (with_reducible repeat (first | refine bkN ?_ _ | refine blk_drew ?_ | refine bka ?_ _));exact BK244.out⟩,⟨by repeat (first | (with_reducible first | exact HB.out | apply bwa | apply pwd | apply bwd | refine bwt ?_ GE244.out) | exact HB.out)⟩⟩
           ·rw [if_neg c13] at H
            have c13b0:decide (0≤a0_3)=false:=decide_eq_false c13
            clear c13
            have H':=amk H
            clear H
            have hcz15_0:wr.cell? ⟨gb244,0,none⟩=some (.int .i64 a0_0):=(bkc BK244.out 0).trans rfl
            have hcz15_1:wr.cell? ⟨gb244,1,none⟩=some (.slice A0_1 l0_1.length c0_1):=(bkc BK244.out 1).trans rfl
            have hcz15_2:wr.cell? ⟨gb244,2,none⟩=some (.string a0_2):=(bkc BK244.out 2).trans rfl
            have hcz15_3:wr.cell? ⟨gb244,3,none⟩=some (.int .i64 a0_3):=(bkc BK244.out 3).trans rfl
            have hfz15_0:=bkf BK244.out 0
            have hfz15_1:=bkf BK244.out 1
            have hfz15_2:=bkf BK244.out 2
            have hfz15_3:=bkf BK244.out 3
            go_wp2
            go_meet
            case rel=>exact ⟨_,(false),(by first | rfl | (simp;done) | (simp [*];done)),H',⟨by have:=HK1.out;first | omega | exact Nat.le_refl _⟩,⟨by (with_reducible repeat (first | refine bkN ?_ _ | refine blk_drew ?_ | refine bka ?_ _));exact BK244.out⟩,⟨by repeat (first | (with_reducible first | exact HB.out | apply bwa | apply pwd | apply bwd | refine bwt ?_ GE244.out) | exact HB.out)⟩⟩
          ·rw [if_neg c12] at H
           have c12b0:decide ((a0_2.size:Int)≤52)=false:=decide_eq_false c12
           have c12b1:decide (a0_2.size≤52)=false:=decide_eq_false (by omega)
           clear c12
           have H':=amk H
           clear H
           have hcz16_0:wr.cell? ⟨gb244,0,none⟩=some (.int .i64 a0_0):=(bkc BK244.out 0).trans rfl
           have hcz16_1:wr.cell? ⟨gb244,1,none⟩=some (.slice A0_1 l0_1.length c0_1):=(bkc BK244.out 1).trans rfl
           have hcz16_2:wr.cell? ⟨gb244,2,none⟩=some (.string a0_2):=(bkc BK244.out 2).trans rfl
           have hcz16_3:wr.cell? ⟨gb244,3,none⟩=some (.int .i64 a0_3):=(bkc BK244.out 3).trans rfl
           have hfz16_0:=bkf BK244.out 0
           have hfz16_1:=bkf BK244.out 1
           have hfz16_2:=bkf BK244.out 2
           have hfz16_3:=bkf BK244.out 3
           go_wp2
           go_meet
           case rel=>exact ⟨_,(false),(by first | rfl | (simp;done) | (simp [*];done)),H',⟨by have:=HK1.out;first | omega | exact Nat.le_refl _⟩,⟨by (with_reducible repeat (first | refine bkN ?_ _ | refine blk_drew ?_ | refine bka ?_ _));exact BK244.out⟩,⟨by repeat (first | (with_reducible first | exact HB.out | apply bwa | apply pwd | apply bwd | refine bwt ?_ GE244.out) | exact HB.out)⟩⟩
         ·rw [if_neg c11] at H
          have c11b0:decide (4≤(a0_2.size:Int))=false:=decide_eq_false c11
          have c11b1:decide (4≤a0_2.size)=false:=decide_eq_false (by omega)
          clear c11
          have H':=amk H
          clear H
          have hcz17_0:wr.cell? ⟨gb244,0,none⟩=some (.int .i64 a0_0):=(bkc BK244.out 0).trans rfl
          have hcz17_1:wr.cell? ⟨gb244,1,none⟩=some (.slice A0_1 l0_1.length c0_1):=(bkc BK244.out 1).trans rfl
          have hcz17_2:wr.cell? ⟨gb244,2,none⟩=some (.string a0_2):=(bkc BK244.out 2).trans rfl
          have hcz17_3:wr.cell? ⟨gb244,3,none⟩=some (.int .i64 a0_3):=(bkc BK244.out 3).trans rfl
          have hfz17_0:=bkf BK244.out 0
          have hfz17_1:=bkf BK244.out 1
          have hfz17_2:=bkf BK244.out 2
          have hfz17_3:=bkf BK244.out 3
          go_wp2
          go_meet
          case rel=>exact ⟨_,(false),(by first | rfl | (simp;done) | (simp [*];done)),H',⟨by have:=HK1.out;first | omega | exact Nat.le_refl _⟩,⟨by (with_reducible repeat (first | refine bkN ?_ _ | refine blk_drew ?_ | refine bka ?_ _));exact BK244.out⟩,⟨by repeat (first | (with_reducible first | exact HB.out | apply bwa | apply pwd | apply bwd | refine bwt ?_ GE244.out) | exact HB.out)⟩⟩
        ·rw [if_neg c10] at H
         have c10b0:((Int.tmod a0_0 2) == 0)=false:=beq_eq_false_iff_ne.mpr c10
         have c10b1:((Int.tmod a0_0 2) != 0)=true:=bne_iff_ne.mpr c10
         have H':=amk H
         clear H
         have hcz18_0:wr.cell? ⟨gb244,0,none⟩=some (.int .i64 a0_0):=(bkc BK244.out 0).trans rfl
         have hcz18_1:wr.cell? ⟨gb244,1,none⟩=some (.slice A0_1 l0_1.length c0_1):=(bkc BK244.out 1).trans rfl
         have hcz18_2:wr.cell? ⟨gb244,2,none⟩=some (.string a0_2):=(bkc BK244.out 2).trans rfl
         have hcz18_3:wr.cell? ⟨gb244,3,none⟩=some (.int .i64 a0_3):=(bkc BK244.out 3).trans rfl
         have hfz18_0:=bkf BK244.out 0
         have hfz18_1:=bkf BK244.out 1
         have hfz18_2:=bkf BK244.out 2
         have hfz18_3:=bkf BK244.out 3
         go_wp2
         go_meet
         case rel=>exact ⟨_,(false),(by first | rfl | (simp;done) | (simp [*];done)),H',⟨by have:=HK1.out;first | omega | exact Nat.le_refl _⟩,⟨by (with_reducible repeat (first | refine bkN ?_ _ | refine blk_drew ?_ | refine bka ?_ _));exact BK244.out⟩,⟨by repeat (first | (with_reducible first | exact HB.out | apply bwa | apply pwd | apply bwd | refine bwt ?_ GE244.out) | exact HB.out)⟩⟩
       ·rw [if_neg c9] at H
        have c9b0:decide (a0_0≤126)=false:=decide_eq_false c9
        clear c9
        have H':=amk H
        clear H
        have hcz19_0:wr.cell? ⟨gb244,0,none⟩=some (.int .i64 a0_0):=(bkc BK244.out 0).trans rfl
        have hcz19_1:wr.cell? ⟨gb244,1,none⟩=some (.slice A0_1 l0_1.length c0_1):=(bkc BK244.out 1).trans rfl
        have hcz19_2:wr.cell? ⟨gb244,2,none⟩=some (.string a0_2):=(bkc BK244.out 2).trans rfl
        have hcz19_3:wr.cell? ⟨gb244,3,none⟩=some (.int .i64 a0_3):=(bkc BK244.out 3).trans rfl
        have hfz19_0:=bkf BK244.out 0
        have hfz19_1:=bkf BK244.out 1
        have hfz19_2:=bkf BK244.out 2
        have hfz19_3:=bkf BK244.out 3
        go_wp2
        go_meet
        case rel=>exact ⟨_,(false),(by first | rfl | (simp;done) | (simp [*];done)),H',⟨by have:=HK1.out;first | omega | exact Nat.le_refl _⟩,⟨by (with_reducible repeat (first | refine bkN ?_ _ | refine blk_drew ?_ | refine bka ?_ _));exact BK244.out⟩,⟨by repeat (first | (with_reducible first | exact HB.out | apply bwa | apply pwd | apply bwd | refine bwt ?_ GE244.out) | exact HB.out)⟩⟩
      ·rw [if_neg c8] at H
       have c8b0:decide (0≤a0_0)=false:=decide_eq_false c8
       clear c8
       (first | rw [c8b0] | (simp only [i64_w,i32_w];rw [c8b0]) | skip)
       have H':=amk H
       clear H
       have hcz20_0:wr.cell? ⟨gb244,0,none⟩=some (.int .i64 a0_0):=(bkc BK244.out 0).trans rfl
       have hcz20_1:wr.cell? ⟨gb244,1,none⟩=some (.slice A0_1 l0_1.length c0_1):=(bkc BK244.out 1).trans rfl
       have hcz20_2:wr.cell? ⟨gb244,2,none⟩=some (.string a0_2):=(bkc BK244.out 2).trans rfl
       have hcz20_3:wr.cell? ⟨gb244,3,none⟩=some (.int .i64 a0_3):=(bkc BK244.out 3).trans rfl
       have hfz20_0:=bkf BK244.out 0
       have hfz20_1:=bkf BK244.out 1
       have hfz20_2:=bkf BK244.out 2
       have hfz20_3:=bkf BK244.out 3
       go_wp2
       go_meet
       case rel=>exact ⟨_,(false),(by first | rfl | (simp;done) | (simp [*];done)),H',⟨by have:=HK1.out;first | omega | exact Nat.le_refl _⟩,⟨by (with_reducible repeat (first | refine bkN ?_ _ | refine blk_drew ?_ | refine bka ?_ _));exact BK244.out⟩,⟨by repeat (first | (with_reducible first | exact HB.out | apply bwa | apply pwd | apply bwd | refine bwt ?_ GE244.out) | exact HB.out)⟩⟩
     ·replace c7:=Bool.eq_false_iff.mpr c7
      subst c7
      have H1:(aqueductref11_Check.j1 k1 false a0_0 l0_1 a0_2 a0_3)=some r:=by rw [if_neg (show ¬ (false=true) by decide)] at H;exact H
      clear H
      have H:=H1
      clear H1
      have H':=amk H
      clear H
      go_wp2
      go_meet
      case rel=>exact ⟨_,(false),(by first | rfl | (simp;done) | (simp [*];done)),H',⟨by have:=HK1.out;first | omega | exact Nat.le_refl _⟩,⟨by (with_reducible repeat (first | refine bkN ?_ _ | refine blk_drew ?_ | refine bka ?_ _));exact BK244.out⟩,⟨by repeat (first | (with_reducible first | exact HB.out | apply bwa | apply pwd | apply bwd | refine bwt ?_ GE244.out) | exact HB.out)⟩⟩
    case rest =>
     clear HC6
     try clear c1
     try clear c2
     try clear p2
     try clear c3
     try clear c3b0
     try clear c4
     try clear p6
     try clear c7
     try clear c8
     try clear c8b0
     try clear c9
     try clear c9b0
     try clear c10
     try clear c10b0
     try clear c10b1
     try clear c11
     try clear c11b0
     try clear c11b1
     try clear c12
     try clear c12b0
     try clear c12b1
     try clear c13
     try clear c13b0
     try clear hcz14_0
     try clear hcz14_1
     try clear hcz14_2
     try clear hcz14_3
     try clear hcz15_0
     try clear hcz15_1
     try clear hcz15_2
     try clear hcz15_3
     try clear hcz16_0
     try clear hcz16_1
     try clear hcz16_2
     try clear hcz16_3
     try clear hcz17_0
     try clear hcz17_1
     try clear hcz17_2
     try clear hcz17_3
     try clear hcz18_0
     try clear hcz18_1
     try clear hcz18_2
     try clear hcz18_3
     try clear hcz19_0
     try clear hcz19_1
     try clear hcz19_2
     try clear hcz19_3
     try clear hcz20_0
     try clear hcz20_1
     try clear hcz20_2
     try clear hcz20_3
     try clear hcz5_0
     try clear hcz5_1
     try clear hcz5_2
     try clear hcz5_3
     try clear hfz14_0
     try clear hfz14_1
     try clear hfz14_2
     try clear hfz14_3
     try clear hfz15_0
     try clear hfz15_1
     try clear hfz15_2
     try clear hfz15_3
     try clear hfz16_0
     try clear hfz16_1
     try clear hfz16_2
     try clear hfz16_3
     try clear hfz17_0
     try clear hfz17_1
     try clear hfz17_2
     try clear hfz17_3
     try clear hfz18_0
     try clear hfz18_1
     try clear hfz18_2
     try clear hfz18_3
     try clear hfz19_0
     try clear hfz19_1
     try clear hfz19_2
     try clear hfz19_3
     try clear hfz20_0
     try clear hfz20_1
     try clear hfz20_2
     try clear hfz20_3
     try clear hfz5_0
     try clear hfz5_1
     try clear hfz5_2
     try clear hfz5_3
     try clear p2
     obtain ⟨kq,x5_5,rfl,HA,HJ5,BK244,HB⟩:=hcut
     cases kq with
     | zero=>exact absurd HA.out (by simp [aqueductref11_Check.j1])
     | succ kj5 =>
      have H:=HA.out
      clear HA
      simp only [aqueductref11_Check.j1] at H
      have H':=amk H
      clear H
      go_wp2
      go_loopg [5,6] kj5 (fun kq v5 v6 w'=>∃ (x5_3:Bool) (x6_3:Int),v5=.bool x5_3∧v6=.int .i64 x6_3∧Aside0 (aqueductref11_Check.l1 kq x5_3 x6_3 a0_0 l0_1 a0_2 a0_3=some r)∧Aside0 (kq≤kj5)∧Aside0 (w'.heap[gb244]?=some (.cells #[.int .i64 a0_0,(.slice A0_1 l0_1.length c0_1),.string a0_2,.int .i64 a0_3] 27 (0,0)))∧Aside0 (Below w.heap.size w w'))
      case atStart=>exact ⟨(x5_5),(0),(by first | rfl | (simp;done) | (simp [*];done)),(by first | rfl | (simp;done) | (simp [*];done)),H',⟨Nat.le_refl _⟩,⟨by (with_reducible repeat (first | refine bkN ?_ _ | refine blk_drew ?_ | refine bka ?_ _));exact BK244.out⟩,⟨by repeat (first | (with_reducible first | exact HB.out | apply bwa | apply pwd | apply bwd | refine bwt ?_ GE244.out) | exact HB.out)⟩⟩
      case round =>
       clear H'
       try clear c1
       try clear c2
       try clear p2
       try clear c3
       try clear c3b0
       try clear c4
       try clear p6
       try clear c7
       try clear c8
       try clear c8b0
       try clear c9
       try clear c9b0
       try clear c10
       try clear c10b0
       try clear c10b1
       try clear c11
       try clear c11b0
       try clear c11b1
       try clear c12
       try clear c12b0
       try clear c12b1
       try clear c13
       try clear c13b0
       try clear hcz14_0
       try clear hcz14_1
       try clear hcz14_2
       try clear hcz14_3
       try clear hcz15_0
       try clear hcz15_1
       try clear hcz15_2
       try clear hcz15_3
       try clear hcz16_0
       try clear hcz16_1
       try clear hcz16_2
       try clear hcz16_3
       try clear hcz17_0
       try clear hcz17_1
       try clear hcz17_2
       try clear hcz17_3
       try clear hcz18_0
       try clear hcz18_1
       try clear hcz18_2
       try clear hcz18_3
       try clear hcz19_0
       try clear hcz19_1
       try clear hcz19_2
       try clear hcz19_3
       try clear hcz20_0
       try clear hcz20_1
       try clear hcz20_2
       try clear hcz20_3
       try clear hcz5_0
       try clear hcz5_1
       try clear hcz5_2
       try clear hcz5_3
       try clear hfz14_0
       try clear hfz14_1
       try clear hfz14_2
       try clear hfz14_3
       try clear hfz15_0
       try clear hfz15_1
       try clear hfz15_2
       try clear hfz15_3
       try clear hfz16_0
       try clear hfz16_1
       try clear hfz16_2
       try clear hfz16_3
       try clear hfz17_0
       try clear hfz17_1
       try clear hfz17_2
       try clear hfz17_3
       try clear hfz18_0
       try clear hfz18_1
       try clear hfz18_2
       try clear hfz18_3
       try clear hfz19_0
       try clear hfz19_1
       try clear hfz19_2
       try clear hfz19_3
       try clear hfz20_0
       try clear hfz20_1
       try clear hfz20_2
       try clear hfz20_3
       try clear hfz5_0
       try clear hfz5_1
       try clear hfz5_2
       try clear hfz5_3
       try clear p2
       try clear p6
       obtain ⟨x5_3,x6_3,rfl,rfl,HA,HK3,BK244,HB⟩:=hrel
       cases gk with
       | zero=>exact absurd HA.out (by simp [aqueductref11_Check.l1])
       | succ k3 =>
        have H:=HA.out
        clear HA
        simp only [aqueductref11_Check.l1] at H
        by_cases c21:x6_3 < (l0_1.length:Int)
        ·rw [if_pos c21] at H
         have c21b0:decide (x6_3 < (l0_1.length:Int))=true:=decide_eq_true c21
         clear c21
         by_cases c22:x5_3=true
         ·subst c22
          have H1:(if 0≤x6_3 then (if (rd l0_1 x6_3) ≥ 0 then (aqueductref11_Check.l1 k3 (decide ((rd l0_1 x6_3)≤7)) (wrap64 (x6_3+1)) a0_0 l0_1 a0_2 a0_3) else (aqueductref11_Check.l1 k3 false (wrap64 (x6_3+1)) a0_0 l0_1 a0_2 a0_3)) else (none))=some r:=by rw [if_pos rfl] at H;exact H
          clear H
          have H:=H1
          clear H1
          by_cases c23:0≤x6_3
          ·rw [if_pos c23] at H
           have c23b0:decide (0≤x6_3)=true:=decide_eq_true c23
           clear c23
           by_cases c24:(rd l0_1 x6_3) ≥ 0
           ·rw [if_pos c24] at H
            have c24b0:decide (0≤(rd l0_1 x6_3))=true:=decide_eq_true c24
            clear c24
            have H':=amk H
            clear H
            have hcz25_0:wr.cell? ⟨gb244,0,none⟩=some (.int .i64 a0_0):=(bkc BK244.out 0).trans rfl
            have hcz25_1:wr.cell? ⟨gb244,1,none⟩=some (.slice A0_1 l0_1.length c0_1):=(bkc BK244.out 1).trans rfl
            have hcz25_2:wr.cell? ⟨gb244,2,none⟩=some (.string a0_2):=(bkc BK244.out 2).trans rfl
            have hcz25_3:wr.cell? ⟨gb244,3,none⟩=some (.int .i64 a0_3):=(bkc BK244.out 3).trans rfl
            have hfz25_0:=bkf BK244.out 0
            have hfz25_1:=bkf BK244.out 1
            have hfz25_2:=bkf BK244.out 2
            have hfz25_3:=bkf BK244.out 3
            have p245:0≤(x6_3:Int):=of_decide_eq_true (by first | (with_reducible assumption) | assumption)
            have q245:x6_3 < (l0_1.length:Int):=of_decide_eq_true (by first | (with_reducible assumption) | assumption)
            obtain ⟨ad245,e245,hx245_0⟩:=Kd.at_int HR0_1.out x6_3 p245 q245
            cases e245
            replace hx245_0:=(HB.out.cell (World.block_lt_of_cell? w _ hx245_0)).trans hx245_0
            replace p245:=eq_true p245
            replace q245:=eq_true q245
            have p246:0≤(x6_3:Int):=of_decide_eq_true (by first | (with_reducible assumption) | assumption)
            have q246:x6_3 < (l0_1.length:Int):=of_decide_eq_true (by first | (with_reducible assumption) | assumption)
            obtain ⟨ad246,e246,hx246_0⟩:=Kd.at_int HR0_1.out x6_3 p246 q246
            obtain rfl:ad245=ad246:=(by injection e246)
            replace hx246_0:=(HB.out.cell (World.block_lt_of_cell? w _ hx246_0)).trans hx246_0
            replace p246:=eq_true p246
            replace q246:=eq_true q246
            go_wp2
            go_roundg k3
            case measure=>have:=HK1.out;have:=HJ5.out;have:=HK3.out;omega
            case rel=>exact ⟨(decide ((rd l0_1 x6_3)≤7)),(wrap64 (x6_3+1)),(by first | rfl | (simp;done) | (simp [*];done)),(by first | rfl | (simp;done) | (simp [*];done)),H',⟨by have:=HK1.out;have:=HJ5.out;have:=HK3.out;omega⟩,⟨by (with_reducible repeat (first | refine bkN ?_ _ | refine blk_drew ?_ | refine bka ?_ _));exact BK244.out⟩,⟨by repeat (first | (with_reducible first | exact HB.out | apply bwa | apply pwd | apply bwd | refine bwt ?_ GE244.out) | exact HB.out)⟩⟩
           ·rw [if_neg c24] at H
            have c24b0:decide (0≤(rd l0_1 x6_3))=false:=decide_eq_false c24
            clear c24
            have H':=amk H
            clear H
            have hcz26_0:wr.cell? ⟨gb244,0,none⟩=some (.int .i64 a0_0):=(bkc BK244.out 0).trans rfl
            have hcz26_1:wr.cell? ⟨gb244,1,none⟩=some (.slice A0_1 l0_1.length c0_1):=(bkc BK244.out 1).trans rfl
            have hcz26_2:wr.cell? ⟨gb244,2,none⟩=some (.string a0_2):=(bkc BK244.out 2).trans rfl
            have hcz26_3:wr.cell? ⟨gb244,3,none⟩=some (.int .i64 a0_3):=(bkc BK244.out 3).trans rfl
            have hfz26_0:=bkf BK244.out 0
            have hfz26_1:=bkf BK244.out 1
            have hfz26_2:=bkf BK244.out 2
            have hfz26_3:=bkf BK244.out 3
            have p245:0≤(x6_3:Int):=of_decide_eq_true (by first | (with_reducible assumption) | assumption)
            have q245:x6_3 < (l0_1.length:Int):=of_decide_eq_true (by first | (with_reducible assumption) | assumption)
            obtain ⟨ad245,e245,hx245_0⟩:=Kd.at_int HR0_1.out x6_3 p245 q245
            cases e245
            replace hx245_0:=(HB.out.cell (World.block_lt_of_cell? w _ hx245_0)).trans hx245_0
            replace p245:=eq_true p245
            replace q245:=eq_true q245
            go_wp2
            go_roundg k3
            case measure=>have:=HK1.out;have:=HJ5.out;have:=HK3.out;omega
            case rel=>exact ⟨(false),(wrap64 (x6_3+1)),(by first | rfl | (simp;done) | (simp [*];done)),(by first | rfl | (simp;done) | (simp [*];done)),H',⟨by have:=HK1.out;have:=HJ5.out;have:=HK3.out;omega⟩,⟨by (with_reducible repeat (first | refine bkN ?_ _ | refine blk_drew ?_ | refine bka ?_ _));exact BK244.out⟩,⟨by repeat (first | (with_reducible first | exact HB.out | apply bwa | apply pwd | apply bwd | refine bwt ?_ GE244.out) | exact HB.out)⟩⟩
          ·rw [if_neg c23] at H
           exact absurd H (by simp)
         ·replace c22:=Bool.eq_false_iff.mpr c22
          subst c22
          have H1:(aqueductref11_Check.l1 k3 false (wrap64 (x6_3+1)) a0_0 l0_1 a0_2 a0_3)=some r:=by rw [if_neg (show ¬ (false=true) by decide)] at H;exact H
          clear H
          have H:=H1
          clear H1
          have H':=amk H
          clear H
          have hcz27_0:wr.cell? ⟨gb244,0,none⟩=some (.int .i64 a0_0):=(bkc BK244.out 0).trans rfl
          have hcz27_1:wr.cell? ⟨gb244,1,none⟩=some (.slice A0_1 l0_1.length c0_1):=(bkc BK244.out 1).trans rfl
          have hcz27_2:wr.cell? ⟨gb244,2,none⟩=some (.string a0_2):=(bkc BK244.out 2).trans rfl
          have hcz27_3:wr.cell? ⟨gb244,3,none⟩=some (.int .i64 a0_3):=(bkc BK244.out 3).trans rfl
          have hfz27_0:=bkf BK244.out 0
          have hfz27_1:=bkf BK244.out 1
          have hfz27_2:=bkf BK244.out 2
          have hfz27_3:=bkf BK244.out 3
          go_wp2
          go_roundg k3
          case measure=>have:=HK1.out;have:=HJ5.out;have:=HK3.out;omega
          case rel=>exact ⟨(false),(wrap64 (x6_3+1)),(by first | rfl | (simp;done) | (simp [*];done)),(by first | rfl | (simp;done) | (simp [*];done)),H',⟨by have:=HK1.out;have:=HJ5.out;have:=HK3.out;omega⟩,⟨by (with_reducible repeat (first | refine bkN ?_ _ | refine blk_drew ?_ | refine bka ?_ _));exact BK244.out⟩,⟨by repeat (first | (with_reducible first | exact HB.out | apply bwa | apply pwd | apply bwd | refine bwt ?_ GE244.out) | exact HB.out)⟩⟩
        ·rw [if_neg c21] at H
         have c21b0:decide (x6_3 < (l0_1.length:Int))=false:=decide_eq_false c21
         clear c21
         by_cases c28:x5_3=true
         ·subst c28
          have H1:(some 0)=some r:=by rw [if_pos rfl] at H;exact H
          clear H
          have H:=H1
          clear H1
          obtain rfl:=Option.some.inj H
          have hcz29_0:wr.cell? ⟨gb244,0,none⟩=some (.int .i64 a0_0):=(bkc BK244.out 0).trans rfl
          have hcz29_1:wr.cell? ⟨gb244,1,none⟩=some (.slice A0_1 l0_1.length c0_1):=(bkc BK244.out 1).trans rfl
          have hcz29_2:wr.cell? ⟨gb244,2,none⟩=some (.string a0_2):=(bkc BK244.out 2).trans rfl
          have hcz29_3:wr.cell? ⟨gb244,3,none⟩=some (.int .i64 a0_3):=(bkc BK244.out 3).trans rfl
          have hfz29_0:=bkf BK244.out 0
          have hfz29_1:=bkf BK244.out 1
          have hfz29_2:=bkf BK244.out 2
          have hfz29_3:=bkf BK244.out 3
          go_wp2
          go_ret
          exact ⟨by first | rfl | (simp [eWn,eWs] <;> rfl) | (simp [*,eWn,eWs] <;> rfl),by repeat (first | (with_reducible first | exact HB.out | apply bwa | apply pwd | apply bwd | refine bwt ?_ GE244.out) | exact HB.out)⟩
         ·replace c28:=Bool.eq_false_iff.mpr c28
          subst c28
          have H1:(some 110)=some r:=by rw [if_neg (show ¬ (false=true) by decide)] at H;exact H
          clear H
          have H:=H1
          clear H1
          obtain rfl:=Option.some.inj H
          have hcz30_0:wr.cell? ⟨gb244,0,none⟩=some (.int .i64 a0_0):=(bkc BK244.out 0).trans rfl
          have hcz30_1:wr.cell? ⟨gb244,1,none⟩=some (.slice A0_1 l0_1.length c0_1):=(bkc BK244.out 1).trans rfl
          have hcz30_2:wr.cell? ⟨gb244,2,none⟩=some (.string a0_2):=(bkc BK244.out 2).trans rfl
          have hcz30_3:wr.cell? ⟨gb244,3,none⟩=some (.int .i64 a0_3):=(bkc BK244.out 3).trans rfl
          have hfz30_0:=bkf BK244.out 0
          have hfz30_1:=bkf BK244.out 1
          have hfz30_2:=bkf BK244.out 2
          have hfz30_3:=bkf BK244.out 3
          go_wp2
          go_ret
          exact ⟨by first | rfl | (simp [eWn,eWs] <;> rfl) | (simp [*,eWn,eWs] <;> rfl),by repeat (first | (with_reducible first | exact HB.out | apply bwa | apply pwd | apply bwd | refine bwt ?_ GE244.out) | exact HB.out)⟩

end Go.Proofs.Ytkgbhlcbjflnlaa.P
