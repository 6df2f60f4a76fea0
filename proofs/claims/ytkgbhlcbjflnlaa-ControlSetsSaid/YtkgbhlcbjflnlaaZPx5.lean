/- What functions of the program compute, each with the walk that shows it: by a program (a turned copy of the kit's print; wip/myprint.py). -/
import Derived.Test.YtkgbhlcbjflnlaaZPx0
namespace Go.Proofs.Ytkgbhlcbjflnlaa.P
open Go.RowKit Go.Proofs.YtkgbhlcbjflnlaaW.PrintWords Go.Proofs.YtkgbhlcbjflnlaaW.PrintLast Go.Proofs.YtkgbhlcbjflnlaaW.PrintMore
attribute [local go_sem] max2_int min2_int max_two min_two max_three min_three max_four min_four   -- for this text's walks alone
set_option linter.unusedVariables false
set_option linter.unusedSimpArgs false

/-! ### rss_Check: function 57 -/
mutual
def rss_Check.j0:Nat→Bool→Int→List Int→ByteArray→Int→Option (Int)
 | 0,_,_,_,_,_=>none
 | k+1,x49,x138000,x138001,x138002,x138003=>if x49=true then (some 110) else (rss_Check.l0 k x138001 (x138001.length:Int) 0)
def rss_Check.l0:Nat→List Int→Int→Int→Option (Int)
 | 0,_,_,_=>none
 | k+1,x51,x52,x53=>if x53 < x52 then (if 0≤x53 then (if x53 < (x51.length:Int) then (if (rd x51 x53) < 0 then (some 110) else (if (rd x51 x53) ≥ 8 then (some 110) else (rss_Check.l0 k x51 x52 (wrap64 (x53+1))))) else (none)) else (none)) else (some 0)
end
def rss_Check.f (k:Nat) (a0_0:Int) (l0_1:List Int) (a0_2:ByteArray) (a0_3:Int):Option (Int):=if (Go.bits .andNot .i64 a0_0 126)=0 then (if (l0_1.length:Int) < 1 then (rss_Check.j0 k true a0_0 l0_1 a0_2 a0_3) else (if (l0_1.length:Int) > 128 then (rss_Check.j0 k true a0_0 l0_1 a0_2 a0_3) else (if (Go.bits .and .i64 (l0_1.length:Int) (wrap64 ((l0_1.length:Int) - 1)))=0 then (if (a0_2.size:Int) < 4 then (rss_Check.j0 k true a0_0 l0_1 a0_2 a0_3) else (if (a0_2.size:Int) > 52 then (rss_Check.j0 k true a0_0 l0_1 a0_2 a0_3) else (if a0_3 < 0 then (rss_Check.j0 k true a0_0 l0_1 a0_2 a0_3) else (rss_Check.j0 k (decide (a0_3 ≥ 8)) a0_0 l0_1 a0_2 a0_3)))) else (rss_Check.j0 k true a0_0 l0_1 a0_2 a0_3)))) else (rss_Check.j0 k true a0_0 l0_1 a0_2 a0_3)
theorem rss_Check.mono_l:∀ k,(∀ y0 y1 y2 y3 y4,LeO (rss_Check.j0 k y0 y1 y2 y3 y4) (rss_Check.j0 (k+1) y0 y1 y2 y3 y4))∧(∀ y0 y1 y2,LeO (rss_Check.l0 k y0 y1 y2) (rss_Check.l0 (k+1) y0 y1 y2))
 | 0=>⟨fun _ _ _ _ _ r h=>by simp [rss_Check.j0] at h,fun _ _ _ r h=>by simp [rss_Check.l0] at h⟩
 | k+1=>by
  obtain ⟨ih0,ih1⟩:=rss_Check.mono_l k
  refine ⟨?_,?_⟩
  ·intro y0 y1 y2 y3 y4
   unfold rss_Check.j0
   repeat' first
   | (with_reducible exact ih0 _ _ _ _ _)
   | (with_reducible exact ih1 _ _ _)
   | (with_reducible exact LeO.refl _)
   | (with_reducible exact LeO.none _)
   | (with_reducible refine LeO.ite ?_ ?_)
   | (with_reducible refine LeO.bind ?_ (fun _=>?_))
   | exact ih0 _ _ _ _ _
   | exact ih1 _ _ _
   | exact LeO.none _
   | refine LeO.ite ?_ ?_
   | refine LeO.bind ?_ (fun _=>?_)
  ·intro y0 y1 y2
   unfold rss_Check.l0
   repeat' first
   | (with_reducible exact ih0 _ _ _ _ _)
   | (with_reducible exact ih1 _ _ _)
   | (with_reducible exact LeO.refl _)
   | (with_reducible exact LeO.none _)
   | (with_reducible refine LeO.ite ?_ ?_)
   | (with_reducible refine LeO.bind ?_ (fun _=>?_))
   | exact ih0 _ _ _ _ _
   | exact ih1 _ _ _
   | exact LeO.none _
   | refine LeO.ite ?_ ?_
   | refine LeO.bind ?_ (fun _=>?_)
theorem rss_Check.mono:∀ a0 a1 a2 a3 k,LeO (rss_Check.f k a0 a1 a2 a3) (rss_Check.f (k+1) a0 a1 a2 a3):=by
 intro a0 a1 a2 a3 k
 obtain ⟨ih0,ih1⟩:=rss_Check.mono_l k
 unfold rss_Check.f
 repeat' first
   | (with_reducible exact ih0 _ _ _ _ _)
   | (with_reducible exact ih1 _ _ _)
   | (with_reducible exact LeO.refl _)
   | (with_reducible exact LeO.none _)
   | (with_reducible refine LeO.ite ?_ ?_)
   | (with_reducible refine LeO.bind ?_ (fun _=>?_))
   | exact ih0 _ _ _ _ _
   | exact ih1 _ _ _
   | exact LeO.none _
   | refine LeO.ite ?_ ?_
   | refine LeO.bind ?_ (fun _=>?_)
set_option maxHeartbeats 8000000 in
set_option maxRecDepth 100000 in
theorem rss_Check.calls (k:Nat) (a0_0:Int) (A0_1:Option Addr) (c0_1:Nat) (l0_1:List Int) (a0_2:ByteArray) (a0_3:Int) (r:Int) (w:World) (hr0_1:Kd.C (Kd.int .i64) w A0_1 l0_1.length l0_1) (hc0_1:l0_1.length≤c0_1) (h:rss_Check.f k a0_0 l0_1 a0_2 a0_3=some r) :
  Calls Try.prog 57 #[.agg #[.int .i64 a0_0,.slice A0_1 l0_1.length c0_1,.string a0_2,.int .i64 a0_3]] w fun e w'=>e=.returned (.int .i64 r)∧Below w.heap.size w w':=by
 have hu27:=Try.underlying27
 have HR0_1:=amk hr0_1
 have HC0_1:=amk hc0_1
 clear hr0_1 hc0_1
 have HB:=amk (Below.refl w.heap.size w)
 have H:(if (Go.bits .andNot .i64 a0_0 126)=0 then (if (l0_1.length:Int) < 1 then (rss_Check.j0 k true a0_0 l0_1 a0_2 a0_3) else (if (l0_1.length:Int) > 128 then (rss_Check.j0 k true a0_0 l0_1 a0_2 a0_3) else (if (Go.bits .and .i64 (l0_1.length:Int) (wrap64 ((l0_1.length:Int) - 1)))=0 then (if (a0_2.size:Int) < 4 then (rss_Check.j0 k true a0_0 l0_1 a0_2 a0_3) else (if (a0_2.size:Int) > 52 then (rss_Check.j0 k true a0_0 l0_1 a0_2 a0_3) else (if a0_3 < 0 then (rss_Check.j0 k true a0_0 l0_1 a0_2 a0_3) else (rss_Check.j0 k (decide (a0_3 ≥ 8)) a0_0 l0_1 a0_2 a0_3)))) else (rss_Check.j0 k true a0_0 l0_1 a0_2 a0_3)))) else (rss_Check.j0 k true a0_0 l0_1 a0_2 a0_3))=some r:=h
 clear h
 have HC2:=amk H
 clear H
 go_enter Try.func57,Try.ntmps57
 go_upto_region 2 with (first | ((with_reducible refine gate_dst (N:=1) rfl ?_);(try (refine gate_guard (by rfl) ?_;dsimp only));refine box_event ?hg (N:=1) ?hd (cs:=#[.int .i64 a0_0,.slice A0_1 l0_1.length c0_1,.string a0_2,.int .i64 a0_3]) (t:=27) ?hr ?_;(case hd=>rfl);(case hg=>rfl);(case hr=>first | (go_simp;done) | (go_simp;rfl));intro gb137 hg w3 hbox hb;have n0_:=amk (bws (by repeat (first | (with_reducible first | exact HB.out | apply bwa | apply pwd | apply bwd) | exact HB.out)) hb);have n1_:=amk (hbox);have n2_:=amk ((by rw [hg];exact (below_size (by repeat (first | (with_reducible first | exact HB.out | apply bwa | apply pwd | apply bwd) | exact HB.out))):w.heap.size≤gb137));have n3_:=amk ((by rw [hg];exact (below_size (by repeat (first | (with_reducible first | exact HB.out | apply bwa | apply pwd | apply bwd) | exact HB.out))):w.heap.size≤gb137));clear HB;have HB:=n0_;have BK137:=n1_;have GW137:=n2_;have GE137:=n3_;clear n0_ n1_ n2_ n3_;clear hb hbox hg;have hcz4_0:w3.cell? ⟨gb137,0,none⟩=some (.int .i64 a0_0):=(bkc BK137.out 0).trans rfl;have hcz4_1:w3.cell? ⟨gb137,1,none⟩=some (.slice A0_1 l0_1.length c0_1):=(bkc BK137.out 1).trans rfl;have hcz4_2:w3.cell? ⟨gb137,2,none⟩=some (.string a0_2):=(bkc BK137.out 2).trans rfl;have hcz4_3:w3.cell? ⟨gb137,3,none⟩=some (.int .i64 a0_3):=(bkc BK137.out 3).trans rfl;have hfz4_0:=bkf BK137.out 0;have hfz4_1:=bkf BK137.out 1;have hfz4_2:=bkf BK137.out 2;have hfz4_3:=bkf BK137.out 3))
 (try simp only [Act.put,List.setIfInBounds_toArray,List.set_cons_zero,List.set_cons_succ])
 go_cut [49] (fun v49 wc=>∃ (kq:Nat) (x49_1:Bool),v49=.bool x49_1∧Aside0 (rss_Check.j0 kq x49_1 a0_0 l0_1 a0_2 a0_3=some r)∧Aside0 (kq≤k)∧Aside0 (wc.heap[gb137]?=some (.cells #[.int .i64 a0_0,(.slice A0_1 l0_1.length c0_1),.string a0_2,.int .i64 a0_3] 27 (0,0)))∧Aside0 (Below w.heap.size w wc))
 case first =>
  have H:=HC2.out
  clear HC2
  by_cases c5:(Go.bits .andNot .i64 a0_0 126)=0
  ·rw [if_pos c5] at H
   have c5b0:((Go.bits .andNot .i64 a0_0 126) == 0)=true:=beq_iff_eq.mpr c5
   have c5b1:((Go.bits .andNot .i64 a0_0 126) != 0)=false:=bne_eq_false_iff_eq.mpr c5
   clear c5
   (first | rw [c5b0] | (simp only [i64_w,i32_w];rw [c5b0]) | skip)
   by_cases c6:(l0_1.length:Int) < 1
   ·rw [if_pos c6] at H
    have c6b0:decide ((l0_1.length:Int) < 1)=true:=decide_eq_true c6
    have c6b1:decide (l0_1.length < 1)=true:=decide_eq_true (by omega)
    clear c6
    have H':=amk H
    clear H
    have hcz7_0:w3.cell? ⟨gb137,0,none⟩=some (.int .i64 a0_0):=(bkc BK137.out 0).trans rfl
    have hcz7_1:w3.cell? ⟨gb137,1,none⟩=some (.slice A0_1 l0_1.length c0_1):=(bkc BK137.out 1).trans rfl
    have hcz7_2:w3.cell? ⟨gb137,2,none⟩=some (.string a0_2):=(bkc BK137.out 2).trans rfl
    have hcz7_3:w3.cell? ⟨gb137,3,none⟩=some (.int .i64 a0_3):=(bkc BK137.out 3).trans rfl
    have hfz7_0:=bkf BK137.out 0
    have hfz7_1:=bkf BK137.out 1
    have hfz7_2:=bkf BK137.out 2
    have hfz7_3:=bkf BK137.out 3
    go_wp2
    go_meet
    case rel=>exact ⟨_,(true),(by first | rfl | (simp;done) | (simp [*];done)),H',⟨by first | omega | exact Nat.le_refl _⟩,⟨by (with_reducible repeat (first | refine bkN ?_ _ | refine blk_drew ?_ | refine bka ?_ _));exact BK137.out⟩,⟨by repeat (first | (with_reducible first | exact HB.out | apply bwa | apply pwd | apply bwd | refine bwt ?_ GE137.out) | exact HB.out)⟩⟩
   ·rw [if_neg c6] at H
    have c6b0:decide ((l0_1.length:Int) < 1)=false:=decide_eq_false c6
    have c6b1:decide (l0_1.length < 1)=false:=decide_eq_false (by omega)
    clear c6
    by_cases c8:(l0_1.length:Int) > 128
    ·rw [if_pos c8] at H
     have c8b0:decide (128 < (l0_1.length:Int))=true:=decide_eq_true c8
     have c8b1:decide (128 < l0_1.length)=true:=decide_eq_true (by omega)
     clear c8
     have H':=amk H
     clear H
     have hcz9_0:w3.cell? ⟨gb137,0,none⟩=some (.int .i64 a0_0):=(bkc BK137.out 0).trans rfl
     have hcz9_1:w3.cell? ⟨gb137,1,none⟩=some (.slice A0_1 l0_1.length c0_1):=(bkc BK137.out 1).trans rfl
     have hcz9_2:w3.cell? ⟨gb137,2,none⟩=some (.string a0_2):=(bkc BK137.out 2).trans rfl
     have hcz9_3:w3.cell? ⟨gb137,3,none⟩=some (.int .i64 a0_3):=(bkc BK137.out 3).trans rfl
     have hfz9_0:=bkf BK137.out 0
     have hfz9_1:=bkf BK137.out 1
     have hfz9_2:=bkf BK137.out 2
     have hfz9_3:=bkf BK137.out 3
     go_wp2
     go_meet
     case rel=>exact ⟨_,(true),(by first | rfl | (simp;done) | (simp [*];done)),H',⟨by first | omega | exact Nat.le_refl _⟩,⟨by (with_reducible repeat (first | refine bkN ?_ _ | refine blk_drew ?_ | refine bka ?_ _));exact BK137.out⟩,⟨by repeat (first | (with_reducible first | exact HB.out | apply bwa | apply pwd | apply bwd | refine bwt ?_ GE137.out) | exact HB.out)⟩⟩
    ·rw [if_neg c8] at H
     have c8b0:decide (128 < (l0_1.length:Int))=false:=decide_eq_false c8
     have c8b1:decide (128 < l0_1.length)=false:=decide_eq_false (by omega)
     clear c8
     by_cases c10:(Go.bits .and .i64 (l0_1.length:Int) (wrap64 ((l0_1.length:Int) - 1)))=0
     ·rw [if_pos c10] at H
      have c10b0:((Go.bits .and .i64 (l0_1.length:Int) (wrap64 ((l0_1.length:Int) - 1))) == 0)=true:=beq_iff_eq.mpr c10
      have c10b1:((Go.bits .and .i64 (l0_1.length:Int) (wrap64 ((l0_1.length:Int) - 1))) != 0)=false:=bne_eq_false_iff_eq.mpr c10
      clear c10
      by_cases c11:(a0_2.size:Int) < 4
      ·rw [if_pos c11] at H
       have c11b0:decide ((a0_2.size:Int) < 4)=true:=decide_eq_true c11
       have c11b1:decide (a0_2.size < 4)=true:=decide_eq_true (by omega)
       clear c11
       have H':=amk H
       clear H
       have hcz12_0:w3.cell? ⟨gb137,0,none⟩=some (.int .i64 a0_0):=(bkc BK137.out 0).trans rfl
       have hcz12_1:w3.cell? ⟨gb137,1,none⟩=some (.slice A0_1 l0_1.length c0_1):=(bkc BK137.out 1).trans rfl
       have hcz12_2:w3.cell? ⟨gb137,2,none⟩=some (.string a0_2):=(bkc BK137.out 2).trans rfl
       have hcz12_3:w3.cell? ⟨gb137,3,none⟩=some (.int .i64 a0_3):=(bkc BK137.out 3).trans rfl
       have hfz12_0:=bkf BK137.out 0
       have hfz12_1:=bkf BK137.out 1
       have hfz12_2:=bkf BK137.out 2
       have hfz12_3:=bkf BK137.out 3
       go_wp2
       go_meet
       case rel=>exact ⟨_,(true),(by first | rfl | (simp;done) | (simp [*];done)),H',⟨by first | omega | exact Nat.le_refl _⟩,⟨by (with_reducible repeat (first | refine bkN ?_ _ | refine blk_drew ?_ | refine bka ?_ _));exact BK137.out⟩,⟨by repeat (first | (with_reducible first | exact HB.out | apply bwa | apply pwd | apply bwd | refine bwt ?_ GE137.out) | exact HB.out)⟩⟩
      ·rw [if_neg c11] at H
       have c11b0:decide ((a0_2.size:Int) < 4)=false:=decide_eq_false c11
       have c11b1:decide (a0_2.size < 4)=false:=decide_eq_false (by omega)
       clear c11
       by_cases c13:(a0_2.size:Int) > 52
       ·rw [if_pos c13] at H
        have c13b0:decide (52 < (a0_2.size:Int))=true:=decide_eq_true c13
        have c13b1:decide (52 < a0_2.size)=true:=decide_eq_true (by omega)
        clear c13
        have H':=amk H
        clear H
        have hcz14_0:w3.cell? ⟨gb137,0,none⟩=some (.int .i64 a0_0):=(bkc BK137.out 0).trans rfl
        have hcz14_1:w3.cell? ⟨gb137,1,none⟩=some (.slice A0_1 l0_1.length c0_1):=(bkc BK137.out 1).trans rfl
        have hcz14_2:w3.cell? ⟨gb137,2,none⟩=some (.string a0_2):=(bkc BK137.out 2).trans rfl
        have hcz14_3:w3.cell? ⟨gb137,3,none⟩=some (.int .i64 a0_3):=(bkc BK137.out 3).trans rfl
        have hfz14_0:=bkf BK137.out 0
        have hfz14_1:=bkf BK137.out 1
        have hfz14_2:=bkf BK137.out 2
        have hfz14_3:=bkf BK137.out 3
        go_wp2
        go_meet
        case rel=>exact ⟨_,(true),(by first | rfl | (simp;done) | (simp [*];done)),H',⟨by first | omega | exact Nat.le_refl _⟩,⟨by (with_reducible repeat (first | refine bkN ?_ _ | refine blk_drew ?_ | refine bka ?_ _));exact BK137.out⟩,⟨by repeat (first | (with_reducible first | exact HB.out | apply bwa | apply pwd | apply bwd | refine bwt ?_ GE137.out) | exact HB.out)⟩⟩
       ·rw [if_neg c13] at H
        have c13b0:decide (52 < (a0_2.size:Int))=false:=decide_eq_false c13
        have c13b1:decide (52 < a0_2.size)=false:=decide_eq_false (by omega)
        clear c13
        by_cases c15:a0_3 < 0
        ·rw [if_pos c15] at H
         have c15b0:decide (a0_3 < 0)=true:=decide_eq_true c15
         clear c15
         have H':=amk H
         clear H
         have hcz16_0:w3.cell? ⟨gb137,0,none⟩=some (.int .i64 a0_0):=(bkc BK137.out 0).trans rfl
         have hcz16_1:w3.cell? ⟨gb137,1,none⟩=some (.slice A0_1 l0_1.length c0_1):=(bkc BK137.out 1).trans rfl
         have hcz16_2:w3.cell? ⟨gb137,2,none⟩=some (.string a0_2):=(bkc BK137.out 2).trans rfl
         have hcz16_3:w3.cell? ⟨gb137,3,none⟩=some (.int .i64 a0_3):=(bkc BK137.out 3).trans rfl
         have hfz16_0:=bkf BK137.out 0
         have hfz16_1:=bkf BK137.out 1
         have hfz16_2:=bkf BK137.out 2
         have hfz16_3:=bkf BK137.out 3
         go_wp2
         go_meet
         case rel=>exact ⟨_,(true),(by first | rfl | (simp;done) | (simp [*];done)),H',⟨by first | omega | exact Nat.le_refl _⟩,⟨by (with_reducible repeat (first | refine bkN ?_ _ | refine blk_drew ?_ | refine bka ?_ _));exact BK137.out⟩,⟨by repeat (first | (with_reducible first | exact HB.out | apply bwa | apply pwd | apply bwd | refine bwt ?_ GE137.out) | exact HB.out)⟩⟩
        ·rw [if_neg c15] at H
         have c15b0:decide (a0_3 < 0)=false:=decide_eq_false c15
         clear c15
         have H':=amk H
         clear H
         have hcz17_0:w3.cell? ⟨gb137,0,none⟩=some (.int .i64 a0_0):=(bkc BK137.out 0).trans rfl
         have hcz17_1:w3.cell? ⟨gb137,1,none⟩=some (.slice A0_1 l0_1.length c0_1):=(bkc BK137.out 1).trans rfl
         have hcz17_2:w3.cell? ⟨gb137,2,none⟩=some (.string a0_2):=(bkc BK137.out 2).trans rfl
         have hcz17_3:w3.cell? ⟨gb137,3,none⟩=some (.int .i64 a0_3):=(bkc BK137.out 3).trans rfl
         have hfz17_0:=bkf BK137.out 0
         have hfz17_1:=bkf BK137.out 1
         have hfz17_2:=bkf BK137.out 2
         have hfz17_3:=bkf BK137.out 3
         go_wp2
         go_meet
         case rel=>exact ⟨_,(decide (a0_3 ≥ 8)),(by first | rfl | (simp;done) | (simp [*];done)),H',⟨by first | omega | exact Nat.le_refl _⟩,⟨by (with_reducible repeat (first | refine bkN ?_ _ | refine blk_drew ?_ | refine bka ?_ _));exact BK137.out⟩,⟨by repeat (first | (with_reducible first | exact HB.out | apply bwa | apply pwd | apply bwd | refine bwt ?_ GE137.out) | exact HB.out)⟩⟩
     ·rw [if_neg c10] at H
      have c10b0:((Go.bits .and .i64 (l0_1.length:Int) (wrap64 ((l0_1.length:Int) - 1))) == 0)=false:=beq_eq_false_iff_ne.mpr c10
      have c10b1:((Go.bits .and .i64 (l0_1.length:Int) (wrap64 ((l0_1.length:Int) - 1))) != 0)=true:=bne_iff_ne.mpr c10
      have H':=amk H
      clear H
      have hcz18_0:w3.cell? ⟨gb137,0,none⟩=some (.int .i64 a0_0):=(bkc BK137.out 0).trans rfl
      have hcz18_1:w3.cell? ⟨gb137,1,none⟩=some (.slice A0_1 l0_1.length c0_1):=(bkc BK137.out 1).trans rfl
      have hcz18_2:w3.cell? ⟨gb137,2,none⟩=some (.string a0_2):=(bkc BK137.out 2).trans rfl
      have hcz18_3:w3.cell? ⟨gb137,3,none⟩=some (.int .i64 a0_3):=(bkc BK137.out 3).trans rfl
      have hfz18_0:=bkf BK137.out 0
      have hfz18_1:=bkf BK137.out 1
      have hfz18_2:=bkf BK137.out 2
      have hfz18_3:=bkf BK137.out 3
      go_wp2
      go_meet
      case rel=>exact ⟨_,(true),(by first | rfl | (simp;done) | (simp [*];done)),H',⟨by first | omega | exact Nat.le_refl _⟩,⟨by (with_reducible repeat (first | refine bkN ?_ _ | refine blk_drew ?_ | refine bka ?_ _));exact BK137.out⟩,⟨by repeat (first | (with_reducible first | exact HB.out | apply bwa | apply pwd | apply bwd | refine bwt ?_ GE137.out) | exact HB.out)⟩⟩
  ·rw [if_neg c5] at H
   have c5b0:((Go.bits .andNot .i64 a0_0 126) == 0)=false:=beq_eq_false_iff_ne.mpr c5
   have c5b1:((Go.bits .andNot .i64 a0_0 126) != 0)=true:=bne_iff_ne.mpr c5
   (first | rw [c5b0] | (simp only [i64_w,i32_w];rw [c5b0]) | skip)
   have H':=amk H
   clear H
   have hcz19_0:w3.cell? ⟨gb137,0,none⟩=some (.int .i64 a0_0):=(bkc BK137.out 0).trans rfl
   have hcz19_1:w3.cell? ⟨gb137,1,none⟩=some (.slice A0_1 l0_1.length c0_1):=(bkc BK137.out 1).trans rfl
   have hcz19_2:w3.cell? ⟨gb137,2,none⟩=some (.string a0_2):=(bkc BK137.out 2).trans rfl
   have hcz19_3:w3.cell? ⟨gb137,3,none⟩=some (.int .i64 a0_3):=(bkc BK137.out 3).trans rfl
   have hfz19_0:=bkf BK137.out 0
   have hfz19_1:=bkf BK137.out 1
   have hfz19_2:=bkf BK137.out 2
   have hfz19_3:=bkf BK137.out 3
   go_wp2
   go_meet
   case rel=>exact ⟨_,(true),(by first | rfl | (simp;done) | (simp [*];done)),H',⟨by first | omega | exact Nat.le_refl _⟩,⟨by (with_reducible repeat (first | refine bkN ?_ _ | refine blk_drew ?_ | refine bka ?_ _));exact BK137.out⟩,⟨by repeat (first | (with_reducible first | exact HB.out | apply bwa | apply pwd | apply bwd | refine bwt ?_ GE137.out) | exact HB.out)⟩⟩
 case rest =>
  clear HC2
  try clear c1
  try clear p2
  try clear c5
  try clear c5b0
  try clear c5b1
  try clear c6
  try clear c6b0
  try clear c6b1
  try clear p6
  try clear c8
  try clear c8b0
  try clear c8b1
  try clear c10
  try clear c10b0
  try clear c10b1
  try clear c11
  try clear c11b0
  try clear c11b1
  try clear c13
  try clear c13b0
  try clear c13b1
  try clear c15
  try clear c15b0
  try clear hcz12_0
  try clear hcz12_1
  try clear hcz12_2
  try clear hcz12_3
  try clear hcz14_0
  try clear hcz14_1
  try clear hcz14_2
  try clear hcz14_3
  try clear hcz16_0
  try clear hcz16_1
  try clear hcz16_2
  try clear hcz16_3
  try clear hcz17_0
  try clear hcz17_1
  try clear hcz17_2
  try clear hcz17_3
  try clear hcz18_0
  try clear hcz18_1
  try clear hcz18_2
  try clear hcz18_3
  try clear hcz19_0
  try clear hcz19_1
  try clear hcz19_2
  try clear hcz19_3
  try clear hcz4_0
  try clear hcz4_1
  try clear hcz4_2
  try clear hcz4_3
  try clear hcz7_0
  try clear hcz7_1
  try clear hcz7_2
  try clear hcz7_3
  try clear hcz9_0
  try clear hcz9_1
  try clear hcz9_2
  try clear hcz9_3
  try clear hfz12_0
  try clear hfz12_1
  try clear hfz12_2
  try clear hfz12_3
  try clear hfz14_0
  try clear hfz14_1
  try clear hfz14_2
  try clear hfz14_3
  try clear hfz16_0
  try clear hfz16_1
  try clear hfz16_2
  try clear hfz16_3
  try clear hfz17_0
  try clear hfz17_1
  try clear hfz17_2
  try clear hfz17_3
  try clear hfz18_0
  try clear hfz18_1
  try clear hfz18_2
  try clear hfz18_3
  try clear hfz19_0
  try clear hfz19_1
  try clear hfz19_2
  try clear hfz19_3
  try clear hfz4_0
  try clear hfz4_1
  try clear hfz4_2
  try clear hfz4_3
  try clear hfz7_0
  try clear hfz7_1
  try clear hfz7_2
  try clear hfz7_3
  try clear hfz9_0
  try clear hfz9_1
  try clear hfz9_2
  try clear hfz9_3
  obtain ⟨kq,x49_1,rfl,HA,HJ1,BK137,HB⟩:=hcut
  cases kq with
  | zero=>exact absurd HA.out (by simp [rss_Check.j0])
  | succ kj1 =>
   have H:=HA.out
   clear HA
   simp only [rss_Check.j0] at H
   by_cases c20:x49_1=true
   ·subst c20
    have H1:(some 110)=some r:=by rw [if_pos rfl] at H;exact H
    clear H
    have H:=H1
    clear H1
    obtain rfl:=Option.some.inj H
    go_wp2
    go_ret
    exact ⟨by first | rfl | (simp [eWn,eWs] <;> rfl) | (simp [*,eWn,eWs] <;> rfl),by repeat (first | (with_reducible first | exact HB.out | apply bwa | apply pwd | apply bwd | refine bwt ?_ GE137.out) | exact HB.out)⟩
   ·replace c20:=Bool.eq_false_iff.mpr c20
    subst c20
    have H1:(rss_Check.l0 kj1 l0_1 (l0_1.length:Int) 0)=some r:=by rw [if_neg (show ¬ (false=true) by decide)] at H;exact H
    clear H
    have H:=H1
    clear H1
    have H':=amk H
    clear H
    have hcz21_0:wc.cell? ⟨gb137,0,none⟩=some (.int .i64 a0_0):=(bkc BK137.out 0).trans rfl
    have hcz21_1:wc.cell? ⟨gb137,1,none⟩=some (.slice A0_1 l0_1.length c0_1):=(bkc BK137.out 1).trans rfl
    have hcz21_2:wc.cell? ⟨gb137,2,none⟩=some (.string a0_2):=(bkc BK137.out 2).trans rfl
    have hcz21_3:wc.cell? ⟨gb137,3,none⟩=some (.int .i64 a0_3):=(bkc BK137.out 3).trans rfl
    have hfz21_0:=bkf BK137.out 0
    have hfz21_1:=bkf BK137.out 1
    have hfz21_2:=bkf BK137.out 2
    have hfz21_3:=bkf BK137.out 3
    go_wp2
    go_loopg [53] kj1 (fun kq v53 w'=>∃ (x53_2:Int),v53=.int .i64 x53_2∧Aside0 (rss_Check.l0 kq l0_1 (l0_1.length:Int) x53_2=some r)∧Aside0 (kq≤kj1)∧Aside0 (w'.heap[gb137]?=some (.cells #[.int .i64 a0_0,(.slice A0_1 l0_1.length c0_1),.string a0_2,.int .i64 a0_3] 27 (0,0)))∧Aside0 (Below w.heap.size w w'))
    case atStart=>exact ⟨(0),(by first | rfl | (simp;done) | (simp [*];done)),H',⟨Nat.le_refl _⟩,⟨by (with_reducible repeat (first | refine bkN ?_ _ | refine blk_drew ?_ | refine bka ?_ _));exact BK137.out⟩,⟨by repeat (first | (with_reducible first | exact HB.out | apply bwa | apply pwd | apply bwd | refine bwt ?_ GE137.out) | exact HB.out)⟩⟩
    case round =>
     clear H'
     try clear c1
     try clear c2
     try clear p2
     try clear c5
     try clear c5b0
     try clear c5b1
     try clear c6
     try clear c6b0
     try clear c6b1
     try clear p6
     try clear c8
     try clear c8b0
     try clear c8b1
     try clear c10
     try clear c10b0
     try clear c10b1
     try clear c11
     try clear c11b0
     try clear c11b1
     try clear c13
     try clear c13b0
     try clear c13b1
     try clear c15
     try clear c15b0
     try clear c20
     try clear hcz12_0
     try clear hcz12_1
     try clear hcz12_2
     try clear hcz12_3
     try clear hcz14_0
     try clear hcz14_1
     try clear hcz14_2
     try clear hcz14_3
     try clear hcz16_0
     try clear hcz16_1
     try clear hcz16_2
     try clear hcz16_3
     try clear hcz17_0
     try clear hcz17_1
     try clear hcz17_2
     try clear hcz17_3
     try clear hcz18_0
     try clear hcz18_1
     try clear hcz18_2
     try clear hcz18_3
     try clear hcz19_0
     try clear hcz19_1
     try clear hcz19_2
     try clear hcz19_3
     try clear hcz21_0
     try clear hcz21_1
     try clear hcz21_2
     try clear hcz21_3
     try clear hcz4_0
     try clear hcz4_1
     try clear hcz4_2
     try clear hcz4_3
     try clear hcz7_0
     try clear hcz7_1
     try clear hcz7_2
     try clear hcz7_3
     try clear hcz9_0
     try clear hcz9_1
     try clear hcz9_2
     try clear hcz9_3
     try clear hfz12_0
     try clear hfz12_1
     try clear hfz12_2
     try clear hfz12_3
     try clear hfz14_0
     try clear hfz14_1
     try clear hfz14_2
     try clear hfz14_3
     try clear hfz16_0
     try clear hfz16_1
     try clear hfz16_2
     try clear hfz16_3
     try clear hfz17_0
     try clear hfz17_1
     try clear hfz17_2
     try clear hfz17_3
     try clear hfz18_0
     try clear hfz18_1
     try clear hfz18_2
     try clear hfz18_3
     try clear hfz19_0
     try clear hfz19_1
     try clear hfz19_2
     try clear hfz19_3
     try clear hfz21_0
     try clear hfz21_1
     try clear hfz21_2
     try clear hfz21_3
     try clear hfz4_0
     try clear hfz4_1
     try clear hfz4_2
     try clear hfz4_3
     try clear hfz7_0
     try clear hfz7_1
     try clear hfz7_2
     try clear hfz7_3
     try clear hfz9_0
     try clear hfz9_1
     try clear hfz9_2
     try clear hfz9_3
     try clear p2
     try clear p6
     obtain ⟨x53_2,rfl,HA,HK2,BK137,HB⟩:=hrel
     cases gk with
     | zero=>exact absurd HA.out (by simp [rss_Check.l0])
     | succ k2 =>
      have H:=HA.out
      clear HA
      simp only [rss_Check.l0] at H
      by_cases c22:x53_2 < (l0_1.length:Int)
      ·rw [if_pos c22] at H
       have c22b0:decide (x53_2 < (l0_1.length:Int))=true:=decide_eq_true c22
       clear c22
       by_cases c23:0≤x53_2
       ·rw [if_pos c23] at H
        have c23b0:decide (0≤x53_2)=true:=decide_eq_true c23
        clear c23
        by_cases c24:x53_2 < (l0_1.length:Int)
        ·rw [if_pos c24] at H
         have c24b0:decide (x53_2 < (l0_1.length:Int))=true:=decide_eq_true c24
         clear c24
         by_cases c25:(rd l0_1 x53_2) < 0
         ·rw [if_pos c25] at H
          have c25b0:decide ((rd l0_1 x53_2) < 0)=true:=decide_eq_true c25
          clear c25
          obtain rfl:=Option.some.inj H
          have p138:0≤(x53_2:Int):=of_decide_eq_true (by first | (with_reducible assumption) | assumption)
          have q138:x53_2 < (l0_1.length:Int):=of_decide_eq_true (by first | (with_reducible assumption) | assumption)
          obtain ⟨ad138,e138,hx138_0⟩:=Kd.at_int HR0_1.out x53_2 p138 q138
          cases e138
          replace hx138_0:=(HB.out.cell (World.block_lt_of_cell? w _ hx138_0)).trans hx138_0
          replace p138:=eq_true p138
          replace q138:=eq_true q138
          go_wp2
          go_ret
          exact ⟨by first | rfl | (simp [eWn,eWs] <;> rfl) | (simp [*,eWn,eWs] <;> rfl),by repeat (first | (with_reducible first | exact HB.out | apply bwa | apply pwd | apply bwd | refine bwt ?_ GE137.out) | exact HB.out)⟩
         ·rw [if_neg c25] at H
          have c25b0:decide ((rd l0_1 x53_2) < 0)=false:=decide_eq_false c25
          clear c25
          by_cases c26:(rd l0_1 x53_2) ≥ 8
          ·rw [if_pos c26] at H
           have c26b0:decide (8≤(rd l0_1 x53_2))=true:=decide_eq_true c26
           clear c26
           obtain rfl:=Option.some.inj H
           have p138:0≤(x53_2:Int):=of_decide_eq_true (by first | (with_reducible assumption) | assumption)
           have q138:x53_2 < (l0_1.length:Int):=of_decide_eq_true (by first | (with_reducible assumption) | assumption)
           obtain ⟨ad138,e138,hx138_0⟩:=Kd.at_int HR0_1.out x53_2 p138 q138
           cases e138
           replace hx138_0:=(HB.out.cell (World.block_lt_of_cell? w _ hx138_0)).trans hx138_0
           replace p138:=eq_true p138
           replace q138:=eq_true q138
           go_wp2
           go_ret
           exact ⟨by first | rfl | (simp [eWn,eWs] <;> rfl) | (simp [*,eWn,eWs] <;> rfl),by repeat (first | (with_reducible first | exact HB.out | apply bwa | apply pwd | apply bwd | refine bwt ?_ GE137.out) | exact HB.out)⟩
          ·rw [if_neg c26] at H
           have c26b0:decide (8≤(rd l0_1 x53_2))=false:=decide_eq_false c26
           clear c26
           have H':=amk H
           clear H
           have p138:0≤(x53_2:Int):=of_decide_eq_true (by first | (with_reducible assumption) | assumption)
           have q138:x53_2 < (l0_1.length:Int):=of_decide_eq_true (by first | (with_reducible assumption) | assumption)
           obtain ⟨ad138,e138,hx138_0⟩:=Kd.at_int HR0_1.out x53_2 p138 q138
           cases e138
           replace hx138_0:=(HB.out.cell (World.block_lt_of_cell? w _ hx138_0)).trans hx138_0
           replace p138:=eq_true p138
           replace q138:=eq_true q138
           go_wp2
           go_roundg k2
           case measure=>have:=HJ1.out;have:=HK2.out;omega
           case rel=>exact ⟨(wrap64 (x53_2+1)),(by first | rfl | (simp;done) | (simp [*];done)),H',⟨by have:=HJ1.out;have:=HK2.out;omega⟩,⟨by (with_reducible repeat (first | refine bkN ?_ _ | refine blk_drew ?_ | refine bka ?_ _));exact BK137.out⟩,⟨by repeat (first | (with_reducible first | exact HB.out | apply bwa | apply pwd | apply bwd | refine bwt ?_ GE137.out) | exact HB.out)⟩⟩
        ·rw [if_neg c24] at H
         exact absurd H (by simp)
       ·rw [if_neg c23] at H
        exact absurd H (by simp)
      ·rw [if_neg c22] at H
       have c22b0:decide (x53_2 < (l0_1.length:Int))=false:=decide_eq_false c22
       clear c22
       obtain rfl:=Option.some.inj H
       go_wp2
       go_ret
       exact ⟨by first | rfl | (simp [eWn,eWs] <;> rfl) | (simp [*,eWn,eWs] <;> rfl),by repeat (first | (with_reducible first | exact HB.out | apply bwa | apply pwd | apply bwd | refine bwt ?_ GE137.out) | exact HB.out)⟩

end Go.Proofs.Ytkgbhlcbjflnlaa.P
