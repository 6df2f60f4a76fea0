/- What functions of the program compute, each with the walk that shows it: by a program (a turned copy of the kit's print; wip/myprint.py). -/
import Derived.Test.YtbecpkkhpjigbaaPx0
import Derived.Test.YtbecpkkhpjigbaaPx4
import Derived.Test.YtbecpkkhpjigbaaPx10
namespace Go.Proofs.Ytbecpkkhpjigbaa.P
open Go.RowKit Go.Proofs.YtbecpkkhpjigbaaW.PrintWords Go.Proofs.YtbecpkkhpjigbaaW.PrintLast Go.Proofs.YtbecpkkhpjigbaaW.PrintMore
attribute [local go_sem] max2_int min2_int max_two min_two max_three min_three max_four min_four   -- for this text's walks alone
set_option linter.unusedVariables false
set_option linter.unusedSimpArgs false

/-! ### aqueductref06_Build: function 14 -/
def aqueductref06_Build.j0 : Nat → Bool → ByteArray → ByteArray → Int → Int → Int → ByteArray → Option (ByteArray × Int)
  | 0, _, _, _, _, _, _, _ => none
  | k + 1, x40, x193000, x193001, x193002, x193003, x193004, x193005 => if x40 = true then (some ((⟨#[]⟩ : ByteArray), 61)) else (if x193000.size + x193001.size ≤ 9223372036854775807 then (if x193002 ≥ 0 then ((aqueductref06_two.f k 33024).bind fun t194 => ((aqueductref06_two.f k (wrap64 ((wrap64 (8192 * x193003)) + x193002))).bind fun t195 => (if t194.size + t195.size ≤ 9223372036854775807 then (if (x193000 ++ x193001).size + (t194 ++ t195).size ≤ 9223372036854775807 then ((aqueductref06_two.f k x193004).bind fun t196 => (if ((x193000 ++ x193001) ++ (t194 ++ t195)).size + t196.size ≤ 9223372036854775807 then (if (x193005.size : Int) > (wrap64 (1518 - ((((x193000 ++ x193001) ++ (t194 ++ t195)) ++ t196).size : Int))) then (some ((⟨#[]⟩ : ByteArray), 61)) else (if (((x193000 ++ x193001) ++ (t194 ++ t195)) ++ t196).size + x193005.size ≤ 9223372036854775807 then (some ((((x193000 ++ x193001) ++ (t194 ++ t195)) ++ t196) ++ x193005, 0)) else (none))) else (none))) else (none)) else (none)))) else (if x193003 > 0 then (some ((⟨#[]⟩ : ByteArray), 61)) else ((aqueductref06_two.f k x193004).bind fun t197 => (if (x193000 ++ x193001).size + t197.size ≤ 9223372036854775807 then (if (x193005.size : Int) > (wrap64 (1518 - (((x193000 ++ x193001) ++ t197).size : Int))) then (some ((⟨#[]⟩ : ByteArray), 61)) else (if ((x193000 ++ x193001) ++ t197).size + x193005.size ≤ 9223372036854775807 then (some (((x193000 ++ x193001) ++ t197) ++ x193005, 0)) else (none))) else (none))))) else (none))
def aqueductref06_Build.f (k : Nat) (a0_0 : ByteArray) (a0_1 : ByteArray) (a0_2 : Int) (a0_3 : Int) (a0_4 : Int) (a0_5 : ByteArray) : Option (ByteArray × Int) := if (a0_0.size : Int) = 6 then (if (a0_1.size : Int) = 6 then (if a0_2 < (-1) then (aqueductref06_Build.j0 k true a0_0 a0_1 a0_2 a0_3 a0_4 a0_5) else (if a0_2 > 4094 then (aqueductref06_Build.j0 k true a0_0 a0_1 a0_2 a0_3 a0_4 a0_5) else (if a0_3 < 0 then (aqueductref06_Build.j0 k true a0_0 a0_1 a0_2 a0_3 a0_4 a0_5) else (if a0_3 > 7 then (aqueductref06_Build.j0 k true a0_0 a0_1 a0_2 a0_3 a0_4 a0_5) else ((aqueductref06_kind.f a0_4).bind fun t193 => (aqueductref06_Build.j0 k (!t193) a0_0 a0_1 a0_2 a0_3 a0_4 a0_5)))))) else (aqueductref06_Build.j0 k true a0_0 a0_1 a0_2 a0_3 a0_4 a0_5)) else (aqueductref06_Build.j0 k true a0_0 a0_1 a0_2 a0_3 a0_4 a0_5)
theorem aqueductref06_Build.mono_l : ∀ k, (∀ y0 y1 y2 y3 y4 y5 y6, LeO (aqueductref06_Build.j0 k y0 y1 y2 y3 y4 y5 y6) (aqueductref06_Build.j0 (k + 1) y0 y1 y2 y3 y4 y5 y6))
  | 0 => fun _ _ _ _ _ _ _ r h => by simp [aqueductref06_Build.j0] at h
  | k + 1 => by
    have ih0 := aqueductref06_Build.mono_l k
    · intro y0 y1 y2 y3 y4 y5 y6
      unfold aqueductref06_Build.j0
      repeat' first
      | (with_reducible exact ih0 _ _ _ _ _ _ _)
      | (with_reducible exact aqueductref06_two.mono _ _)
      | (with_reducible exact LeO.refl _)
      | (with_reducible exact LeO.none _)
      | (with_reducible refine LeO.ite ?_ ?_)
      | (with_reducible refine LeO.bind ?_ (fun _ => ?_))
      | exact ih0 _ _ _ _ _ _ _
      | exact aqueductref06_two.mono _ _
      | exact LeO.none _
      | refine LeO.ite ?_ ?_
      | refine LeO.bind ?_ (fun _ => ?_)
theorem aqueductref06_Build.mono : ∀ a0 a1 a2 a3 a4 a5 k, LeO (aqueductref06_Build.f k a0 a1 a2 a3 a4 a5) (aqueductref06_Build.f (k + 1) a0 a1 a2 a3 a4 a5) := by
  intro a0 a1 a2 a3 a4 a5 k
  have ih0 := aqueductref06_Build.mono_l k
  unfold aqueductref06_Build.f
  repeat' first
      | (with_reducible exact ih0 _ _ _ _ _ _ _)
      | (with_reducible exact aqueductref06_two.mono _ _)
      | (with_reducible exact LeO.refl _)
      | (with_reducible exact LeO.none _)
      | (with_reducible refine LeO.ite ?_ ?_)
      | (with_reducible refine LeO.bind ?_ (fun _ => ?_))
      | exact ih0 _ _ _ _ _ _ _
      | exact aqueductref06_two.mono _ _
      | exact LeO.none _
      | refine LeO.ite ?_ ?_
      | refine LeO.bind ?_ (fun _ => ?_)
def aqueductref06_Build.T5 : Bool × List (List Nat × List Nat) := (true, [([], []), ([], []), ([], []), ([2], [2]), ([3], [3]), ([], []), ([5], [5]), ([4, 6], [4, 6]), ([7, 1], [7]), ([1, 8], [1, 8]), ([0, 9], [0, 9]), ([10, 8, 0, 1, 2, 3, 4, 5, 6, 7, 8, 9, 10], [0, 10])])
def aqueductref06_Build.B5 : List Nat := [0, 0, 0, 4, 12, 0, 32, 124, 254, 510, 1023, 2047]
theorem aqueductref06_Build.tab5 : rtab .any (opsOf Try.f14 5) = aqueductref06_Build.T5 := by kernel_rfl
theorem aqueductref06_Build.bits5 : waitsOk aqueductref06_Build.T5.2 aqueductref06_Build.B5 = true := by kernel_rfl
set_option maxHeartbeats 8000000 in
set_option maxRecDepth 100000 in
theorem aqueductref06_Build.calls (k : Nat) (a0_0 : ByteArray) (a0_1 : ByteArray) (a0_2 : Int) (a0_3 : Int) (a0_4 : Int) (a0_5 : ByteArray) (r1 : ByteArray) (r2 : Int) (w : World) (h : aqueductref06_Build.f k a0_0 a0_1 a0_2 a0_3 a0_4 a0_5 = some (r1, r2)) :
    Calls Try.prog 14 #[.agg #[.string a0_0, .string a0_1, .int .i64 a0_2, .int .i64 a0_3, .int .i64 a0_4, .string a0_5]] w fun e w' => e = .returned (.tuple #[.string r1, .int .i64 r2]) ∧ Below w.heap.size w w' := by
  have hu23 := Try.underlying23
  have HB := Aside0.mk (Below.refl w.heap.size w)
  have H : (if (a0_0.size : Int) = 6 then (if (a0_1.size : Int) = 6 then (if a0_2 < (-1) then (aqueductref06_Build.j0 k true a0_0 a0_1 a0_2 a0_3 a0_4 a0_5) else (if a0_2 > 4094 then (aqueductref06_Build.j0 k true a0_0 a0_1 a0_2 a0_3 a0_4 a0_5) else (if a0_3 < 0 then (aqueductref06_Build.j0 k true a0_0 a0_1 a0_2 a0_3 a0_4 a0_5) else (if a0_3 > 7 then (aqueductref06_Build.j0 k true a0_0 a0_1 a0_2 a0_3 a0_4 a0_5) else ((aqueductref06_kind.f a0_4).bind fun t193 => (aqueductref06_Build.j0 k (!t193) a0_0 a0_1 a0_2 a0_3 a0_4 a0_5)))))) else (aqueductref06_Build.j0 k true a0_0 a0_1 a0_2 a0_3 a0_4 a0_5)) else (aqueductref06_Build.j0 k true a0_0 a0_1 a0_2 a0_3 a0_4 a0_5)) = some (r1, r2) := h
  clear h
  have HC2 := Aside0.mk H
  clear H
  go_enter Try.func14, Try.ntmps14
  go_upto_region 1 with (first | ((with_reducible refine gate_dst (N := 1) rfl ?_); (try (refine gate_guard (by rfl) ?_; dsimp only)); refine box_event ?hg (N := 1) ?hd (cs := #[.string a0_0, .string a0_1, .int .i64 a0_2, .int .i64 a0_3, .int .i64 a0_4, .string a0_5]) (t := 23) ?hr ?_; (case hd => rfl); (case hg => rfl); (case hr => first | (go_simp; done) | (go_simp; rfl)); intro gb192 hg w3 hbox hb; have n0_ := Aside0.mk (below_step (by repeat (first | (with_reducible first | exact HB.out | apply below_alloc | apply pw_below_drewN | apply below_drew1) | exact HB.out)) hb); have n1_ := Aside0.mk (hbox); have n2_ := Aside0.mk ((by rw [hg]; exact (below_size (by repeat (first | (with_reducible first | exact HB.out | apply below_alloc | apply pw_below_drewN | apply below_drew1) | exact HB.out))) : w.heap.size ≤ gb192)); have n3_ := Aside0.mk ((by rw [hg]; exact (below_size (by repeat (first | (with_reducible first | exact HB.out | apply below_alloc | apply pw_below_drewN | apply below_drew1) | exact HB.out))) : w.heap.size ≤ gb192)); clear HB; have HB := n0_; have BK192 := n1_; have GW192 := n2_; have GE192 := n3_; clear n0_ n1_ n2_ n3_; clear hb hbox hg))
  (try simp only [Act.put, List.setIfInBounds_toArray, List.set_cons_zero, List.set_cons_succ])
  go_cut [40] (fun v40 wc => ∃ (kq : Nat) (x40_1 : Bool), v40 = .bool x40_1 ∧ Aside0 (aqueductref06_Build.j0 kq x40_1 a0_0 a0_1 a0_2 a0_3 a0_4 a0_5 = some (r1, r2)) ∧ Aside0 (kq ≤ k) ∧ Aside0 (wc.heap[gb192]? = some (.cells #[.string a0_0, .string a0_1, .int .i64 a0_2, .int .i64 a0_3, .int .i64 a0_4, .string a0_5] 23 (0, 0))) ∧ Aside0 (Below w.heap.size w wc))
  case first =>
    have H := HC2.out
    clear HC2
    by_cases c4 : (a0_0.size : Int) = 6
    · rw [if_pos c4] at H
      have c4b0 : ((a0_0.size : Int) == 6) = true := beq_iff_eq.mpr c4
      have c4b1 : ((a0_0.size : Int) != 6) = false := bne_eq_false_iff_eq.mpr c4
      clear c4
      (first | rw [c4b0] | (simp only [i64_w, i32_w]; rw [c4b0]) | skip)
      by_cases c5 : (a0_1.size : Int) = 6
      · rw [if_pos c5] at H
        have c5b0 : ((a0_1.size : Int) == 6) = true := beq_iff_eq.mpr c5
        have c5b1 : ((a0_1.size : Int) != 6) = false := bne_eq_false_iff_eq.mpr c5
        clear c5
        by_cases c6 : a0_2 < (-1)
        · rw [if_pos c6] at H
          have c6b0 : decide (a0_2 < (-1)) = true := decide_eq_true c6
          clear c6
          have H' := Aside0.mk H
          clear H
          have hcz7_0 : w3.cell? ⟨gb192, 0, none⟩ = some (.string a0_0) := (blk_cell BK192.out 0).trans rfl
          have hcz7_1 : w3.cell? ⟨gb192, 1, none⟩ = some (.string a0_1) := (blk_cell BK192.out 1).trans rfl
          have hcz7_2 : w3.cell? ⟨gb192, 2, none⟩ = some (.int .i64 a0_2) := (blk_cell BK192.out 2).trans rfl
          have hcz7_3 : w3.cell? ⟨gb192, 3, none⟩ = some (.int .i64 a0_3) := (blk_cell BK192.out 3).trans rfl
          have hcz7_4 : w3.cell? ⟨gb192, 4, none⟩ = some (.int .i64 a0_4) := (blk_cell BK192.out 4).trans rfl
          have hcz7_5 : w3.cell? ⟨gb192, 5, none⟩ = some (.string a0_5) := (blk_cell BK192.out 5).trans rfl
          have hfz7_0 := blk_frozen BK192.out 0
          have hfz7_1 := blk_frozen BK192.out 1
          have hfz7_2 := blk_frozen BK192.out 2
          have hfz7_3 := blk_frozen BK192.out 3
          have hfz7_4 := blk_frozen BK192.out 4
          have hfz7_5 := blk_frozen BK192.out 5
          go_wp2
          go_meet
          case rel => exact ⟨_, (true), (by first | rfl | (simp; done) | (simp [*]; done)), H', ⟨by first | omega | exact Nat.le_refl _⟩, ⟨by (with_reducible repeat (first | refine blk_drewN ?_ _ | refine blk_drew ?_ | refine blk_alloc ?_ _)); exact BK192.out⟩, ⟨by repeat (first | (with_reducible first | exact HB.out | apply below_alloc | apply pw_below_drewN | apply below_drew1 | refine below_set ?_ GE192.out) | exact HB.out)⟩⟩
        · rw [if_neg c6] at H
          have c6b0 : decide (a0_2 < (-1)) = false := decide_eq_false c6
          clear c6
          by_cases c8 : a0_2 > 4094
          · rw [if_pos c8] at H
            have c8b0 : decide (4094 < a0_2) = true := decide_eq_true c8
            clear c8
            have H' := Aside0.mk H
            clear H
            have hcz9_0 : w3.cell? ⟨gb192, 0, none⟩ = some (.string a0_0) := (blk_cell BK192.out 0).trans rfl
            have hcz9_1 : w3.cell? ⟨gb192, 1, none⟩ = some (.string a0_1) := (blk_cell BK192.out 1).trans rfl
            have hcz9_2 : w3.cell? ⟨gb192, 2, none⟩ = some (.int .i64 a0_2) := (blk_cell BK192.out 2).trans rfl
            have hcz9_3 : w3.cell? ⟨gb192, 3, none⟩ = some (.int .i64 a0_3) := (blk_cell BK192.out 3).trans rfl
            have hcz9_4 : w3.cell? ⟨gb192, 4, none⟩ = some (.int .i64 a0_4) := (blk_cell BK192.out 4).trans rfl
            have hcz9_5 : w3.cell? ⟨gb192, 5, none⟩ = some (.string a0_5) := (blk_cell BK192.out 5).trans rfl
            have hfz9_0 := blk_frozen BK192.out 0
            have hfz9_1 := blk_frozen BK192.out 1
            have hfz9_2 := blk_frozen BK192.out 2
            have hfz9_3 := blk_frozen BK192.out 3
            have hfz9_4 := blk_frozen BK192.out 4
            have hfz9_5 := blk_frozen BK192.out 5
            go_wp2
            go_meet
            case rel => exact ⟨_, (true), (by first | rfl | (simp; done) | (simp [*]; done)), H', ⟨by first | omega | exact Nat.le_refl _⟩, ⟨by (with_reducible repeat (first | refine blk_drewN ?_ _ | refine blk_drew ?_ | refine blk_alloc ?_ _)); exact BK192.out⟩, ⟨by repeat (first | (with_reducible first | exact HB.out | apply below_alloc | apply pw_below_drewN | apply below_drew1 | refine below_set ?_ GE192.out) | exact HB.out)⟩⟩
          · rw [if_neg c8] at H
            have c8b0 : decide (4094 < a0_2) = false := decide_eq_false c8
            clear c8
            by_cases c10 : a0_3 < 0
            · rw [if_pos c10] at H
              have c10b0 : decide (a0_3 < 0) = true := decide_eq_true c10
              clear c10
              have H' := Aside0.mk H
              clear H
              have hcz11_0 : w3.cell? ⟨gb192, 0, none⟩ = some (.string a0_0) := (blk_cell BK192.out 0).trans rfl
              have hcz11_1 : w3.cell? ⟨gb192, 1, none⟩ = some (.string a0_1) := (blk_cell BK192.out 1).trans rfl
              have hcz11_2 : w3.cell? ⟨gb192, 2, none⟩ = some (.int .i64 a0_2) := (blk_cell BK192.out 2).trans rfl
              have hcz11_3 : w3.cell? ⟨gb192, 3, none⟩ = some (.int .i64 a0_3) := (blk_cell BK192.out 3).trans rfl
              have hcz11_4 : w3.cell? ⟨gb192, 4, none⟩ = some (.int .i64 a0_4) := (blk_cell BK192.out 4).trans rfl
              have hcz11_5 : w3.cell? ⟨gb192, 5, none⟩ = some (.string a0_5) := (blk_cell BK192.out 5).trans rfl
              have hfz11_0 := blk_frozen BK192.out 0
              have hfz11_1 := blk_frozen BK192.out 1
              have hfz11_2 := blk_frozen BK192.out 2
              have hfz11_3 := blk_frozen BK192.out 3
              have hfz11_4 := blk_frozen BK192.out 4
              have hfz11_5 := blk_frozen BK192.out 5
              go_wp2
              go_meet
              case rel => exact ⟨_, (true), (by first | rfl | (simp; done) | (simp [*]; done)), H', ⟨by first | omega | exact Nat.le_refl _⟩, ⟨by (with_reducible repeat (first | refine blk_drewN ?_ _ | refine blk_drew ?_ | refine blk_alloc ?_ _)); exact BK192.out⟩, ⟨by repeat (first | (with_reducible first | exact HB.out | apply below_alloc | apply pw_below_drewN | apply below_drew1 | refine below_set ?_ GE192.out) | exact HB.out)⟩⟩
            · rw [if_neg c10] at H
              have c10b0 : decide (a0_3 < 0) = false := decide_eq_false c10
              clear c10
              by_cases c12 : a0_3 > 7
              · rw [if_pos c12] at H
                have c12b0 : decide (7 < a0_3) = true := decide_eq_true c12
                clear c12
                have H' := Aside0.mk H
                clear H
                have hcz13_0 : w3.cell? ⟨gb192, 0, none⟩ = some (.string a0_0) := (blk_cell BK192.out 0).trans rfl
                have hcz13_1 : w3.cell? ⟨gb192, 1, none⟩ = some (.string a0_1) := (blk_cell BK192.out 1).trans rfl
                have hcz13_2 : w3.cell? ⟨gb192, 2, none⟩ = some (.int .i64 a0_2) := (blk_cell BK192.out 2).trans rfl
                have hcz13_3 : w3.cell? ⟨gb192, 3, none⟩ = some (.int .i64 a0_3) := (blk_cell BK192.out 3).trans rfl
                have hcz13_4 : w3.cell? ⟨gb192, 4, none⟩ = some (.int .i64 a0_4) := (blk_cell BK192.out 4).trans rfl
                have hcz13_5 : w3.cell? ⟨gb192, 5, none⟩ = some (.string a0_5) := (blk_cell BK192.out 5).trans rfl
                have hfz13_0 := blk_frozen BK192.out 0
                have hfz13_1 := blk_frozen BK192.out 1
                have hfz13_2 := blk_frozen BK192.out 2
                have hfz13_3 := blk_frozen BK192.out 3
                have hfz13_4 := blk_frozen BK192.out 4
                have hfz13_5 := blk_frozen BK192.out 5
                go_wp2
                go_meet
                case rel => exact ⟨_, (true), (by first | rfl | (simp; done) | (simp [*]; done)), H', ⟨by first | omega | exact Nat.le_refl _⟩, ⟨by (with_reducible repeat (first | refine blk_drewN ?_ _ | refine blk_drew ?_ | refine blk_alloc ?_ _)); exact BK192.out⟩, ⟨by repeat (first | (with_reducible first | exact HB.out | apply below_alloc | apply pw_below_drewN | apply below_drew1 | refine below_set ?_ GE192.out) | exact HB.out)⟩⟩
              · rw [if_neg c12] at H
                have c12b0 : decide (7 < a0_3) = false := decide_eq_false c12
                clear c12
                replace H := Option.bind_eq_some_iff.mp H
                obtain ⟨t193, A140, H⟩ := H
                replace H : (aqueductref06_Build.j0 k (!t193) a0_0 a0_1 a0_2 a0_3 a0_4 a0_5) = some (r1, r2) := H
                have A14 := Aside0.mk A140
                clear A140
                have H' := Aside0.mk H
                clear H
                have hcz15_0 : w3.cell? ⟨gb192, 0, none⟩ = some (.string a0_0) := (blk_cell BK192.out 0).trans rfl
                have hcz15_1 : w3.cell? ⟨gb192, 1, none⟩ = some (.string a0_1) := (blk_cell BK192.out 1).trans rfl
                have hcz15_2 : w3.cell? ⟨gb192, 2, none⟩ = some (.int .i64 a0_2) := (blk_cell BK192.out 2).trans rfl
                have hcz15_3 : w3.cell? ⟨gb192, 3, none⟩ = some (.int .i64 a0_3) := (blk_cell BK192.out 3).trans rfl
                have hcz15_4 : w3.cell? ⟨gb192, 4, none⟩ = some (.int .i64 a0_4) := (blk_cell BK192.out 4).trans rfl
                have hcz15_5 : w3.cell? ⟨gb192, 5, none⟩ = some (.string a0_5) := (blk_cell BK192.out 5).trans rfl
                have hfz15_0 := blk_frozen BK192.out 0
                have hfz15_1 := blk_frozen BK192.out 1
                have hfz15_2 := blk_frozen BK192.out 2
                have hfz15_3 := blk_frozen BK192.out 3
                have hfz15_4 := blk_frozen BK192.out 4
                have hfz15_5 := blk_frozen BK192.out 5
                go_wp2_with (first | (go_at_call 22; (with_reducible refine (aqueductref06_kind.calls a0_4 t193 _ A14.out).mono ?_); rintro e w' ⟨rfl, ⟨nd, rfl⟩⟩))
                go_meet
                case rel => exact ⟨_, (!t193), (by first | rfl | (simp; done) | (simp [*]; done)), H', ⟨by first | omega | exact Nat.le_refl _⟩, ⟨by (with_reducible repeat (first | refine blk_drewN ?_ _ | refine blk_drew ?_ | refine blk_alloc ?_ _)); exact BK192.out⟩, ⟨by repeat (first | (with_reducible first | exact HB.out | apply below_alloc | apply pw_below_drewN | apply below_drew1 | refine below_set ?_ GE192.out) | exact HB.out)⟩⟩
      · rw [if_neg c5] at H
        have c5b0 : ((a0_1.size : Int) == 6) = false := beq_eq_false_iff_ne.mpr c5
        have c5b1 : ((a0_1.size : Int) != 6) = true := bne_iff_ne.mpr c5
        have H' := Aside0.mk H
        clear H
        have hcz16_0 : w3.cell? ⟨gb192, 0, none⟩ = some (.string a0_0) := (blk_cell BK192.out 0).trans rfl
        have hcz16_1 : w3.cell? ⟨gb192, 1, none⟩ = some (.string a0_1) := (blk_cell BK192.out 1).trans rfl
        have hcz16_2 : w3.cell? ⟨gb192, 2, none⟩ = some (.int .i64 a0_2) := (blk_cell BK192.out 2).trans rfl
        have hcz16_3 : w3.cell? ⟨gb192, 3, none⟩ = some (.int .i64 a0_3) := (blk_cell BK192.out 3).trans rfl
        have hcz16_4 : w3.cell? ⟨gb192, 4, none⟩ = some (.int .i64 a0_4) := (blk_cell BK192.out 4).trans rfl
        have hcz16_5 : w3.cell? ⟨gb192, 5, none⟩ = some (.string a0_5) := (blk_cell BK192.out 5).trans rfl
        have hfz16_0 := blk_frozen BK192.out 0
        have hfz16_1 := blk_frozen BK192.out 1
        have hfz16_2 := blk_frozen BK192.out 2
        have hfz16_3 := blk_frozen BK192.out 3
        have hfz16_4 := blk_frozen BK192.out 4
        have hfz16_5 := blk_frozen BK192.out 5
        go_wp2
        go_meet
        case rel => exact ⟨_, (true), (by first | rfl | (simp; done) | (simp [*]; done)), H', ⟨by first | omega | exact Nat.le_refl _⟩, ⟨by (with_reducible repeat (first | refine blk_drewN ?_ _ | refine blk_drew ?_ | refine blk_alloc ?_ _)); exact BK192.out⟩, ⟨by repeat (first | (with_reducible first | exact HB.out | apply below_alloc | apply pw_below_drewN | apply below_drew1 | refine below_set ?_ GE192.out) | exact HB.out)⟩⟩
    · rw [if_neg c4] at H
      have c4b0 : ((a0_0.size : Int) == 6) = false := beq_eq_false_iff_ne.mpr c4
      have c4b1 : ((a0_0.size : Int) != 6) = true := bne_iff_ne.mpr c4
      (first | rw [c4b0] | (simp only [i64_w, i32_w]; rw [c4b0]) | skip)
      have H' := Aside0.mk H
      clear H
      have hcz17_0 : w3.cell? ⟨gb192, 0, none⟩ = some (.string a0_0) := (blk_cell BK192.out 0).trans rfl
      have hcz17_1 : w3.cell? ⟨gb192, 1, none⟩ = some (.string a0_1) := (blk_cell BK192.out 1).trans rfl
      have hcz17_2 : w3.cell? ⟨gb192, 2, none⟩ = some (.int .i64 a0_2) := (blk_cell BK192.out 2).trans rfl
      have hcz17_3 : w3.cell? ⟨gb192, 3, none⟩ = some (.int .i64 a0_3) := (blk_cell BK192.out 3).trans rfl
      have hcz17_4 : w3.cell? ⟨gb192, 4, none⟩ = some (.int .i64 a0_4) := (blk_cell BK192.out 4).trans rfl
      have hcz17_5 : w3.cell? ⟨gb192, 5, none⟩ = some (.string a0_5) := (blk_cell BK192.out 5).trans rfl
      have hfz17_0 := blk_frozen BK192.out 0
      have hfz17_1 := blk_frozen BK192.out 1
      have hfz17_2 := blk_frozen BK192.out 2
      have hfz17_3 := blk_frozen BK192.out 3
      have hfz17_4 := blk_frozen BK192.out 4
      have hfz17_5 := blk_frozen BK192.out 5
      go_wp2
      go_meet
      case rel => exact ⟨_, (true), (by first | rfl | (simp; done) | (simp [*]; done)), H', ⟨by first | omega | exact Nat.le_refl _⟩, ⟨by (with_reducible repeat (first | refine blk_drewN ?_ _ | refine blk_drew ?_ | refine blk_alloc ?_ _)); exact BK192.out⟩, ⟨by repeat (first | (with_reducible first | exact HB.out | apply below_alloc | apply pw_below_drewN | apply below_drew1 | refine below_set ?_ GE192.out) | exact HB.out)⟩⟩
  case rest =>
    clear HC2
    try clear c1
    try clear p2
    try clear c4
    try clear c4b0
    try clear c4b1
    try clear c5
    try clear c5b0
    try clear c5b1
    try clear c6
    try clear c6b0
    try clear c8
    try clear c8b0
    try clear c10
    try clear c10b0
    try clear c12
    try clear c12b0
    try clear c14
    try clear hcz11_0
    try clear hcz11_1
    try clear hcz11_2
    try clear hcz11_3
    try clear hcz11_4
    try clear hcz11_5
    try clear hcz13_0
    try clear hcz13_1
    try clear hcz13_2
    try clear hcz13_3
    try clear hcz13_4
    try clear hcz13_5
    try clear hcz15_0
    try clear hcz15_1
    try clear hcz15_2
    try clear hcz15_3
    try clear hcz15_4
    try clear hcz15_5
    try clear hcz16_0
    try clear hcz16_1
    try clear hcz16_2
    try clear hcz16_3
    try clear hcz16_4
    try clear hcz16_5
    try clear hcz17_0
    try clear hcz17_1
    try clear hcz17_2
    try clear hcz17_3
    try clear hcz17_4
    try clear hcz17_5
    try clear hcz7_0
    try clear hcz7_1
    try clear hcz7_2
    try clear hcz7_3
    try clear hcz7_4
    try clear hcz7_5
    try clear hcz9_0
    try clear hcz9_1
    try clear hcz9_2
    try clear hcz9_3
    try clear hcz9_4
    try clear hcz9_5
    try clear hfz11_0
    try clear hfz11_1
    try clear hfz11_2
    try clear hfz11_3
    try clear hfz11_4
    try clear hfz11_5
    try clear hfz13_0
    try clear hfz13_1
    try clear hfz13_2
    try clear hfz13_3
    try clear hfz13_4
    try clear hfz13_5
    try clear hfz15_0
    try clear hfz15_1
    try clear hfz15_2
    try clear hfz15_3
    try clear hfz15_4
    try clear hfz15_5
    try clear hfz16_0
    try clear hfz16_1
    try clear hfz16_2
    try clear hfz16_3
    try clear hfz16_4
    try clear hfz16_5
    try clear hfz17_0
    try clear hfz17_1
    try clear hfz17_2
    try clear hfz17_3
    try clear hfz17_4
    try clear hfz17_5
    try clear hfz7_0
    try clear hfz7_1
    try clear hfz7_2
    try clear hfz7_3
    try clear hfz7_4
    try clear hfz7_5
    try clear hfz9_0
    try clear hfz9_1
    try clear hfz9_2
    try clear hfz9_3
    try clear hfz9_4
    try clear hfz9_5
    obtain ⟨kq, x40_1, rfl, HA, HJ1, BK192, HB⟩ := hcut
    cases kq with
    | zero => exact absurd HA.out (by simp [aqueductref06_Build.j0])
    | succ kj1 =>
      have H := HA.out
      clear HA
      simp only [aqueductref06_Build.j0] at H
      by_cases c18 : x40_1 = true
      · subst c18
        have H1 : (some ((⟨#[]⟩ : ByteArray), 61)) = some (r1, r2) := by rw [if_pos rfl] at H; exact H
        clear H
        have H := H1
        clear H1
        simp only [Option.some.injEq, Prod.mk.injEq] at H
        obtain ⟨rfl, rfl⟩ := H
        go_wp2
        go_ret2
        exact ⟨by first | rfl | (simp [errW_none, errW_some] <;> rfl) | (simp [*, errW_none, errW_some] <;> rfl), by repeat (first | (with_reducible first | exact HB.out | apply below_alloc | apply pw_below_drewN | apply below_drew1 | refine below_set ?_ GE192.out) | exact HB.out)⟩
      · replace c18 := Bool.eq_false_iff.mpr c18
        subst c18
        have H1 : (if a0_0.size + a0_1.size ≤ 9223372036854775807 then (if a0_2 ≥ 0 then ((aqueductref06_two.f kj1 33024).bind fun t194 => ((aqueductref06_two.f kj1 (wrap64 ((wrap64 (8192 * a0_3)) + a0_2))).bind fun t195 => (if t194.size + t195.size ≤ 9223372036854775807 then (if (a0_0 ++ a0_1).size + (t194 ++ t195).size ≤ 9223372036854775807 then ((aqueductref06_two.f kj1 a0_4).bind fun t196 => (if ((a0_0 ++ a0_1) ++ (t194 ++ t195)).size + t196.size ≤ 9223372036854775807 then (if (a0_5.size : Int) > (wrap64 (1518 - ((((a0_0 ++ a0_1) ++ (t194 ++ t195)) ++ t196).size : Int))) then (some ((⟨#[]⟩ : ByteArray), 61)) else (if (((a0_0 ++ a0_1) ++ (t194 ++ t195)) ++ t196).size + a0_5.size ≤ 9223372036854775807 then (some ((((a0_0 ++ a0_1) ++ (t194 ++ t195)) ++ t196) ++ a0_5, 0)) else (none))) else (none))) else (none)) else (none)))) else (if a0_3 > 0 then (some ((⟨#[]⟩ : ByteArray), 61)) else ((aqueductref06_two.f kj1 a0_4).bind fun t197 => (if (a0_0 ++ a0_1).size + t197.size ≤ 9223372036854775807 then (if (a0_5.size : Int) > (wrap64 (1518 - (((a0_0 ++ a0_1) ++ t197).size : Int))) then (some ((⟨#[]⟩ : ByteArray), 61)) else (if ((a0_0 ++ a0_1) ++ t197).size + a0_5.size ≤ 9223372036854775807 then (some (((a0_0 ++ a0_1) ++ t197) ++ a0_5, 0)) else (none))) else (none))))) else (none)) = some (r1, r2) := by rw [if_neg (show ¬ (false = true) by decide)] at H; exact H
        clear H
        have H := H1
        clear H1
        by_cases c19 : a0_0.size + a0_1.size ≤ 9223372036854775807
        · rw [if_pos c19] at H
          have c19b0 := eq_true c19
          have c19b1 : decide (a0_0.size + a0_1.size ≤ 9223372036854775807) = true := decide_eq_true c19
          try have c19b2 : (9223372036854775807 < a0_0.size + a0_1.size) = False := eq_false (Nat.not_lt.2 c19)
          by_cases c20 : a0_2 ≥ 0
          · rw [if_pos c20] at H
            have c20b0 : decide (0 ≤ a0_2) = true := decide_eq_true c20
            clear c20
            replace H := Option.bind_eq_some_iff.mp H
            obtain ⟨t194, A210, H⟩ := H
            replace H : ((aqueductref06_two.f kj1 (wrap64 ((wrap64 (8192 * a0_3)) + a0_2))).bind fun t195 => (if t194.size + t195.size ≤ 9223372036854775807 then (if (a0_0 ++ a0_1).size + (t194 ++ t195).size ≤ 9223372036854775807 then ((aqueductref06_two.f kj1 a0_4).bind fun t196 => (if ((a0_0 ++ a0_1) ++ (t194 ++ t195)).size + t196.size ≤ 9223372036854775807 then (if (a0_5.size : Int) > (wrap64 (1518 - ((((a0_0 ++ a0_1) ++ (t194 ++ t195)) ++ t196).size : Int))) then (some ((⟨#[]⟩ : ByteArray), 61)) else (if (((a0_0 ++ a0_1) ++ (t194 ++ t195)) ++ t196).size + a0_5.size ≤ 9223372036854775807 then (some ((((a0_0 ++ a0_1) ++ (t194 ++ t195)) ++ t196) ++ a0_5, 0)) else (none))) else (none))) else (none)) else (none))) = some (r1, r2) := H
            have A21 := Aside0.mk A210
            clear A210
            replace H := Option.bind_eq_some_iff.mp H
            obtain ⟨t195, A220, H⟩ := H
            replace H : (if t194.size + t195.size ≤ 9223372036854775807 then (if (a0_0 ++ a0_1).size + (t194 ++ t195).size ≤ 9223372036854775807 then ((aqueductref06_two.f kj1 a0_4).bind fun t196 => (if ((a0_0 ++ a0_1) ++ (t194 ++ t195)).size + t196.size ≤ 9223372036854775807 then (if (a0_5.size : Int) > (wrap64 (1518 - ((((a0_0 ++ a0_1) ++ (t194 ++ t195)) ++ t196).size : Int))) then (some ((⟨#[]⟩ : ByteArray), 61)) else (if (((a0_0 ++ a0_1) ++ (t194 ++ t195)) ++ t196).size + a0_5.size ≤ 9223372036854775807 then (some ((((a0_0 ++ a0_1) ++ (t194 ++ t195)) ++ t196) ++ a0_5, 0)) else (none))) else (none))) else (none)) else (none)) = some (r1, r2) := H
            have A22 := Aside0.mk A220
            clear A220
            by_cases c23 : t194.size + t195.size ≤ 9223372036854775807
            · rw [if_pos c23] at H
              have c23b0 := eq_true c23
              have c23b1 : decide (t194.size + t195.size ≤ 9223372036854775807) = true := decide_eq_true c23
              try have c23b2 : (9223372036854775807 < t194.size + t195.size) = False := eq_false (Nat.not_lt.2 c23)
              by_cases c24 : (a0_0 ++ a0_1).size + (t194 ++ t195).size ≤ 9223372036854775807
              · rw [if_pos c24] at H
                have c24b0 := eq_true c24
                have c24b1 : decide ((a0_0 ++ a0_1).size + (t194 ++ t195).size ≤ 9223372036854775807) = true := decide_eq_true c24
                try have c24b2 : (9223372036854775807 < (a0_0 ++ a0_1).size + (t194 ++ t195).size) = False := eq_false (Nat.not_lt.2 c24)
                (try (have c24b3 : (9223372036854775807 < ((a0_0.size) + (a0_1.size)) + ((t194.size) + (t195.size))) = False := eq_false (by have h_ := c24; simp only [ByteArray.size_append] at h_; omega)))
                (try (have c24b4 : (((a0_0.size) + (a0_1.size)) + ((t194.size) + (t195.size)) ≤ 9223372036854775807) = True := eq_true (by have h_ := c24; simp only [ByteArray.size_append] at h_; omega)))
                replace H := Option.bind_eq_some_iff.mp H
                obtain ⟨t196, A250, H⟩ := H
                replace H : (if ((a0_0 ++ a0_1) ++ (t194 ++ t195)).size + t196.size ≤ 9223372036854775807 then (if (a0_5.size : Int) > (wrap64 (1518 - ((((a0_0 ++ a0_1) ++ (t194 ++ t195)) ++ t196).size : Int))) then (some ((⟨#[]⟩ : ByteArray), 61)) else (if (((a0_0 ++ a0_1) ++ (t194 ++ t195)) ++ t196).size + a0_5.size ≤ 9223372036854775807 then (some ((((a0_0 ++ a0_1) ++ (t194 ++ t195)) ++ t196) ++ a0_5, 0)) else (none))) else (none)) = some (r1, r2) := H
                have A25 := Aside0.mk A250
                clear A250
                by_cases c26 : ((a0_0 ++ a0_1) ++ (t194 ++ t195)).size + t196.size ≤ 9223372036854775807
                · rw [if_pos c26] at H
                  have c26b0 := eq_true c26
                  have c26b1 : decide (((a0_0 ++ a0_1) ++ (t194 ++ t195)).size + t196.size ≤ 9223372036854775807) = true := decide_eq_true c26
                  try have c26b2 : (9223372036854775807 < ((a0_0 ++ a0_1) ++ (t194 ++ t195)).size + t196.size) = False := eq_false (Nat.not_lt.2 c26)
                  (try (have c26b3 : (9223372036854775807 < (((a0_0.size) + (a0_1.size)) + ((t194.size) + (t195.size))) + t196.size) = False := eq_false (by have h_ := c26; simp only [ByteArray.size_append] at h_; omega)))
                  (try (have c26b4 : ((((a0_0.size) + (a0_1.size)) + ((t194.size) + (t195.size))) + t196.size ≤ 9223372036854775807) = True := eq_true (by have h_ := c26; simp only [ByteArray.size_append] at h_; omega)))
                  by_cases c27 : (a0_5.size : Int) > (wrap64 (1518 - ((((a0_0 ++ a0_1) ++ (t194 ++ t195)) ++ t196).size : Int)))
                  · rw [if_pos c27] at H
                    have c27b0 : decide ((wrap64 (1518 - ((((a0_0 ++ a0_1) ++ (t194 ++ t195)) ++ t196).size : Int))) < (a0_5.size : Int)) = true := decide_eq_true c27
                    (try (have c27b1 : decide ((wrap64 (1518 - ((((a0_0.size : Int) + (a0_1.size : Int)) + ((t194.size : Int) + (t195.size : Int))) + (t196.size : Int)))) < (a0_5.size : Int)) = true := decide_eq_true (by have h_ := c27; simp only [ByteArray.size_append, Int.natCast_add] at h_; first | exact h_ | omega)))
                    clear c27
                    simp only [Option.some.injEq, Prod.mk.injEq] at H
                    obtain ⟨rfl, rfl⟩ := H
                    have hcz28_0 : wc.cell? ⟨gb192, 0, none⟩ = some (.string a0_0) := (blk_cell BK192.out 0).trans rfl
                    have hcz28_1 : wc.cell? ⟨gb192, 1, none⟩ = some (.string a0_1) := (blk_cell BK192.out 1).trans rfl
                    have hcz28_2 : wc.cell? ⟨gb192, 2, none⟩ = some (.int .i64 a0_2) := (blk_cell BK192.out 2).trans rfl
                    have hcz28_3 : wc.cell? ⟨gb192, 3, none⟩ = some (.int .i64 a0_3) := (blk_cell BK192.out 3).trans rfl
                    have hcz28_4 : wc.cell? ⟨gb192, 4, none⟩ = some (.int .i64 a0_4) := (blk_cell BK192.out 4).trans rfl
                    have hcz28_5 : wc.cell? ⟨gb192, 5, none⟩ = some (.string a0_5) := (blk_cell BK192.out 5).trans rfl
                    have hfz28_0 := blk_frozen BK192.out 0
                    have hfz28_1 := blk_frozen BK192.out 1
                    have hfz28_2 := blk_frozen BK192.out 2
                    have hfz28_3 := blk_frozen BK192.out 3
                    have hfz28_4 := blk_frozen BK192.out 4
                    have hfz28_5 := blk_frozen BK192.out 5
                    try go_wp2
                    have n0_ := Aside0.mk (blk_drew BK192.out)
                    have n1_ := Aside0.mk (below_drew1 HB.out)
                    clear BK192
                    clear HB
                    have BK192 := n0_
                    have HB := n1_
                    clear n0_ n1_
                    refine start_ (n := 12) (S := fun w' => w'.cell? ⟨gb192, 0, none⟩ = some (.string a0_0) ∧ w'.cell? ⟨gb192, 1, none⟩ = some (.string a0_1) ∧ w'.cell? ⟨gb192, 2, none⟩ = some (.int .i64 a0_2) ∧ w'.cell? ⟨gb192, 3, none⟩ = some (.int .i64 a0_3) ∧ w'.cell? ⟨gb192, 4, none⟩ = some (.int .i64 a0_4) ∧ w'.cell? ⟨gb192, 5, none⟩ = some (.string a0_5)) (ds := []) #[false, false, false, false, false, false, false, false, false, false, false, false] (by kernel_rfl) rfl rfl ⟨(blk_cell BK192.out 0).trans rfl, (blk_cell BK192.out 1).trans rfl, (blk_cell BK192.out 2).trans rfl, (blk_cell BK192.out 3).trans rfl, (blk_cell BK192.out 4).trans rfl, (blk_cell BK192.out 5).trans rfl⟩ (fun hHeld => ?_); refine with_tabW aqueductref06_Build.tab5 aqueductref06_Build.bits5 (fun HT_ HW_ => ?_)
                    generalize wc.drew = w29 at BK192 HB hHeld ⊢
                    refine pure_ (i := 0) (N := some 49) (v := ?_) (a' := ?_) #[true, false, false, false, false, false, false, false, false, false, false, false] rfl rfl (any_of HT_.out (by kernel_rfl)) (fun _ _ _ h => h) (Or.inl ⟨by rfl, ?_⟩) ?_ ?_
                    rotate_left
                    · intro w'
                      go_simp
                      with_reducible rfl
                    rotate_left
                    · simp only [Act.put, List.setIfInBounds_toArray, List.set_cons_zero, List.set_cons_succ, i64_w, i32_w]
                      rfl
                    refine pure_ (i := 2) (N := some 51) (v := ?_) (a' := ?_) #[true, false, true, false, false, false, false, false, false, false, false, false] rfl rfl (any_of HT_.out (by kernel_rfl)) (fun _ _ _ h => h) (Or.inl ⟨by rfl, ?_⟩) ?_ ?_
                    rotate_left
                    · intro w'
                      go_simp
                      with_reducible rfl
                    rotate_left
                    · simp only [Act.put, List.setIfInBounds_toArray, List.set_cons_zero, List.set_cons_succ, i64_w, i32_w]
                      rfl
                    refine pure_ (i := 5) (N := some 54) (v := ?_) (a' := ?_) #[true, false, true, false, false, true, false, false, false, false, false, false] rfl rfl (any_of HT_.out (by kernel_rfl)) (fun _ _ _ h => h) (Or.inl ⟨by rfl, ?_⟩) ?_ ?_
                    rotate_left
                    · intro w'
                      go_simp
                      with_reducible rfl
                    rotate_left
                    · simp only [Act.put, List.setIfInBounds_toArray, List.set_cons_zero, List.set_cons_succ, i64_w, i32_w]
                      rfl
                    refine take_ (i := 3) (N := some 52) (v := ?_) (a' := ?_) #[true, false, true, true, false, true, false, false, false, false, false, false] rfl rfl (take_ofW HT_.out HW_.out (by kernel_rfl)) (fun _ _ _ h => h) (Or.inl ⟨by rfl, ?_⟩) hHeld ?_ ?_
                    rotate_left
                    · rintro w' ⟨s0, s1, s2, s3, s4, s5⟩
                      go_simp
                      with_reducible rfl
                    rotate_left
                    · simp only [Act.put, List.setIfInBounds_toArray, List.set_cons_zero, List.set_cons_succ, i64_w, i32_w]
                      rfl
                    refine pure_ (i := 4) (N := some 53) (v := ?_) (a' := ?_) #[true, false, true, true, true, true, false, false, false, false, false, false] rfl rfl (any_of HT_.out (by kernel_rfl)) (fun _ _ _ h => h) (Or.inl ⟨by rfl, ?_⟩) ?_ ?_
                    rotate_left
                    · intro w'
                      go_simp
                      with_reducible rfl
                    rotate_left
                    · simp only [Act.put, List.setIfInBounds_toArray, List.set_cons_zero, List.set_cons_succ, i64_w, i32_w]
                      rfl
                    refine take_ (i := 6) (N := some 55) (v := ?_) (a' := ?_) #[true, false, true, true, true, true, true, false, false, false, false, false] rfl rfl (take_ofW HT_.out HW_.out (by kernel_rfl)) (fun _ _ _ h => h) (Or.inl ⟨by rfl, ?_⟩) hHeld ?_ ?_
                    rotate_left
                    · rintro w' ⟨s0, s1, s2, s3, s4, s5⟩
                      go_simp
                      with_reducible rfl
                    rotate_left
                    · simp only [Act.put, List.setIfInBounds_toArray, List.set_cons_zero, List.set_cons_succ, i64_w, i32_w]
                      rfl
                    refine pure_ (i := 7) (N := some 56) (v := ?_) (a' := ?_) #[true, false, true, true, true, true, true, true, false, false, false, false] rfl rfl (any_of HT_.out (by kernel_rfl)) (fun _ _ _ h => h) (Or.inl ⟨by rfl, ?_⟩) ?_ ?_
                    rotate_left
                    · intro w'
                      go_simp
                      with_reducible rfl
                    rotate_left
                    · simp only [Act.put, List.setIfInBounds_toArray, List.set_cons_zero, List.set_cons_succ, i64_w, i32_w]
                      rfl
                    refine one_ (i := 1) (N := some 50) #[true, true, true, true, true, true, true, true, false, false, false, false] rfl rfl (one_of HT_.out (by kernel_rfl)) (by decide) (fun K hK => ?_)
                    refine goes_ Try.func24 (by kernel_rfl) rfl #[.int .i64 33024] (by rfl) rfl rfl (by (try simp only [List.map_toArray, List.map_cons, List.map_nil]); first | done | rfl | (simp only [List.length_drop, List.length_take]; rfl)) ?_
                    with_reducible refine (aqueductref06_two.calls kj1 33024 t194 _ A21.out).mono ?_
                    rintro e w30 ⟨rfl, hb⟩
                    refine ⟨_, rfl, ?_⟩
                    have n0_ := Aside0.mk (blk_below (g := gb192) (o := .cells #[.string a0_0, .string a0_1, .int .i64 a0_2, .int .i64 a0_3, .int .i64 a0_4, .string a0_5] 23 (0, 0)) (by (with_reducible repeat (first | refine blk_drewN ?_ _ | refine blk_drew ?_ | refine blk_alloc ?_ _)); exact BK192.out) hb)
                    have n1_ := Aside0.mk (below_step (by repeat (first | (with_reducible first | exact HB.out | apply below_alloc | apply pw_below_drewN | apply below_drew1 | refine below_set ?_ GE192.out) | exact HB.out)) hb)
                    clear BK192
                    clear HB
                    have BK192 := n0_
                    have HB := n1_
                    clear n0_ n1_
                    (try clear hb)
                    (try clear hb2)
                    (try clear hk)
                    (try clear hi)
                    refine hK.out _ _ ⟨(blk_cell BK192.out 0).trans rfl, (blk_cell BK192.out 1).trans rfl, (blk_cell BK192.out 2).trans rfl, (blk_cell BK192.out 3).trans rfl, (blk_cell BK192.out 4).trans rfl, (blk_cell BK192.out 5).trans rfl⟩ (fun hHeld => ?_)
                    clear hK K
                    refine norm_ (a' := ?_) ?_ ?_
                    rotate_left
                    · show Act.put _ (some 50) _ = _
                      simp only [Act.put, List.setIfInBounds_toArray, List.set_cons_zero, List.set_cons_succ, i64_w, i32_w]
                      rfl
                    refine one_ (i := 8) (N := some 57) #[true, true, true, true, true, true, true, true, true, false, false, false] rfl rfl (one_of HT_.out (by kernel_rfl)) (by decide) (fun K hK => ?_)
                    refine goes_ Try.func24 (by kernel_rfl) rfl #[.int .i64 (wrap64 ((wrap64 (8192 * a0_3)) + a0_2))] (by rfl) rfl rfl (by (try simp only [List.map_toArray, List.map_cons, List.map_nil]); first | done | rfl | (simp only [List.length_drop, List.length_take]; rfl)) ?_
                    with_reducible refine (aqueductref06_two.calls kj1 (wrap64 ((wrap64 (8192 * a0_3)) + a0_2)) t195 _ A22.out).mono ?_
                    rintro e w31 ⟨rfl, hb⟩
                    refine ⟨_, rfl, ?_⟩
                    have n0_ := Aside0.mk (blk_below (g := gb192) (o := .cells #[.string a0_0, .string a0_1, .int .i64 a0_2, .int .i64 a0_3, .int .i64 a0_4, .string a0_5] 23 (0, 0)) (by (with_reducible repeat (first | refine blk_drewN ?_ _ | refine blk_drew ?_ | refine blk_alloc ?_ _)); exact BK192.out) hb)
                    have n1_ := Aside0.mk (below_step (by repeat (first | (with_reducible first | exact HB.out | apply below_alloc | apply pw_below_drewN | apply below_drew1 | refine below_set ?_ GE192.out) | exact HB.out)) hb)
                    clear BK192
                    clear HB
                    have BK192 := n0_
                    have HB := n1_
                    clear n0_ n1_
                    (try clear hb)
                    (try clear hb2)
                    (try clear hk)
                    (try clear hi)
                    refine hK.out _ _ ⟨(blk_cell BK192.out 0).trans rfl, (blk_cell BK192.out 1).trans rfl, (blk_cell BK192.out 2).trans rfl, (blk_cell BK192.out 3).trans rfl, (blk_cell BK192.out 4).trans rfl, (blk_cell BK192.out 5).trans rfl⟩ (fun hHeld => ?_)
                    clear hK K
                    refine norm_ (a' := ?_) ?_ ?_
                    rotate_left
                    · show Act.put _ (some 57) _ = _
                      simp only [Act.put, List.setIfInBounds_toArray, List.set_cons_zero, List.set_cons_succ, i64_w, i32_w]
                      rfl
                    refine pure_ (i := 9) (N := some 58) (v := ?_) (a' := ?_) #[true, true, true, true, true, true, true, true, true, true, false, false] rfl rfl (any_of HT_.out (by kernel_rfl)) (fun _ _ _ h => h) (Or.inl ⟨by rfl, ?_⟩) ?_ ?_
                    rotate_left
                    · intro w'
                      go_simp
                      with_reducible rfl
                    rotate_left
                    · simp only [Act.put, List.setIfInBounds_toArray, List.set_cons_zero, List.set_cons_succ, i64_w, i32_w]
                      rfl
                    refine pure_ (i := 10) (N := some 59) (v := ?_) (a' := ?_) #[true, true, true, true, true, true, true, true, true, true, true, false] rfl rfl (any_of HT_.out (by kernel_rfl)) (fun _ _ _ h => h) (Or.inl ⟨by rfl, ?_⟩) ?_ ?_
                    rotate_left
                    · intro w'
                      go_simp
                      with_reducible rfl
                    rotate_left
                    · simp only [Act.put, List.setIfInBounds_toArray, List.set_cons_zero, List.set_cons_succ, i64_w, i32_w]
                      rfl
                    refine pure_ (i := 11) (N := some 4) (v := ?_) (a' := ?_) #[true, true, true, true, true, true, true, true, true, true, true, true] rfl rfl (any_of HT_.out (by kernel_rfl)) (fun _ _ _ h => h) (Or.inl ⟨by rfl, ?_⟩) ?_ ?_
                    rotate_left
                    · intro w'
                      go_simp
                      with_reducible rfl
                    rotate_left
                    · simp only [Act.put, List.setIfInBounds_toArray, List.set_cons_zero, List.set_cons_succ, i64_w, i32_w]
                      rfl
                    refine done_ (done_of HT_.out (by kernel_rfl)) ?_
                    have hcz32_0 : w31.cell? ⟨gb192, 0, none⟩ = some (.string a0_0) := (blk_cell BK192.out 0).trans rfl
                    have hcz32_1 : w31.cell? ⟨gb192, 1, none⟩ = some (.string a0_1) := (blk_cell BK192.out 1).trans rfl
                    have hcz32_2 : w31.cell? ⟨gb192, 2, none⟩ = some (.int .i64 a0_2) := (blk_cell BK192.out 2).trans rfl
                    have hcz32_3 : w31.cell? ⟨gb192, 3, none⟩ = some (.int .i64 a0_3) := (blk_cell BK192.out 3).trans rfl
                    have hcz32_4 : w31.cell? ⟨gb192, 4, none⟩ = some (.int .i64 a0_4) := (blk_cell BK192.out 4).trans rfl
                    have hcz32_5 : w31.cell? ⟨gb192, 5, none⟩ = some (.string a0_5) := (blk_cell BK192.out 5).trans rfl
                    have hfz32_0 := blk_frozen BK192.out 0
                    have hfz32_1 := blk_frozen BK192.out 1
                    have hfz32_2 := blk_frozen BK192.out 2
                    have hfz32_3 := blk_frozen BK192.out 3
                    have hfz32_4 := blk_frozen BK192.out 4
                    have hfz32_5 := blk_frozen BK192.out 5
                    try go_wp2_with (first | ((with_reducible refine gate_callee (f := 24) rfl ?_); refine goesL_ (some 66) rfl rfl Try.func24 (by kernel_rfl) rfl #[.int .i64 a0_4] rfl (by (try simp only [List.map_toArray, List.map_cons, List.map_nil]); first | done | rfl | (simp only [List.length_drop, List.length_take]; rfl)) ?_; (with_reducible refine (aqueductref06_two.calls kj1 a0_4 t196 _ A25.out).mono ?_); rintro e w33 ⟨rfl, hb⟩; refine ⟨_, rfl, ?_⟩; have n0_ := Aside0.mk (blk_below (g := gb192) (o := .cells #[.string a0_0, .string a0_1, .int .i64 a0_2, .int .i64 a0_3, .int .i64 a0_4, .string a0_5] 23 (0, 0)) (by (with_reducible repeat (first | refine blk_drewN ?_ _ | refine blk_drew ?_ | refine blk_alloc ?_ _)); exact BK192.out) hb); have n1_ := Aside0.mk (below_step (by repeat (first | (with_reducible first | exact HB.out | apply below_alloc | apply pw_below_drewN | apply below_drew1 | refine below_set ?_ GE192.out) | exact HB.out)) hb); clear BK192; clear HB; have BK192 := n0_; have HB := n1_; clear n0_ n1_; (try clear hb); (try clear hb2); (try clear hk); (try clear hi); have hcz34_0 : w33.cell? ⟨gb192, 0, none⟩ = some (.string a0_0) := (blk_cell BK192.out 0).trans rfl; have hcz34_1 : w33.cell? ⟨gb192, 1, none⟩ = some (.string a0_1) := (blk_cell BK192.out 1).trans rfl; have hcz34_2 : w33.cell? ⟨gb192, 2, none⟩ = some (.int .i64 a0_2) := (blk_cell BK192.out 2).trans rfl; have hcz34_3 : w33.cell? ⟨gb192, 3, none⟩ = some (.int .i64 a0_3) := (blk_cell BK192.out 3).trans rfl; have hcz34_4 : w33.cell? ⟨gb192, 4, none⟩ = some (.int .i64 a0_4) := (blk_cell BK192.out 4).trans rfl; have hcz34_5 : w33.cell? ⟨gb192, 5, none⟩ = some (.string a0_5) := (blk_cell BK192.out 5).trans rfl; have hfz34_0 := blk_frozen BK192.out 0; have hfz34_1 := blk_frozen BK192.out 1; have hfz34_2 := blk_frozen BK192.out 2; have hfz34_3 := blk_frozen BK192.out 3; have hfz34_4 := blk_frozen BK192.out 4; have hfz34_5 := blk_frozen BK192.out 5))
                    go_ret2
                    exact ⟨by first | rfl | (simp [errW_none, errW_some] <;> rfl) | (simp [*, errW_none, errW_some] <;> rfl), by repeat (first | (with_reducible first | exact HB.out | apply below_alloc | apply pw_below_drewN | apply below_drew1 | refine below_set ?_ GE192.out) | exact HB.out)⟩
                  · rw [if_neg c27] at H
                    have c27b0 : decide ((wrap64 (1518 - ((((a0_0 ++ a0_1) ++ (t194 ++ t195)) ++ t196).size : Int))) < (a0_5.size : Int)) = false := decide_eq_false c27
                    (try (have c27b1 : decide ((wrap64 (1518 - ((((a0_0.size : Int) + (a0_1.size : Int)) + ((t194.size : Int) + (t195.size : Int))) + (t196.size : Int)))) < (a0_5.size : Int)) = false := decide_eq_false (by have h_ := c27; simp only [ByteArray.size_append, Int.natCast_add] at h_; first | exact h_ | omega)))
                    clear c27
                    by_cases c35 : (((a0_0 ++ a0_1) ++ (t194 ++ t195)) ++ t196).size + a0_5.size ≤ 9223372036854775807
                    · rw [if_pos c35] at H
                      have c35b0 := eq_true c35
                      have c35b1 : decide ((((a0_0 ++ a0_1) ++ (t194 ++ t195)) ++ t196).size + a0_5.size ≤ 9223372036854775807) = true := decide_eq_true c35
                      try have c35b2 : (9223372036854775807 < (((a0_0 ++ a0_1) ++ (t194 ++ t195)) ++ t196).size + a0_5.size) = False := eq_false (Nat.not_lt.2 c35)
                      (try (have c35b3 : (9223372036854775807 < ((((a0_0.size) + (a0_1.size)) + ((t194.size) + (t195.size))) + (t196.size)) + a0_5.size) = False := eq_false (by have h_ := c35; simp only [ByteArray.size_append] at h_; omega)))
                      (try (have c35b4 : (((((a0_0.size) + (a0_1.size)) + ((t194.size) + (t195.size))) + (t196.size)) + a0_5.size ≤ 9223372036854775807) = True := eq_true (by have h_ := c35; simp only [ByteArray.size_append] at h_; omega)))
                      simp only [Option.some.injEq, Prod.mk.injEq] at H
                      obtain ⟨rfl, rfl⟩ := H
                      have hcz36_0 : wc.cell? ⟨gb192, 0, none⟩ = some (.string a0_0) := (blk_cell BK192.out 0).trans rfl
                      have hcz36_1 : wc.cell? ⟨gb192, 1, none⟩ = some (.string a0_1) := (blk_cell BK192.out 1).trans rfl
                      have hcz36_2 : wc.cell? ⟨gb192, 2, none⟩ = some (.int .i64 a0_2) := (blk_cell BK192.out 2).trans rfl
                      have hcz36_3 : wc.cell? ⟨gb192, 3, none⟩ = some (.int .i64 a0_3) := (blk_cell BK192.out 3).trans rfl
                      have hcz36_4 : wc.cell? ⟨gb192, 4, none⟩ = some (.int .i64 a0_4) := (blk_cell BK192.out 4).trans rfl
                      have hcz36_5 : wc.cell? ⟨gb192, 5, none⟩ = some (.string a0_5) := (blk_cell BK192.out 5).trans rfl
                      have hfz36_0 := blk_frozen BK192.out 0
                      have hfz36_1 := blk_frozen BK192.out 1
                      have hfz36_2 := blk_frozen BK192.out 2
                      have hfz36_3 := blk_frozen BK192.out 3
                      have hfz36_4 := blk_frozen BK192.out 4
                      have hfz36_5 := blk_frozen BK192.out 5
                      try go_wp2
                      have n0_ := Aside0.mk (blk_drew BK192.out)
                      have n1_ := Aside0.mk (below_drew1 HB.out)
                      clear BK192
                      clear HB
                      have BK192 := n0_
                      have HB := n1_
                      clear n0_ n1_
                      refine start_ (n := 12) (S := fun w' => w'.cell? ⟨gb192, 0, none⟩ = some (.string a0_0) ∧ w'.cell? ⟨gb192, 1, none⟩ = some (.string a0_1) ∧ w'.cell? ⟨gb192, 2, none⟩ = some (.int .i64 a0_2) ∧ w'.cell? ⟨gb192, 3, none⟩ = some (.int .i64 a0_3) ∧ w'.cell? ⟨gb192, 4, none⟩ = some (.int .i64 a0_4) ∧ w'.cell? ⟨gb192, 5, none⟩ = some (.string a0_5)) (ds := []) #[false, false, false, false, false, false, false, false, false, false, false, false] (by kernel_rfl) rfl rfl ⟨(blk_cell BK192.out 0).trans rfl, (blk_cell BK192.out 1).trans rfl, (blk_cell BK192.out 2).trans rfl, (blk_cell BK192.out 3).trans rfl, (blk_cell BK192.out 4).trans rfl, (blk_cell BK192.out 5).trans rfl⟩ (fun hHeld => ?_); refine with_tabW aqueductref06_Build.tab5 aqueductref06_Build.bits5 (fun HT_ HW_ => ?_)
                      generalize wc.drew = w37 at BK192 HB hHeld ⊢
                      refine pure_ (i := 0) (N := some 49) (v := ?_) (a' := ?_) #[true, false, false, false, false, false, false, false, false, false, false, false] rfl rfl (any_of HT_.out (by kernel_rfl)) (fun _ _ _ h => h) (Or.inl ⟨by rfl, ?_⟩) ?_ ?_
                      rotate_left
                      · intro w'
                        go_simp
                        with_reducible rfl
                      rotate_left
                      · simp only [Act.put, List.setIfInBounds_toArray, List.set_cons_zero, List.set_cons_succ, i64_w, i32_w]
                        rfl
                      refine pure_ (i := 2) (N := some 51) (v := ?_) (a' := ?_) #[true, false, true, false, false, false, false, false, false, false, false, false] rfl rfl (any_of HT_.out (by kernel_rfl)) (fun _ _ _ h => h) (Or.inl ⟨by rfl, ?_⟩) ?_ ?_
                      rotate_left
                      · intro w'
                        go_simp
                        with_reducible rfl
                      rotate_left
                      · simp only [Act.put, List.setIfInBounds_toArray, List.set_cons_zero, List.set_cons_succ, i64_w, i32_w]
                        rfl
                      refine pure_ (i := 5) (N := some 54) (v := ?_) (a' := ?_) #[true, false, true, false, false, true, false, false, false, false, false, false] rfl rfl (any_of HT_.out (by kernel_rfl)) (fun _ _ _ h => h) (Or.inl ⟨by rfl, ?_⟩) ?_ ?_
                      rotate_left
                      · intro w'
                        go_simp
                        with_reducible rfl
                      rotate_left
                      · simp only [Act.put, List.setIfInBounds_toArray, List.set_cons_zero, List.set_cons_succ, i64_w, i32_w]
                        rfl
                      refine take_ (i := 3) (N := some 52) (v := ?_) (a' := ?_) #[true, false, true, true, false, true, false, false, false, false, false, false] rfl rfl (take_ofW HT_.out HW_.out (by kernel_rfl)) (fun _ _ _ h => h) (Or.inl ⟨by rfl, ?_⟩) hHeld ?_ ?_
                      rotate_left
                      · rintro w' ⟨s0, s1, s2, s3, s4, s5⟩
                        go_simp
                        with_reducible rfl
                      rotate_left
                      · simp only [Act.put, List.setIfInBounds_toArray, List.set_cons_zero, List.set_cons_succ, i64_w, i32_w]
                        rfl
                      refine pure_ (i := 4) (N := some 53) (v := ?_) (a' := ?_) #[true, false, true, true, true, true, false, false, false, false, false, false] rfl rfl (any_of HT_.out (by kernel_rfl)) (fun _ _ _ h => h) (Or.inl ⟨by rfl, ?_⟩) ?_ ?_
                      rotate_left
                      · intro w'
                        go_simp
                        with_reducible rfl
                      rotate_left
                      · simp only [Act.put, List.setIfInBounds_toArray, List.set_cons_zero, List.set_cons_succ, i64_w, i32_w]
                        rfl
                      refine take_ (i := 6) (N := some 55) (v := ?_) (a' := ?_) #[true, false, true, true, true, true, true, false, false, false, false, false] rfl rfl (take_ofW HT_.out HW_.out (by kernel_rfl)) (fun _ _ _ h => h) (Or.inl ⟨by rfl, ?_⟩) hHeld ?_ ?_
                      rotate_left
                      · rintro w' ⟨s0, s1, s2, s3, s4, s5⟩
                        go_simp
                        with_reducible rfl
                      rotate_left
                      · simp only [Act.put, List.setIfInBounds_toArray, List.set_cons_zero, List.set_cons_succ, i64_w, i32_w]
                        rfl
                      refine pure_ (i := 7) (N := some 56) (v := ?_) (a' := ?_) #[true, false, true, true, true, true, true, true, false, false, false, false] rfl rfl (any_of HT_.out (by kernel_rfl)) (fun _ _ _ h => h) (Or.inl ⟨by rfl, ?_⟩) ?_ ?_
                      rotate_left
                      · intro w'
                        go_simp
                        with_reducible rfl
                      rotate_left
                      · simp only [Act.put, List.setIfInBounds_toArray, List.set_cons_zero, List.set_cons_succ, i64_w, i32_w]
                        rfl
                      refine one_ (i := 1) (N := some 50) #[true, true, true, true, true, true, true, true, false, false, false, false] rfl rfl (one_of HT_.out (by kernel_rfl)) (by decide) (fun K hK => ?_)
                      refine goes_ Try.func24 (by kernel_rfl) rfl #[.int .i64 33024] (by rfl) rfl rfl (by (try simp only [List.map_toArray, List.map_cons, List.map_nil]); first | done | rfl | (simp only [List.length_drop, List.length_take]; rfl)) ?_
                      with_reducible refine (aqueductref06_two.calls kj1 33024 t194 _ A21.out).mono ?_
                      rintro e w38 ⟨rfl, hb⟩
                      refine ⟨_, rfl, ?_⟩
                      have n0_ := Aside0.mk (blk_below (g := gb192) (o := .cells #[.string a0_0, .string a0_1, .int .i64 a0_2, .int .i64 a0_3, .int .i64 a0_4, .string a0_5] 23 (0, 0)) (by (with_reducible repeat (first | refine blk_drewN ?_ _ | refine blk_drew ?_ | refine blk_alloc ?_ _)); exact BK192.out) hb)
                      have n1_ := Aside0.mk (below_step (by repeat (first | (with_reducible first | exact HB.out | apply below_alloc | apply pw_below_drewN | apply below_drew1 | refine below_set ?_ GE192.out) | exact HB.out)) hb)
                      clear BK192
                      clear HB
                      have BK192 := n0_
                      have HB := n1_
                      clear n0_ n1_
                      (try clear hb)
                      (try clear hb2)
                      (try clear hk)
                      (try clear hi)
                      refine hK.out _ _ ⟨(blk_cell BK192.out 0).trans rfl, (blk_cell BK192.out 1).trans rfl, (blk_cell BK192.out 2).trans rfl, (blk_cell BK192.out 3).trans rfl, (blk_cell BK192.out 4).trans rfl, (blk_cell BK192.out 5).trans rfl⟩ (fun hHeld => ?_)
                      clear hK K
                      refine norm_ (a' := ?_) ?_ ?_
                      rotate_left
                      · show Act.put _ (some 50) _ = _
                        simp only [Act.put, List.setIfInBounds_toArray, List.set_cons_zero, List.set_cons_succ, i64_w, i32_w]
                        rfl
                      refine one_ (i := 8) (N := some 57) #[true, true, true, true, true, true, true, true, true, false, false, false] rfl rfl (one_of HT_.out (by kernel_rfl)) (by decide) (fun K hK => ?_)
                      refine goes_ Try.func24 (by kernel_rfl) rfl #[.int .i64 (wrap64 ((wrap64 (8192 * a0_3)) + a0_2))] (by rfl) rfl rfl (by (try simp only [List.map_toArray, List.map_cons, List.map_nil]); first | done | rfl | (simp only [List.length_drop, List.length_take]; rfl)) ?_
                      with_reducible refine (aqueductref06_two.calls kj1 (wrap64 ((wrap64 (8192 * a0_3)) + a0_2)) t195 _ A22.out).mono ?_
                      rintro e w39 ⟨rfl, hb⟩
                      refine ⟨_, rfl, ?_⟩
                      have n0_ := Aside0.mk (blk_below (g := gb192) (o := .cells #[.string a0_0, .string a0_1, .int .i64 a0_2, .int .i64 a0_3, .int .i64 a0_4, .string a0_5] 23 (0, 0)) (by (with_reducible repeat (first | refine blk_drewN ?_ _ | refine blk_drew ?_ | refine blk_alloc ?_ _)); exact BK192.out) hb)
                      have n1_ := Aside0.mk (below_step (by repeat (first | (with_reducible first | exact HB.out | apply below_alloc | apply pw_below_drewN | apply below_drew1 | refine below_set ?_ GE192.out) | exact HB.out)) hb)
                      clear BK192
                      clear HB
                      have BK192 := n0_
                      have HB := n1_
                      clear n0_ n1_
                      (try clear hb)
                      (try clear hb2)
                      (try clear hk)
                      (try clear hi)
                      refine hK.out _ _ ⟨(blk_cell BK192.out 0).trans rfl, (blk_cell BK192.out 1).trans rfl, (blk_cell BK192.out 2).trans rfl, (blk_cell BK192.out 3).trans rfl, (blk_cell BK192.out 4).trans rfl, (blk_cell BK192.out 5).trans rfl⟩ (fun hHeld => ?_)
                      clear hK K
                      refine norm_ (a' := ?_) ?_ ?_
                      rotate_left
                      · show Act.put _ (some 57) _ = _
                        simp only [Act.put, List.setIfInBounds_toArray, List.set_cons_zero, List.set_cons_succ, i64_w, i32_w]
                        rfl
                      refine pure_ (i := 9) (N := some 58) (v := ?_) (a' := ?_) #[true, true, true, true, true, true, true, true, true, true, false, false] rfl rfl (any_of HT_.out (by kernel_rfl)) (fun _ _ _ h => h) (Or.inl ⟨by rfl, ?_⟩) ?_ ?_
                      rotate_left
                      · intro w'
                        go_simp
                        with_reducible rfl
                      rotate_left
                      · simp only [Act.put, List.setIfInBounds_toArray, List.set_cons_zero, List.set_cons_succ, i64_w, i32_w]
                        rfl
                      refine pure_ (i := 10) (N := some 59) (v := ?_) (a' := ?_) #[true, true, true, true, true, true, true, true, true, true, true, false] rfl rfl (any_of HT_.out (by kernel_rfl)) (fun _ _ _ h => h) (Or.inl ⟨by rfl, ?_⟩) ?_ ?_
                      rotate_left
                      · intro w'
                        go_simp
                        with_reducible rfl
                      rotate_left
                      · simp only [Act.put, List.setIfInBounds_toArray, List.set_cons_zero, List.set_cons_succ, i64_w, i32_w]
                        rfl
                      refine pure_ (i := 11) (N := some 4) (v := ?_) (a' := ?_) #[true, true, true, true, true, true, true, true, true, true, true, true] rfl rfl (any_of HT_.out (by kernel_rfl)) (fun _ _ _ h => h) (Or.inl ⟨by rfl, ?_⟩) ?_ ?_
                      rotate_left
                      · intro w'
                        go_simp
                        with_reducible rfl
                      rotate_left
                      · simp only [Act.put, List.setIfInBounds_toArray, List.set_cons_zero, List.set_cons_succ, i64_w, i32_w]
                        rfl
                      refine done_ (done_of HT_.out (by kernel_rfl)) ?_
                      have hcz40_0 : w39.cell? ⟨gb192, 0, none⟩ = some (.string a0_0) := (blk_cell BK192.out 0).trans rfl
                      have hcz40_1 : w39.cell? ⟨gb192, 1, none⟩ = some (.string a0_1) := (blk_cell BK192.out 1).trans rfl
                      have hcz40_2 : w39.cell? ⟨gb192, 2, none⟩ = some (.int .i64 a0_2) := (blk_cell BK192.out 2).trans rfl
                      have hcz40_3 : w39.cell? ⟨gb192, 3, none⟩ = some (.int .i64 a0_3) := (blk_cell BK192.out 3).trans rfl
                      have hcz40_4 : w39.cell? ⟨gb192, 4, none⟩ = some (.int .i64 a0_4) := (blk_cell BK192.out 4).trans rfl
                      have hcz40_5 : w39.cell? ⟨gb192, 5, none⟩ = some (.string a0_5) := (blk_cell BK192.out 5).trans rfl
                      have hfz40_0 := blk_frozen BK192.out 0
                      have hfz40_1 := blk_frozen BK192.out 1
                      have hfz40_2 := blk_frozen BK192.out 2
                      have hfz40_3 := blk_frozen BK192.out 3
                      have hfz40_4 := blk_frozen BK192.out 4
                      have hfz40_5 := blk_frozen BK192.out 5
                      try go_wp2_with (first | ((with_reducible refine gate_callee (f := 24) rfl ?_); refine goesL_ (some 66) rfl rfl Try.func24 (by kernel_rfl) rfl #[.int .i64 a0_4] rfl (by (try simp only [List.map_toArray, List.map_cons, List.map_nil]); first | done | rfl | (simp only [List.length_drop, List.length_take]; rfl)) ?_; (with_reducible refine (aqueductref06_two.calls kj1 a0_4 t196 _ A25.out).mono ?_); rintro e w41 ⟨rfl, hb⟩; refine ⟨_, rfl, ?_⟩; have n0_ := Aside0.mk (blk_below (g := gb192) (o := .cells #[.string a0_0, .string a0_1, .int .i64 a0_2, .int .i64 a0_3, .int .i64 a0_4, .string a0_5] 23 (0, 0)) (by (with_reducible repeat (first | refine blk_drewN ?_ _ | refine blk_drew ?_ | refine blk_alloc ?_ _)); exact BK192.out) hb); have n1_ := Aside0.mk (below_step (by repeat (first | (with_reducible first | exact HB.out | apply below_alloc | apply pw_below_drewN | apply below_drew1 | refine below_set ?_ GE192.out) | exact HB.out)) hb); clear BK192; clear HB; have BK192 := n0_; have HB := n1_; clear n0_ n1_; (try clear hb); (try clear hb2); (try clear hk); (try clear hi); have hcz42_0 : w41.cell? ⟨gb192, 0, none⟩ = some (.string a0_0) := (blk_cell BK192.out 0).trans rfl; have hcz42_1 : w41.cell? ⟨gb192, 1, none⟩ = some (.string a0_1) := (blk_cell BK192.out 1).trans rfl; have hcz42_2 : w41.cell? ⟨gb192, 2, none⟩ = some (.int .i64 a0_2) := (blk_cell BK192.out 2).trans rfl; have hcz42_3 : w41.cell? ⟨gb192, 3, none⟩ = some (.int .i64 a0_3) := (blk_cell BK192.out 3).trans rfl; have hcz42_4 : w41.cell? ⟨gb192, 4, none⟩ = some (.int .i64 a0_4) := (blk_cell BK192.out 4).trans rfl; have hcz42_5 : w41.cell? ⟨gb192, 5, none⟩ = some (.string a0_5) := (blk_cell BK192.out 5).trans rfl; have hfz42_0 := blk_frozen BK192.out 0; have hfz42_1 := blk_frozen BK192.out 1; have hfz42_2 := blk_frozen BK192.out 2; have hfz42_3 := blk_frozen BK192.out 3; have hfz42_4 := blk_frozen BK192.out 4; have hfz42_5 := blk_frozen BK192.out 5))
                      go_ret2
                      exact ⟨by first | rfl | (simp [errW_none, errW_some] <;> rfl) | (simp [*, errW_none, errW_some] <;> rfl), by repeat (first | (with_reducible first | exact HB.out | apply below_alloc | apply pw_below_drewN | apply below_drew1 | refine below_set ?_ GE192.out) | exact HB.out)⟩
                    · rw [if_neg c35] at H
                      exact absurd H (by simp)
                · rw [if_neg c26] at H
                  exact absurd H (by simp)
              · rw [if_neg c24] at H
                exact absurd H (by simp)
            · rw [if_neg c23] at H
              exact absurd H (by simp)
          · rw [if_neg c20] at H
            have c20b0 : decide (0 ≤ a0_2) = false := decide_eq_false c20
            clear c20
            by_cases c43 : a0_3 > 0
            · rw [if_pos c43] at H
              have c43b0 : decide (0 < a0_3) = true := decide_eq_true c43
              clear c43
              simp only [Option.some.injEq, Prod.mk.injEq] at H
              obtain ⟨rfl, rfl⟩ := H
              have hcz44_0 : wc.cell? ⟨gb192, 0, none⟩ = some (.string a0_0) := (blk_cell BK192.out 0).trans rfl
              have hcz44_1 : wc.cell? ⟨gb192, 1, none⟩ = some (.string a0_1) := (blk_cell BK192.out 1).trans rfl
              have hcz44_2 : wc.cell? ⟨gb192, 2, none⟩ = some (.int .i64 a0_2) := (blk_cell BK192.out 2).trans rfl
              have hcz44_3 : wc.cell? ⟨gb192, 3, none⟩ = some (.int .i64 a0_3) := (blk_cell BK192.out 3).trans rfl
              have hcz44_4 : wc.cell? ⟨gb192, 4, none⟩ = some (.int .i64 a0_4) := (blk_cell BK192.out 4).trans rfl
              have hcz44_5 : wc.cell? ⟨gb192, 5, none⟩ = some (.string a0_5) := (blk_cell BK192.out 5).trans rfl
              have hfz44_0 := blk_frozen BK192.out 0
              have hfz44_1 := blk_frozen BK192.out 1
              have hfz44_2 := blk_frozen BK192.out 2
              have hfz44_3 := blk_frozen BK192.out 3
              have hfz44_4 := blk_frozen BK192.out 4
              have hfz44_5 := blk_frozen BK192.out 5
              go_wp2
              go_ret2
              exact ⟨by first | rfl | (simp [errW_none, errW_some] <;> rfl) | (simp [*, errW_none, errW_some] <;> rfl), by repeat (first | (with_reducible first | exact HB.out | apply below_alloc | apply pw_below_drewN | apply below_drew1 | refine below_set ?_ GE192.out) | exact HB.out)⟩
            · rw [if_neg c43] at H
              have c43b0 : decide (0 < a0_3) = false := decide_eq_false c43
              clear c43
              replace H := Option.bind_eq_some_iff.mp H
              obtain ⟨t197, A450, H⟩ := H
              replace H : (if (a0_0 ++ a0_1).size + t197.size ≤ 9223372036854775807 then (if (a0_5.size : Int) > (wrap64 (1518 - (((a0_0 ++ a0_1) ++ t197).size : Int))) then (some ((⟨#[]⟩ : ByteArray), 61)) else (if ((a0_0 ++ a0_1) ++ t197).size + a0_5.size ≤ 9223372036854775807 then (some (((a0_0 ++ a0_1) ++ t197) ++ a0_5, 0)) else (none))) else (none)) = some (r1, r2) := H
              have A45 := Aside0.mk A450
              clear A450
              by_cases c46 : (a0_0 ++ a0_1).size + t197.size ≤ 9223372036854775807
              · rw [if_pos c46] at H
                have c46b0 := eq_true c46
                have c46b1 : decide ((a0_0 ++ a0_1).size + t197.size ≤ 9223372036854775807) = true := decide_eq_true c46
                try have c46b2 : (9223372036854775807 < (a0_0 ++ a0_1).size + t197.size) = False := eq_false (Nat.not_lt.2 c46)
                (try (have c46b3 : (9223372036854775807 < ((a0_0.size) + (a0_1.size)) + t197.size) = False := eq_false (by have h_ := c46; simp only [ByteArray.size_append] at h_; omega)))
                (try (have c46b4 : (((a0_0.size) + (a0_1.size)) + t197.size ≤ 9223372036854775807) = True := eq_true (by have h_ := c46; simp only [ByteArray.size_append] at h_; omega)))
                by_cases c47 : (a0_5.size : Int) > (wrap64 (1518 - (((a0_0 ++ a0_1) ++ t197).size : Int)))
                · rw [if_pos c47] at H
                  have c47b0 : decide ((wrap64 (1518 - (((a0_0 ++ a0_1) ++ t197).size : Int))) < (a0_5.size : Int)) = true := decide_eq_true c47
                  (try (have c47b1 : decide ((wrap64 (1518 - (((a0_0.size : Int) + (a0_1.size : Int)) + (t197.size : Int)))) < (a0_5.size : Int)) = true := decide_eq_true (by have h_ := c47; simp only [ByteArray.size_append, Int.natCast_add] at h_; first | exact h_ | omega)))
                  clear c47
                  simp only [Option.some.injEq, Prod.mk.injEq] at H
                  obtain ⟨rfl, rfl⟩ := H
                  have hcz48_0 : wc.cell? ⟨gb192, 0, none⟩ = some (.string a0_0) := (blk_cell BK192.out 0).trans rfl
                  have hcz48_1 : wc.cell? ⟨gb192, 1, none⟩ = some (.string a0_1) := (blk_cell BK192.out 1).trans rfl
                  have hcz48_2 : wc.cell? ⟨gb192, 2, none⟩ = some (.int .i64 a0_2) := (blk_cell BK192.out 2).trans rfl
                  have hcz48_3 : wc.cell? ⟨gb192, 3, none⟩ = some (.int .i64 a0_3) := (blk_cell BK192.out 3).trans rfl
                  have hcz48_4 : wc.cell? ⟨gb192, 4, none⟩ = some (.int .i64 a0_4) := (blk_cell BK192.out 4).trans rfl
                  have hcz48_5 : wc.cell? ⟨gb192, 5, none⟩ = some (.string a0_5) := (blk_cell BK192.out 5).trans rfl
                  have hfz48_0 := blk_frozen BK192.out 0
                  have hfz48_1 := blk_frozen BK192.out 1
                  have hfz48_2 := blk_frozen BK192.out 2
                  have hfz48_3 := blk_frozen BK192.out 3
                  have hfz48_4 := blk_frozen BK192.out 4
                  have hfz48_5 := blk_frozen BK192.out 5
                  go_wp2_with (first | ((with_reducible refine gate_callee (f := 24) rfl ?_); refine goesL_ (some 66) rfl rfl Try.func24 (by kernel_rfl) rfl #[.int .i64 a0_4] rfl (by (try simp only [List.map_toArray, List.map_cons, List.map_nil]); first | done | rfl | (simp only [List.length_drop, List.length_take]; rfl)) ?_; (with_reducible refine (aqueductref06_two.calls kj1 a0_4 t197 _ A45.out).mono ?_); rintro e w49 ⟨rfl, hb⟩; refine ⟨_, rfl, ?_⟩; have n0_ := Aside0.mk (blk_below (g := gb192) (o := .cells #[.string a0_0, .string a0_1, .int .i64 a0_2, .int .i64 a0_3, .int .i64 a0_4, .string a0_5] 23 (0, 0)) (by (with_reducible repeat (first | refine blk_drewN ?_ _ | refine blk_drew ?_ | refine blk_alloc ?_ _)); exact BK192.out) hb); have n1_ := Aside0.mk (below_step (by repeat (first | (with_reducible first | exact HB.out | apply below_alloc | apply pw_below_drewN | apply below_drew1 | refine below_set ?_ GE192.out) | exact HB.out)) hb); clear BK192; clear HB; have BK192 := n0_; have HB := n1_; clear n0_ n1_; (try clear hb); (try clear hb2); (try clear hk); (try clear hi); have hcz50_0 : w49.cell? ⟨gb192, 0, none⟩ = some (.string a0_0) := (blk_cell BK192.out 0).trans rfl; have hcz50_1 : w49.cell? ⟨gb192, 1, none⟩ = some (.string a0_1) := (blk_cell BK192.out 1).trans rfl; have hcz50_2 : w49.cell? ⟨gb192, 2, none⟩ = some (.int .i64 a0_2) := (blk_cell BK192.out 2).trans rfl; have hcz50_3 : w49.cell? ⟨gb192, 3, none⟩ = some (.int .i64 a0_3) := (blk_cell BK192.out 3).trans rfl; have hcz50_4 : w49.cell? ⟨gb192, 4, none⟩ = some (.int .i64 a0_4) := (blk_cell BK192.out 4).trans rfl; have hcz50_5 : w49.cell? ⟨gb192, 5, none⟩ = some (.string a0_5) := (blk_cell BK192.out 5).trans rfl; have hfz50_0 := blk_frozen BK192.out 0; have hfz50_1 := blk_frozen BK192.out 1; have hfz50_2 := blk_frozen BK192.out 2; have hfz50_3 := blk_frozen BK192.out 3; have hfz50_4 := blk_frozen BK192.out 4; have hfz50_5 := blk_frozen BK192.out 5))
                  go_ret2
                  exact ⟨by first | rfl | (simp [errW_none, errW_some] <;> rfl) | (simp [*, errW_none, errW_some] <;> rfl), by repeat (first | (with_reducible first | exact HB.out | apply below_alloc | apply pw_below_drewN | apply below_drew1 | refine below_set ?_ GE192.out) | exact HB.out)⟩
                · rw [if_neg c47] at H
                  have c47b0 : decide ((wrap64 (1518 - (((a0_0 ++ a0_1) ++ t197).size : Int))) < (a0_5.size : Int)) = false := decide_eq_false c47
                  (try (have c47b1 : decide ((wrap64 (1518 - (((a0_0.size : Int) + (a0_1.size : Int)) + (t197.size : Int)))) < (a0_5.size : Int)) = false := decide_eq_false (by have h_ := c47; simp only [ByteArray.size_append, Int.natCast_add] at h_; first | exact h_ | omega)))
                  clear c47
                  by_cases c51 : ((a0_0 ++ a0_1) ++ t197).size + a0_5.size ≤ 9223372036854775807
                  · rw [if_pos c51] at H
                    have c51b0 := eq_true c51
                    have c51b1 : decide (((a0_0 ++ a0_1) ++ t197).size + a0_5.size ≤ 9223372036854775807) = true := decide_eq_true c51
                    try have c51b2 : (9223372036854775807 < ((a0_0 ++ a0_1) ++ t197).size + a0_5.size) = False := eq_false (Nat.not_lt.2 c51)
                    (try (have c51b3 : (9223372036854775807 < (((a0_0.size) + (a0_1.size)) + (t197.size)) + a0_5.size) = False := eq_false (by have h_ := c51; simp only [ByteArray.size_append] at h_; omega)))
                    (try (have c51b4 : ((((a0_0.size) + (a0_1.size)) + (t197.size)) + a0_5.size ≤ 9223372036854775807) = True := eq_true (by have h_ := c51; simp only [ByteArray.size_append] at h_; omega)))
                    simp only [Option.some.injEq, Prod.mk.injEq] at H
                    obtain ⟨rfl, rfl⟩ := H
                    have hcz52_0 : wc.cell? ⟨gb192, 0, none⟩ = some (.string a0_0) := (blk_cell BK192.out 0).trans rfl
                    have hcz52_1 : wc.cell? ⟨gb192, 1, none⟩ = some (.string a0_1) := (blk_cell BK192.out 1).trans rfl
                    have hcz52_2 : wc.cell? ⟨gb192, 2, none⟩ = some (.int .i64 a0_2) := (blk_cell BK192.out 2).trans rfl
                    have hcz52_3 : wc.cell? ⟨gb192, 3, none⟩ = some (.int .i64 a0_3) := (blk_cell BK192.out 3).trans rfl
                    have hcz52_4 : wc.cell? ⟨gb192, 4, none⟩ = some (.int .i64 a0_4) := (blk_cell BK192.out 4).trans rfl
                    have hcz52_5 : wc.cell? ⟨gb192, 5, none⟩ = some (.string a0_5) := (blk_cell BK192.out 5).trans rfl
                    have hfz52_0 := blk_frozen BK192.out 0
                    have hfz52_1 := blk_frozen BK192.out 1
                    have hfz52_2 := blk_frozen BK192.out 2
                    have hfz52_3 := blk_frozen BK192.out 3
                    have hfz52_4 := blk_frozen BK192.out 4
                    have hfz52_5 := blk_frozen BK192.out 5
                    go_wp2_with (first | ((with_reducible refine gate_callee (f := 24) rfl ?_); refine goesL_ (some 66) rfl rfl Try.func24 (by kernel_rfl) rfl #[.int .i64 a0_4] rfl (by (try simp only [List.map_toArray, List.map_cons, List.map_nil]); first | done | rfl | (simp only [List.length_drop, List.length_take]; rfl)) ?_; (with_reducible refine (aqueductref06_two.calls kj1 a0_4 t197 _ A45.out).mono ?_); rintro e w53 ⟨rfl, hb⟩; refine ⟨_, rfl, ?_⟩; have n0_ := Aside0.mk (blk_below (g := gb192) (o := .cells #[.string a0_0, .string a0_1, .int .i64 a0_2, .int .i64 a0_3, .int .i64 a0_4, .string a0_5] 23 (0, 0)) (by (with_reducible repeat (first | refine blk_drewN ?_ _ | refine blk_drew ?_ | refine blk_alloc ?_ _)); exact BK192.out) hb); have n1_ := Aside0.mk (below_step (by repeat (first | (with_reducible first | exact HB.out | apply below_alloc | apply pw_below_drewN | apply below_drew1 | refine below_set ?_ GE192.out) | exact HB.out)) hb); clear BK192; clear HB; have BK192 := n0_; have HB := n1_; clear n0_ n1_; (try clear hb); (try clear hb2); (try clear hk); (try clear hi); have hcz54_0 : w53.cell? ⟨gb192, 0, none⟩ = some (.string a0_0) := (blk_cell BK192.out 0).trans rfl; have hcz54_1 : w53.cell? ⟨gb192, 1, none⟩ = some (.string a0_1) := (blk_cell BK192.out 1).trans rfl; have hcz54_2 : w53.cell? ⟨gb192, 2, none⟩ = some (.int .i64 a0_2) := (blk_cell BK192.out 2).trans rfl; have hcz54_3 : w53.cell? ⟨gb192, 3, none⟩ = some (.int .i64 a0_3) := (blk_cell BK192.out 3).trans rfl; have hcz54_4 : w53.cell? ⟨gb192, 4, none⟩ = some (.int .i64 a0_4) := (blk_cell BK192.out 4).trans rfl; have hcz54_5 : w53.cell? ⟨gb192, 5, none⟩ = some (.string a0_5) := (blk_cell BK192.out 5).trans rfl; have hfz54_0 := blk_frozen BK192.out 0; have hfz54_1 := blk_frozen BK192.out 1; have hfz54_2 := blk_frozen BK192.out 2; have hfz54_3 := blk_frozen BK192.out 3; have hfz54_4 := blk_frozen BK192.out 4; have hfz54_5 := blk_frozen BK192.out 5))
                    go_ret2
                    exact ⟨by first | rfl | (simp [errW_none, errW_some] <;> rfl) | (simp [*, errW_none, errW_some] <;> rfl), by repeat (first | (with_reducible first | exact HB.out | apply below_alloc | apply pw_below_drewN | apply below_drew1 | refine below_set ?_ GE192.out) | exact HB.out)⟩
                  · rw [if_neg c51] at H
                    exact absurd H (by simp)
              · rw [if_neg c46] at H
                exact absurd H (by simp)
        · rw [if_neg c19] at H
          exact absurd H (by simp)

end Go.Proofs.Ytbecpkkhpjigbaa.P
