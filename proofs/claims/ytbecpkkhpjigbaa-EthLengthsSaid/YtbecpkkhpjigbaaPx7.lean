/- What functions of the program compute, each with the walk that shows it: by a program (a turned copy of the kit's print; wip/myprint.py). -/
import Derived.Test.YtbecpkkhpjigbaaPx0
import Derived.Test.YtbecpkkhpjigbaaPx4
import Derived.Test.YtbecpkkhpjigbaaPx6
namespace Go.Proofs.Ytbecpkkhpjigbaa.P
open Go.RowKit Go.Proofs.YtbecpkkhpjigbaaW.PrintWords Go.Proofs.YtbecpkkhpjigbaaW.PrintLast Go.Proofs.YtbecpkkhpjigbaaW.PrintMore
attribute [local go_sem] max2_int min2_int max_two min_two max_three min_three max_four min_four   -- for this text's walks alone
set_option linter.unusedVariables false
set_option linter.unusedSimpArgs false

/-! ### eth_Build: function 13 -/
def eth_Build.j0 : Nat → Bool → ByteArray → ByteArray → Int → Int → Int → ByteArray → Option (ByteArray × Int)
  | 0, _, _, _, _, _, _, _ => none
  | k + 1, x50, x122000, x122001, x122002, x122003, x122004, x122005 => if x50 = true then (some ((⟨#[]⟩ : ByteArray), 61)) else (if x122000.size + x122001.size ≤ 9223372036854775807 then (if x122002 = (-1) then ((eth_two.f k x122004).bind fun t124 => (if (x122000 ++ x122001).size + t124.size ≤ 9223372036854775807 then (if (x122005.size : Int) > (wrap64 (1518 - (((x122000 ++ x122001) ++ t124).size : Int))) then (some ((⟨#[]⟩ : ByteArray), 61)) else (if ((x122000 ++ x122001) ++ t124).size + x122005.size ≤ 9223372036854775807 then (some (((x122000 ++ x122001) ++ t124) ++ x122005, 0)) else (none))) else (none))) else ((eth_two.f k 33024).bind fun t125 => ((eth_two.f k (Go.bits .or .i64 (wrap64 (x122003 * 8192)) x122002)).bind fun t126 => (if t125.size + t126.size ≤ 9223372036854775807 then (if (x122000 ++ x122001).size + (t125 ++ t126).size ≤ 9223372036854775807 then ((eth_two.f k x122004).bind fun t127 => (if ((x122000 ++ x122001) ++ (t125 ++ t126)).size + t127.size ≤ 9223372036854775807 then (if (x122005.size : Int) > (wrap64 (1518 - ((((x122000 ++ x122001) ++ (t125 ++ t126)) ++ t127).size : Int))) then (some ((⟨#[]⟩ : ByteArray), 61)) else (if (((x122000 ++ x122001) ++ (t125 ++ t126)) ++ t127).size + x122005.size ≤ 9223372036854775807 then (some ((((x122000 ++ x122001) ++ (t125 ++ t126)) ++ t127) ++ x122005, 0)) else (none))) else (none))) else (none)) else (none))))) else (none))
def eth_Build.f (k : Nat) (a0_0 : ByteArray) (a0_1 : ByteArray) (a0_2 : Int) (a0_3 : Int) (a0_4 : Int) (a0_5 : ByteArray) : Option (ByteArray × Int) := if (a0_0.size : Int) = 6 then (if (a0_1.size : Int) = 6 then (if a0_2 < (-1) then (eth_Build.j0 k true a0_0 a0_1 a0_2 a0_3 a0_4 a0_5) else (if a0_2 > 4094 then (eth_Build.j0 k true a0_0 a0_1 a0_2 a0_3 a0_4 a0_5) else (if a0_3 < 0 then (eth_Build.j0 k true a0_0 a0_1 a0_2 a0_3 a0_4 a0_5) else (if a0_3 > 7 then (eth_Build.j0 k true a0_0 a0_1 a0_2 a0_3 a0_4 a0_5) else (if a0_2 = (-1) then (if a0_3 = 0 then ((eth_may.f a0_4).bind fun t122 => (eth_Build.j0 k (!t122) a0_0 a0_1 a0_2 a0_3 a0_4 a0_5)) else (eth_Build.j0 k true a0_0 a0_1 a0_2 a0_3 a0_4 a0_5)) else ((eth_may.f a0_4).bind fun t123 => (eth_Build.j0 k (!t123) a0_0 a0_1 a0_2 a0_3 a0_4 a0_5))))))) else (eth_Build.j0 k true a0_0 a0_1 a0_2 a0_3 a0_4 a0_5)) else (eth_Build.j0 k true a0_0 a0_1 a0_2 a0_3 a0_4 a0_5)
theorem eth_Build.mono_l : ∀ k, (∀ y0 y1 y2 y3 y4 y5 y6, LeO (eth_Build.j0 k y0 y1 y2 y3 y4 y5 y6) (eth_Build.j0 (k + 1) y0 y1 y2 y3 y4 y5 y6))
  | 0 => fun _ _ _ _ _ _ _ r h => by simp [eth_Build.j0] at h
  | k + 1 => by
    have ih0 := eth_Build.mono_l k
    · intro y0 y1 y2 y3 y4 y5 y6
      unfold eth_Build.j0
      repeat' first
      | (with_reducible exact ih0 _ _ _ _ _ _ _)
      | (with_reducible exact eth_two.mono _ _)
      | (with_reducible exact LeO.refl _)
      | (with_reducible exact LeO.none _)
      | (with_reducible refine LeO.ite ?_ ?_)
      | (with_reducible refine LeO.bind ?_ (fun _ => ?_))
      | exact ih0 _ _ _ _ _ _ _
      | exact eth_two.mono _ _
      | exact LeO.none _
      | refine LeO.ite ?_ ?_
      | refine LeO.bind ?_ (fun _ => ?_)
theorem eth_Build.mono : ∀ a0 a1 a2 a3 a4 a5 k, LeO (eth_Build.f k a0 a1 a2 a3 a4 a5) (eth_Build.f (k + 1) a0 a1 a2 a3 a4 a5) := by
  intro a0 a1 a2 a3 a4 a5 k
  have ih0 := eth_Build.mono_l k
  unfold eth_Build.f
  repeat' first
      | (with_reducible exact ih0 _ _ _ _ _ _ _)
      | (with_reducible exact eth_two.mono _ _)
      | (with_reducible exact LeO.refl _)
      | (with_reducible exact LeO.none _)
      | (with_reducible refine LeO.ite ?_ ?_)
      | (with_reducible refine LeO.bind ?_ (fun _ => ?_))
      | exact ih0 _ _ _ _ _ _ _
      | exact eth_two.mono _ _
      | exact LeO.none _
      | refine LeO.ite ?_ ?_
      | refine LeO.bind ?_ (fun _ => ?_)
def eth_Build.T5 : Bool × List (List Nat × List Nat) := (true, [([], []), ([], []), ([], []), ([2], [2]), ([3], [3]), ([], []), ([5], [5]), ([4, 6], [4, 6]), ([7, 1], [7]), ([1, 8], [1, 8]), ([0, 9], [0, 9]), ([10, 8, 0, 1, 2, 3, 4, 5, 6, 7, 8, 9, 10], [0, 10])])
def eth_Build.B5 : List Nat := [0, 0, 0, 4, 12, 0, 32, 124, 254, 510, 1023, 2047]
theorem eth_Build.tab5 : rtab .any (opsOf Try.f13 5) = eth_Build.T5 := by kernel_rfl
theorem eth_Build.bits5 : waitsOk eth_Build.T5.2 eth_Build.B5 = true := by kernel_rfl
set_option maxHeartbeats 8000000 in
set_option maxRecDepth 100000 in
theorem eth_Build.calls (k : Nat) (a0_0 : ByteArray) (a0_1 : ByteArray) (a0_2 : Int) (a0_3 : Int) (a0_4 : Int) (a0_5 : ByteArray) (r1 : ByteArray) (r2 : Int) (w : World) (h : eth_Build.f k a0_0 a0_1 a0_2 a0_3 a0_4 a0_5 = some (r1, r2)) :
    Calls Try.prog 13 #[.agg #[.string a0_0, .string a0_1, .int .i64 a0_2, .int .i64 a0_3, .int .i64 a0_4, .string a0_5]] w fun e w' => e = .returned (.tuple #[.string r1, .int .i64 r2]) ∧ Below w.heap.size w w' := by
  have hu23 := Try.underlying23
  have HB := Aside0.mk (Below.refl w.heap.size w)
  have H : (if (a0_0.size : Int) = 6 then (if (a0_1.size : Int) = 6 then (if a0_2 < (-1) then (eth_Build.j0 k true a0_0 a0_1 a0_2 a0_3 a0_4 a0_5) else (if a0_2 > 4094 then (eth_Build.j0 k true a0_0 a0_1 a0_2 a0_3 a0_4 a0_5) else (if a0_3 < 0 then (eth_Build.j0 k true a0_0 a0_1 a0_2 a0_3 a0_4 a0_5) else (if a0_3 > 7 then (eth_Build.j0 k true a0_0 a0_1 a0_2 a0_3 a0_4 a0_5) else (if a0_2 = (-1) then (if a0_3 = 0 then ((eth_may.f a0_4).bind fun t122 => (eth_Build.j0 k (!t122) a0_0 a0_1 a0_2 a0_3 a0_4 a0_5)) else (eth_Build.j0 k true a0_0 a0_1 a0_2 a0_3 a0_4 a0_5)) else ((eth_may.f a0_4).bind fun t123 => (eth_Build.j0 k (!t123) a0_0 a0_1 a0_2 a0_3 a0_4 a0_5))))))) else (eth_Build.j0 k true a0_0 a0_1 a0_2 a0_3 a0_4 a0_5)) else (eth_Build.j0 k true a0_0 a0_1 a0_2 a0_3 a0_4 a0_5)) = some (r1, r2) := h
  clear h
  have HC2 := Aside0.mk H
  clear H
  go_enter Try.func13, Try.ntmps13
  go_upto_region 1 with (first | ((with_reducible refine gate_dst (N := 1) rfl ?_); (try (refine gate_guard (by rfl) ?_; dsimp only)); refine box_event ?hg (N := 1) ?hd (cs := #[.string a0_0, .string a0_1, .int .i64 a0_2, .int .i64 a0_3, .int .i64 a0_4, .string a0_5]) (t := 23) ?hr ?_; (case hd => rfl); (case hg => rfl); (case hr => first | (go_simp; done) | (go_simp; rfl)); intro gb121 hg w3 hbox hb; have n0_ := Aside0.mk (below_step (by repeat (first | (with_reducible first | exact HB.out | apply below_alloc | apply pw_below_drewN | apply below_drew1) | exact HB.out)) hb); have n1_ := Aside0.mk (hbox); have n2_ := Aside0.mk ((by rw [hg]; exact (below_size (by repeat (first | (with_reducible first | exact HB.out | apply below_alloc | apply pw_below_drewN | apply below_drew1) | exact HB.out))) : w.heap.size ≤ gb121)); have n3_ := Aside0.mk ((by rw [hg]; exact (below_size (by repeat (first | (with_reducible first | exact HB.out | apply below_alloc | apply pw_below_drewN | apply below_drew1) | exact HB.out))) : w.heap.size ≤ gb121)); clear HB; have HB := n0_; have BK121 := n1_; have GW121 := n2_; have GE121 := n3_; clear n0_ n1_ n2_ n3_; clear hb hbox hg))
  (try simp only [Act.put, List.setIfInBounds_toArray, List.set_cons_zero, List.set_cons_succ])
  go_cut [50] (fun v50 wc => ∃ (kq : Nat) (x50_1 : Bool), v50 = .bool x50_1 ∧ Aside0 (eth_Build.j0 kq x50_1 a0_0 a0_1 a0_2 a0_3 a0_4 a0_5 = some (r1, r2)) ∧ Aside0 (kq ≤ k) ∧ Aside0 (wc.heap[gb121]? = some (.cells #[.string a0_0, .string a0_1, .int .i64 a0_2, .int .i64 a0_3, .int .i64 a0_4, .string a0_5] 23 (0, 0))) ∧ Aside0 (Below w.heap.size w wc))
  case first =>
    have H := HC2.out
    clear HC2
    by_cases c4 : (a0_0.size : Int) = 6
    · rw [if_pos c4] at H
      have c4b0 : ((a0_0.size : Int) == 6) = true := beq_iff_eq.mpr c4
      have c4b1 : ((a0_0.size : Int) != 6) = false := bne_eq_false_iff_eq.mpr c4
      clear c4
      (first | rw [c4b0] | (simp only [i64_w, i32_w]; rw [c4b0]) | skip)
      by_cases c5 : (a0_1.size : Int) = 6
      · rw [if_pos c5] at H
        have c5b0 : ((a0_1.size : Int) == 6) = true := beq_iff_eq.mpr c5
        have c5b1 : ((a0_1.size : Int) != 6) = false := bne_eq_false_iff_eq.mpr c5
        clear c5
        by_cases c6 : a0_2 < (-1)
        · rw [if_pos c6] at H
          have c6b0 : decide (a0_2 < (-1)) = true := decide_eq_true c6
          clear c6
          have H' := Aside0.mk H
          clear H
          have hcz7_0 : w3.cell? ⟨gb121, 0, none⟩ = some (.string a0_0) := (blk_cell BK121.out 0).trans rfl
          have hcz7_1 : w3.cell? ⟨gb121, 1, none⟩ = some (.string a0_1) := (blk_cell BK121.out 1).trans rfl
          have hcz7_2 : w3.cell? ⟨gb121, 2, none⟩ = some (.int .i64 a0_2) := (blk_cell BK121.out 2).trans rfl
          have hcz7_3 : w3.cell? ⟨gb121, 3, none⟩ = some (.int .i64 a0_3) := (blk_cell BK121.out 3).trans rfl
          have hcz7_4 : w3.cell? ⟨gb121, 4, none⟩ = some (.int .i64 a0_4) := (blk_cell BK121.out 4).trans rfl
          have hcz7_5 : w3.cell? ⟨gb121, 5, none⟩ = some (.string a0_5) := (blk_cell BK121.out 5).trans rfl
          have hfz7_0 := blk_frozen BK121.out 0
          have hfz7_1 := blk_frozen BK121.out 1
          have hfz7_2 := blk_frozen BK121.out 2
          have hfz7_3 := blk_frozen BK121.out 3
          have hfz7_4 := blk_frozen BK121.out 4
          have hfz7_5 := blk_frozen BK121.out 5
          go_wp2
          go_meet
          case rel => exact ⟨_, (true), (by first | rfl | (simp; done) | (simp [*]; done)), H', ⟨by first | omega | exact Nat.le_refl _⟩, ⟨by (with_reducible repeat (first | refine blk_drewN ?_ _ | refine blk_drew ?_ | refine blk_alloc ?_ _)); exact BK121.out⟩, ⟨by repeat (first | (with_reducible first | exact HB.out | apply below_alloc | apply pw_below_drewN | apply below_drew1 | refine below_set ?_ GE121.out) | exact HB.out)⟩⟩
        · rw [if_neg c6] at H
          have c6b0 : decide (a0_2 < (-1)) = false := decide_eq_false c6
          clear c6
          by_cases c8 : a0_2 > 4094
          · rw [if_pos c8] at H
            have c8b0 : decide (4094 < a0_2) = true := decide_eq_true c8
            clear c8
            have H' := Aside0.mk H
            clear H
            have hcz9_0 : w3.cell? ⟨gb121, 0, none⟩ = some (.string a0_0) := (blk_cell BK121.out 0).trans rfl
            have hcz9_1 : w3.cell? ⟨gb121, 1, none⟩ = some (.string a0_1) := (blk_cell BK121.out 1).trans rfl
            have hcz9_2 : w3.cell? ⟨gb121, 2, none⟩ = some (.int .i64 a0_2) := (blk_cell BK121.out 2).trans rfl
            have hcz9_3 : w3.cell? ⟨gb121, 3, none⟩ = some (.int .i64 a0_3) := (blk_cell BK121.out 3).trans rfl
            have hcz9_4 : w3.cell? ⟨gb121, 4, none⟩ = some (.int .i64 a0_4) := (blk_cell BK121.out 4).trans rfl
            have hcz9_5 : w3.cell? ⟨gb121, 5, none⟩ = some (.string a0_5) := (blk_cell BK121.out 5).trans rfl
            have hfz9_0 := blk_frozen BK121.out 0
            have hfz9_1 := blk_frozen BK121.out 1
            have hfz9_2 := blk_frozen BK121.out 2
            have hfz9_3 := blk_frozen BK121.out 3
            have hfz9_4 := blk_frozen BK121.out 4
            have hfz9_5 := blk_frozen BK121.out 5
            go_wp2
            go_meet
            case rel => exact ⟨_, (true), (by first | rfl | (simp; done) | (simp [*]; done)), H', ⟨by first | omega | exact Nat.le_refl _⟩, ⟨by (with_reducible repeat (first | refine blk_drewN ?_ _ | refine blk_drew ?_ | refine blk_alloc ?_ _)); exact BK121.out⟩, ⟨by repeat (first | (with_reducible first | exact HB.out | apply below_alloc | apply pw_below_drewN | apply below_drew1 | refine below_set ?_ GE121.out) | exact HB.out)⟩⟩
          · rw [if_neg c8] at H
            have c8b0 : decide (4094 < a0_2) = false := decide_eq_false c8
            clear c8
            by_cases c10 : a0_3 < 0
            · rw [if_pos c10] at H
              have c10b0 : decide (a0_3 < 0) = true := decide_eq_true c10
              clear c10
              have H' := Aside0.mk H
              clear H
              have hcz11_0 : w3.cell? ⟨gb121, 0, none⟩ = some (.string a0_0) := (blk_cell BK121.out 0).trans rfl
              have hcz11_1 : w3.cell? ⟨gb121, 1, none⟩ = some (.string a0_1) := (blk_cell BK121.out 1).trans rfl
              have hcz11_2 : w3.cell? ⟨gb121, 2, none⟩ = some (.int .i64 a0_2) := (blk_cell BK121.out 2).trans rfl
              have hcz11_3 : w3.cell? ⟨gb121, 3, none⟩ = some (.int .i64 a0_3) := (blk_cell BK121.out 3).trans rfl
              have hcz11_4 : w3.cell? ⟨gb121, 4, none⟩ = some (.int .i64 a0_4) := (blk_cell BK121.out 4).trans rfl
              have hcz11_5 : w3.cell? ⟨gb121, 5, none⟩ = some (.string a0_5) := (blk_cell BK121.out 5).trans rfl
              have hfz11_0 := blk_frozen BK121.out 0
              have hfz11_1 := blk_frozen BK121.out 1
              have hfz11_2 := blk_frozen BK121.out 2
              have hfz11_3 := blk_frozen BK121.out 3
              have hfz11_4 := blk_frozen BK121.out 4
              have hfz11_5 := blk_frozen BK121.out 5
              go_wp2
              go_meet
              case rel => exact ⟨_, (true), (by first | rfl | (simp; done) | (simp [*]; done)), H', ⟨by first | omega | exact Nat.le_refl _⟩, ⟨by (with_reducible repeat (first | refine blk_drewN ?_ _ | refine blk_drew ?_ | refine blk_alloc ?_ _)); exact BK121.out⟩, ⟨by repeat (first | (with_reducible first | exact HB.out | apply below_alloc | apply pw_below_drewN | apply below_drew1 | refine below_set ?_ GE121.out) | exact HB.out)⟩⟩
            · rw [if_neg c10] at H
              have c10b0 : decide (a0_3 < 0) = false := decide_eq_false c10
              clear c10
              by_cases c12 : a0_3 > 7
              · rw [if_pos c12] at H
                have c12b0 : decide (7 < a0_3) = true := decide_eq_true c12
                clear c12
                have H' := Aside0.mk H
                clear H
                have hcz13_0 : w3.cell? ⟨gb121, 0, none⟩ = some (.string a0_0) := (blk_cell BK121.out 0).trans rfl
                have hcz13_1 : w3.cell? ⟨gb121, 1, none⟩ = some (.string a0_1) := (blk_cell BK121.out 1).trans rfl
                have hcz13_2 : w3.cell? ⟨gb121, 2, none⟩ = some (.int .i64 a0_2) := (blk_cell BK121.out 2).trans rfl
                have hcz13_3 : w3.cell? ⟨gb121, 3, none⟩ = some (.int .i64 a0_3) := (blk_cell BK121.out 3).trans rfl
                have hcz13_4 : w3.cell? ⟨gb121, 4, none⟩ = some (.int .i64 a0_4) := (blk_cell BK121.out 4).trans rfl
                have hcz13_5 : w3.cell? ⟨gb121, 5, none⟩ = some (.string a0_5) := (blk_cell BK121.out 5).trans rfl
                have hfz13_0 := blk_frozen BK121.out 0
                have hfz13_1 := blk_frozen BK121.out 1
                have hfz13_2 := blk_frozen BK121.out 2
                have hfz13_3 := blk_frozen BK121.out 3
                have hfz13_4 := blk_frozen BK121.out 4
                have hfz13_5 := blk_frozen BK121.out 5
                go_wp2
                go_meet
                case rel => exact ⟨_, (true), (by first | rfl | (simp; done) | (simp [*]; done)), H', ⟨by first | omega | exact Nat.le_refl _⟩, ⟨by (with_reducible repeat (first | refine blk_drewN ?_ _ | refine blk_drew ?_ | refine blk_alloc ?_ _)); exact BK121.out⟩, ⟨by repeat (first | (with_reducible first | exact HB.out | apply below_alloc | apply pw_below_drewN | apply below_drew1 | refine below_set ?_ GE121.out) | exact HB.out)⟩⟩
              · rw [if_neg c12] at H
                have c12b0 : decide (7 < a0_3) = false := decide_eq_false c12
                clear c12
                by_cases c14 : a0_2 = (-1)
                · rw [if_pos c14] at H
                  have c14b0 : (a0_2 == (-1)) = true := beq_iff_eq.mpr c14
                  have c14b1 : (a0_2 != (-1)) = false := bne_eq_false_iff_eq.mpr c14
                  clear c14
                  by_cases c15 : a0_3 = 0
                  · rw [if_pos c15] at H
                    have c15b0 : (a0_3 == 0) = true := beq_iff_eq.mpr c15
                    have c15b1 : (a0_3 != 0) = false := bne_eq_false_iff_eq.mpr c15
                    clear c15
                    replace H := Option.bind_eq_some_iff.mp H
                    obtain ⟨t122, A160, H⟩ := H
                    replace H : (eth_Build.j0 k (!t122) a0_0 a0_1 a0_2 a0_3 a0_4 a0_5) = some (r1, r2) := H
                    have A16 := Aside0.mk A160
                    clear A160
                    have H' := Aside0.mk H
                    clear H
                    have hcz17_0 : w3.cell? ⟨gb121, 0, none⟩ = some (.string a0_0) := (blk_cell BK121.out 0).trans rfl
                    have hcz17_1 : w3.cell? ⟨gb121, 1, none⟩ = some (.string a0_1) := (blk_cell BK121.out 1).trans rfl
                    have hcz17_2 : w3.cell? ⟨gb121, 2, none⟩ = some (.int .i64 a0_2) := (blk_cell BK121.out 2).trans rfl
                    have hcz17_3 : w3.cell? ⟨gb121, 3, none⟩ = some (.int .i64 a0_3) := (blk_cell BK121.out 3).trans rfl
                    have hcz17_4 : w3.cell? ⟨gb121, 4, none⟩ = some (.int .i64 a0_4) := (blk_cell BK121.out 4).trans rfl
                    have hcz17_5 : w3.cell? ⟨gb121, 5, none⟩ = some (.string a0_5) := (blk_cell BK121.out 5).trans rfl
                    have hfz17_0 := blk_frozen BK121.out 0
                    have hfz17_1 := blk_frozen BK121.out 1
                    have hfz17_2 := blk_frozen BK121.out 2
                    have hfz17_3 := blk_frozen BK121.out 3
                    have hfz17_4 := blk_frozen BK121.out 4
                    have hfz17_5 := blk_frozen BK121.out 5
                    go_wp2_with (first | (go_at_call 20; (with_reducible refine (eth_may.calls a0_4 t122 _ A16.out).mono ?_); rintro e w' ⟨rfl, ⟨nd, rfl⟩⟩))
                    go_meet
                    case rel => exact ⟨_, (!t122), (by first | rfl | (simp; done) | (simp [*]; done)), H', ⟨by first | omega | exact Nat.le_refl _⟩, ⟨by (with_reducible repeat (first | refine blk_drewN ?_ _ | refine blk_drew ?_ | refine blk_alloc ?_ _)); exact BK121.out⟩, ⟨by repeat (first | (with_reducible first | exact HB.out | apply below_alloc | apply pw_below_drewN | apply below_drew1 | refine below_set ?_ GE121.out) | exact HB.out)⟩⟩
                  · rw [if_neg c15] at H
                    have c15b0 : (a0_3 == 0) = false := beq_eq_false_iff_ne.mpr c15
                    have c15b1 : (a0_3 != 0) = true := bne_iff_ne.mpr c15
                    have H' := Aside0.mk H
                    clear H
                    have hcz18_0 : w3.cell? ⟨gb121, 0, none⟩ = some (.string a0_0) := (blk_cell BK121.out 0).trans rfl
                    have hcz18_1 : w3.cell? ⟨gb121, 1, none⟩ = some (.string a0_1) := (blk_cell BK121.out 1).trans rfl
                    have hcz18_2 : w3.cell? ⟨gb121, 2, none⟩ = some (.int .i64 a0_2) := (blk_cell BK121.out 2).trans rfl
                    have hcz18_3 : w3.cell? ⟨gb121, 3, none⟩ = some (.int .i64 a0_3) := (blk_cell BK121.out 3).trans rfl
                    have hcz18_4 : w3.cell? ⟨gb121, 4, none⟩ = some (.int .i64 a0_4) := (blk_cell BK121.out 4).trans rfl
                    have hcz18_5 : w3.cell? ⟨gb121, 5, none⟩ = some (.string a0_5) := (blk_cell BK121.out 5).trans rfl
                    have hfz18_0 := blk_frozen BK121.out 0
                    have hfz18_1 := blk_frozen BK121.out 1
                    have hfz18_2 := blk_frozen BK121.out 2
                    have hfz18_3 := blk_frozen BK121.out 3
                    have hfz18_4 := blk_frozen BK121.out 4
                    have hfz18_5 := blk_frozen BK121.out 5
                    go_wp2
                    go_meet
                    case rel => exact ⟨_, (true), (by first | rfl | (simp; done) | (simp [*]; done)), H', ⟨by first | omega | exact Nat.le_refl _⟩, ⟨by (with_reducible repeat (first | refine blk_drewN ?_ _ | refine blk_drew ?_ | refine blk_alloc ?_ _)); exact BK121.out⟩, ⟨by repeat (first | (with_reducible first | exact HB.out | apply below_alloc | apply pw_below_drewN | apply below_drew1 | refine below_set ?_ GE121.out) | exact HB.out)⟩⟩
                · rw [if_neg c14] at H
                  have c14b0 : (a0_2 == (-1)) = false := beq_eq_false_iff_ne.mpr c14
                  have c14b1 : (a0_2 != (-1)) = true := bne_iff_ne.mpr c14
                  replace H := Option.bind_eq_some_iff.mp H
                  obtain ⟨t123, A190, H⟩ := H
                  replace H : (eth_Build.j0 k (!t123) a0_0 a0_1 a0_2 a0_3 a0_4 a0_5) = some (r1, r2) := H
                  have A19 := Aside0.mk A190
                  clear A190
                  have H' := Aside0.mk H
                  clear H
                  have hcz20_0 : w3.cell? ⟨gb121, 0, none⟩ = some (.string a0_0) := (blk_cell BK121.out 0).trans rfl
                  have hcz20_1 : w3.cell? ⟨gb121, 1, none⟩ = some (.string a0_1) := (blk_cell BK121.out 1).trans rfl
                  have hcz20_2 : w3.cell? ⟨gb121, 2, none⟩ = some (.int .i64 a0_2) := (blk_cell BK121.out 2).trans rfl
                  have hcz20_3 : w3.cell? ⟨gb121, 3, none⟩ = some (.int .i64 a0_3) := (blk_cell BK121.out 3).trans rfl
                  have hcz20_4 : w3.cell? ⟨gb121, 4, none⟩ = some (.int .i64 a0_4) := (blk_cell BK121.out 4).trans rfl
                  have hcz20_5 : w3.cell? ⟨gb121, 5, none⟩ = some (.string a0_5) := (blk_cell BK121.out 5).trans rfl
                  have hfz20_0 := blk_frozen BK121.out 0
                  have hfz20_1 := blk_frozen BK121.out 1
                  have hfz20_2 := blk_frozen BK121.out 2
                  have hfz20_3 := blk_frozen BK121.out 3
                  have hfz20_4 := blk_frozen BK121.out 4
                  have hfz20_5 := blk_frozen BK121.out 5
                  go_wp2_with (first | (go_at_call 20; (with_reducible refine (eth_may.calls a0_4 t123 _ A19.out).mono ?_); rintro e w' ⟨rfl, ⟨nd, rfl⟩⟩))
                  go_meet
                  case rel => exact ⟨_, (!t123), (by first | rfl | (simp; done) | (simp [*]; done)), H', ⟨by first | omega | exact Nat.le_refl _⟩, ⟨by (with_reducible repeat (first | refine blk_drewN ?_ _ | refine blk_drew ?_ | refine blk_alloc ?_ _)); exact BK121.out⟩, ⟨by repeat (first | (with_reducible first | exact HB.out | apply below_alloc | apply pw_below_drewN | apply below_drew1 | refine below_set ?_ GE121.out) | exact HB.out)⟩⟩
      · rw [if_neg c5] at H
        have c5b0 : ((a0_1.size : Int) == 6) = false := beq_eq_false_iff_ne.mpr c5
        have c5b1 : ((a0_1.size : Int) != 6) = true := bne_iff_ne.mpr c5
        have H' := Aside0.mk H
        clear H
        have hcz21_0 : w3.cell? ⟨gb121, 0, none⟩ = some (.string a0_0) := (blk_cell BK121.out 0).trans rfl
        have hcz21_1 : w3.cell? ⟨gb121, 1, none⟩ = some (.string a0_1) := (blk_cell BK121.out 1).trans rfl
        have hcz21_2 : w3.cell? ⟨gb121, 2, none⟩ = some (.int .i64 a0_2) := (blk_cell BK121.out 2).trans rfl
        have hcz21_3 : w3.cell? ⟨gb121, 3, none⟩ = some (.int .i64 a0_3) := (blk_cell BK121.out 3).trans rfl
        have hcz21_4 : w3.cell? ⟨gb121, 4, none⟩ = some (.int .i64 a0_4) := (blk_cell BK121.out 4).trans rfl
        have hcz21_5 : w3.cell? ⟨gb121, 5, none⟩ = some (.string a0_5) := (blk_cell BK121.out 5).trans rfl
        have hfz21_0 := blk_frozen BK121.out 0
        have hfz21_1 := blk_frozen BK121.out 1
        have hfz21_2 := blk_frozen BK121.out 2
        have hfz21_3 := blk_frozen BK121.out 3
        have hfz21_4 := blk_frozen BK121.out 4
        have hfz21_5 := blk_frozen BK121.out 5
        go_wp2
        go_meet
        case rel => exact ⟨_, (true), (by first | rfl | (simp; done) | (simp [*]; done)), H', ⟨by first | omega | exact Nat.le_refl _⟩, ⟨by (with_reducible repeat (first | refine blk_drewN ?_ _ | refine blk_drew ?_ | refine blk_alloc ?_ _)); exact BK121.out⟩, ⟨by repeat (first | (with_reducible first | exact HB.out | apply below_alloc | apply pw_below_drewN | apply below_drew1 | refine below_set ?_ GE121.out) | exact HB.out)⟩⟩
    · rw [if_neg c4] at H
      have c4b0 : ((a0_0.size : Int) == 6) = false := beq_eq_false_iff_ne.mpr c4
      have c4b1 : ((a0_0.size : Int) != 6) = true := bne_iff_ne.mpr c4
      (first | rw [c4b0] | (simp only [i64_w, i32_w]; rw [c4b0]) | skip)
      have H' := Aside0.mk H
      clear H
      have hcz22_0 : w3.cell? ⟨gb121, 0, none⟩ = some (.string a0_0) := (blk_cell BK121.out 0).trans rfl
      have hcz22_1 : w3.cell? ⟨gb121, 1, none⟩ = some (.string a0_1) := (blk_cell BK121.out 1).trans rfl
      have hcz22_2 : w3.cell? ⟨gb121, 2, none⟩ = some (.int .i64 a0_2) := (blk_cell BK121.out 2).trans rfl
      have hcz22_3 : w3.cell? ⟨gb121, 3, none⟩ = some (.int .i64 a0_3) := (blk_cell BK121.out 3).trans rfl
      have hcz22_4 : w3.cell? ⟨gb121, 4, none⟩ = some (.int .i64 a0_4) := (blk_cell BK121.out 4).trans rfl
      have hcz22_5 : w3.cell? ⟨gb121, 5, none⟩ = some (.string a0_5) := (blk_cell BK121.out 5).trans rfl
      have hfz22_0 := blk_frozen BK121.out 0
      have hfz22_1 := blk_frozen BK121.out 1
      have hfz22_2 := blk_frozen BK121.out 2
      have hfz22_3 := blk_frozen BK121.out 3
      have hfz22_4 := blk_frozen BK121.out 4
      have hfz22_5 := blk_frozen BK121.out 5
      go_wp2
      go_meet
      case rel => exact ⟨_, (true), (by first | rfl | (simp; done) | (simp [*]; done)), H', ⟨by first | omega | exact Nat.le_refl _⟩, ⟨by (with_reducible repeat (first | refine blk_drewN ?_ _ | refine blk_drew ?_ | refine blk_alloc ?_ _)); exact BK121.out⟩, ⟨by repeat (first | (with_reducible first | exact HB.out | apply below_alloc | apply pw_below_drewN | apply below_drew1 | refine below_set ?_ GE121.out) | exact HB.out)⟩⟩
  case rest =>
    clear HC2
    try clear c1
    try clear p2
    try clear c4
    try clear c4b0
    try clear c4b1
    try clear c5
    try clear c5b0
    try clear c5b1
    try clear c6
    try clear c6b0
    try clear c8
    try clear c8b0
    try clear c10
    try clear c10b0
    try clear c12
    try clear c12b0
    try clear c13
    try clear c14
    try clear c14b0
    try clear c14b1
    try clear c15
    try clear c15b0
    try clear c15b1
    try clear hcz11_0
    try clear hcz11_1
    try clear hcz11_2
    try clear hcz11_3
    try clear hcz11_4
    try clear hcz11_5
    try clear hcz13_0
    try clear hcz13_1
    try clear hcz13_2
    try clear hcz13_3
    try clear hcz13_4
    try clear hcz13_5
    try clear hcz17_0
    try clear hcz17_1
    try clear hcz17_2
    try clear hcz17_3
    try clear hcz17_4
    try clear hcz17_5
    try clear hcz18_0
    try clear hcz18_1
    try clear hcz18_2
    try clear hcz18_3
    try clear hcz18_4
    try clear hcz18_5
    try clear hcz20_0
    try clear hcz20_1
    try clear hcz20_2
    try clear hcz20_3
    try clear hcz20_4
    try clear hcz20_5
    try clear hcz21_0
    try clear hcz21_1
    try clear hcz21_2
    try clear hcz21_3
    try clear hcz21_4
    try clear hcz21_5
    try clear hcz22_0
    try clear hcz22_1
    try clear hcz22_2
    try clear hcz22_3
    try clear hcz22_4
    try clear hcz22_5
    try clear hcz7_0
    try clear hcz7_1
    try clear hcz7_2
    try clear hcz7_3
    try clear hcz7_4
    try clear hcz7_5
    try clear hcz9_0
    try clear hcz9_1
    try clear hcz9_2
    try clear hcz9_3
    try clear hcz9_4
    try clear hcz9_5
    try clear hfz11_0
    try clear hfz11_1
    try clear hfz11_2
    try clear hfz11_3
    try clear hfz11_4
    try clear hfz11_5
    try clear hfz13_0
    try clear hfz13_1
    try clear hfz13_2
    try clear hfz13_3
    try clear hfz13_4
    try clear hfz13_5
    try clear hfz17_0
    try clear hfz17_1
    try clear hfz17_2
    try clear hfz17_3
    try clear hfz17_4
    try clear hfz17_5
    try clear hfz18_0
    try clear hfz18_1
    try clear hfz18_2
    try clear hfz18_3
    try clear hfz18_4
    try clear hfz18_5
    try clear hfz20_0
    try clear hfz20_1
    try clear hfz20_2
    try clear hfz20_3
    try clear hfz20_4
    try clear hfz20_5
    try clear hfz21_0
    try clear hfz21_1
    try clear hfz21_2
    try clear hfz21_3
    try clear hfz21_4
    try clear hfz21_5
    try clear hfz22_0
    try clear hfz22_1
    try clear hfz22_2
    try clear hfz22_3
    try clear hfz22_4
    try clear hfz22_5
    try clear hfz7_0
    try clear hfz7_1
    try clear hfz7_2
    try clear hfz7_3
    try clear hfz7_4
    try clear hfz7_5
    try clear hfz9_0
    try clear hfz9_1
    try clear hfz9_2
    try clear hfz9_3
    try clear hfz9_4
    try clear hfz9_5
    obtain ⟨kq, x50_1, rfl, HA, HJ1, BK121, HB⟩ := hcut
    cases kq with
    | zero => exact absurd HA.out (by simp [eth_Build.j0])
    | succ kj1 =>
      have H := HA.out
      clear HA
      simp only [eth_Build.j0] at H
      by_cases c23 : x50_1 = true
      · subst c23
        have H1 : (some ((⟨#[]⟩ : ByteArray), 61)) = some (r1, r2) := by rw [if_pos rfl] at H; exact H
        clear H
        have H := H1
        clear H1
        simp only [Option.some.injEq, Prod.mk.injEq] at H
        obtain ⟨rfl, rfl⟩ := H
        go_wp2
        go_ret2
        exact ⟨by first | rfl | (simp [errW_none, errW_some] <;> rfl) | (simp [*, errW_none, errW_some] <;> rfl), by repeat (first | (with_reducible first | exact HB.out | apply below_alloc | apply pw_below_drewN | apply below_drew1 | refine below_set ?_ GE121.out) | exact HB.out)⟩
      · replace c23 := Bool.eq_false_iff.mpr c23
        subst c23
        have H1 : (if a0_0.size + a0_1.size ≤ 9223372036854775807 then (if a0_2 = (-1) then ((eth_two.f kj1 a0_4).bind fun t124 => (if (a0_0 ++ a0_1).size + t124.size ≤ 9223372036854775807 then (if (a0_5.size : Int) > (wrap64 (1518 - (((a0_0 ++ a0_1) ++ t124).size : Int))) then (some ((⟨#[]⟩ : ByteArray), 61)) else (if ((a0_0 ++ a0_1) ++ t124).size + a0_5.size ≤ 9223372036854775807 then (some (((a0_0 ++ a0_1) ++ t124) ++ a0_5, 0)) else (none))) else (none))) else ((eth_two.f kj1 33024).bind fun t125 => ((eth_two.f kj1 (Go.bits .or .i64 (wrap64 (a0_3 * 8192)) a0_2)).bind fun t126 => (if t125.size + t126.size ≤ 9223372036854775807 then (if (a0_0 ++ a0_1).size + (t125 ++ t126).size ≤ 9223372036854775807 then ((eth_two.f kj1 a0_4).bind fun t127 => (if ((a0_0 ++ a0_1) ++ (t125 ++ t126)).size + t127.size ≤ 9223372036854775807 then (if (a0_5.size : Int) > (wrap64 (1518 - ((((a0_0 ++ a0_1) ++ (t125 ++ t126)) ++ t127).size : Int))) then (some ((⟨#[]⟩ : ByteArray), 61)) else (if (((a0_0 ++ a0_1) ++ (t125 ++ t126)) ++ t127).size + a0_5.size ≤ 9223372036854775807 then (some ((((a0_0 ++ a0_1) ++ (t125 ++ t126)) ++ t127) ++ a0_5, 0)) else (none))) else (none))) else (none)) else (none))))) else (none)) = some (r1, r2) := by rw [if_neg (show ¬ (false = true) by decide)] at H; exact H
        clear H
        have H := H1
        clear H1
        by_cases c24 : a0_0.size + a0_1.size ≤ 9223372036854775807
        · rw [if_pos c24] at H
          have c24b0 := eq_true c24
          have c24b1 : decide (a0_0.size + a0_1.size ≤ 9223372036854775807) = true := decide_eq_true c24
          try have c24b2 : (9223372036854775807 < a0_0.size + a0_1.size) = False := eq_false (Nat.not_lt.2 c24)
          by_cases c25 : a0_2 = (-1)
          · rw [if_pos c25] at H
            have c25b0 : (a0_2 == (-1)) = true := beq_iff_eq.mpr c25
            have c25b1 : (a0_2 != (-1)) = false := bne_eq_false_iff_eq.mpr c25
            clear c25
            replace H := Option.bind_eq_some_iff.mp H
            obtain ⟨t124, A260, H⟩ := H
            replace H : (if (a0_0 ++ a0_1).size + t124.size ≤ 9223372036854775807 then (if (a0_5.size : Int) > (wrap64 (1518 - (((a0_0 ++ a0_1) ++ t124).size : Int))) then (some ((⟨#[]⟩ : ByteArray), 61)) else (if ((a0_0 ++ a0_1) ++ t124).size + a0_5.size ≤ 9223372036854775807 then (some (((a0_0 ++ a0_1) ++ t124) ++ a0_5, 0)) else (none))) else (none)) = some (r1, r2) := H
            have A26 := Aside0.mk A260
            clear A260
            by_cases c27 : (a0_0 ++ a0_1).size + t124.size ≤ 9223372036854775807
            · rw [if_pos c27] at H
              have c27b0 := eq_true c27
              have c27b1 : decide ((a0_0 ++ a0_1).size + t124.size ≤ 9223372036854775807) = true := decide_eq_true c27
              try have c27b2 : (9223372036854775807 < (a0_0 ++ a0_1).size + t124.size) = False := eq_false (Nat.not_lt.2 c27)
              (try (have c27b3 : (9223372036854775807 < ((a0_0.size) + (a0_1.size)) + t124.size) = False := eq_false (by have h_ := c27; simp only [ByteArray.size_append] at h_; omega)))
              (try (have c27b4 : (((a0_0.size) + (a0_1.size)) + t124.size ≤ 9223372036854775807) = True := eq_true (by have h_ := c27; simp only [ByteArray.size_append] at h_; omega)))
              by_cases c28 : (a0_5.size : Int) > (wrap64 (1518 - (((a0_0 ++ a0_1) ++ t124).size : Int)))
              · rw [if_pos c28] at H
                have c28b0 : decide ((wrap64 (1518 - (((a0_0 ++ a0_1) ++ t124).size : Int))) < (a0_5.size : Int)) = true := decide_eq_true c28
                (try (have c28b1 : decide ((wrap64 (1518 - (((a0_0.size : Int) + (a0_1.size : Int)) + (t124.size : Int)))) < (a0_5.size : Int)) = true := decide_eq_true (by have h_ := c28; simp only [ByteArray.size_append, Int.natCast_add] at h_; first | exact h_ | omega)))
                clear c28
                simp only [Option.some.injEq, Prod.mk.injEq] at H
                obtain ⟨rfl, rfl⟩ := H
                have hcz29_0 : wc.cell? ⟨gb121, 0, none⟩ = some (.string a0_0) := (blk_cell BK121.out 0).trans rfl
                have hcz29_1 : wc.cell? ⟨gb121, 1, none⟩ = some (.string a0_1) := (blk_cell BK121.out 1).trans rfl
                have hcz29_2 : wc.cell? ⟨gb121, 2, none⟩ = some (.int .i64 a0_2) := (blk_cell BK121.out 2).trans rfl
                have hcz29_3 : wc.cell? ⟨gb121, 3, none⟩ = some (.int .i64 a0_3) := (blk_cell BK121.out 3).trans rfl
                have hcz29_4 : wc.cell? ⟨gb121, 4, none⟩ = some (.int .i64 a0_4) := (blk_cell BK121.out 4).trans rfl
                have hcz29_5 : wc.cell? ⟨gb121, 5, none⟩ = some (.string a0_5) := (blk_cell BK121.out 5).trans rfl
                have hfz29_0 := blk_frozen BK121.out 0
                have hfz29_1 := blk_frozen BK121.out 1
                have hfz29_2 := blk_frozen BK121.out 2
                have hfz29_3 := blk_frozen BK121.out 3
                have hfz29_4 := blk_frozen BK121.out 4
                have hfz29_5 := blk_frozen BK121.out 5
                go_wp2_with (first | ((with_reducible refine gate_callee (f := 23) rfl ?_); refine goesL_ (some 73) rfl rfl Try.func23 (by kernel_rfl) rfl #[.int .i64 a0_4] rfl (by (try simp only [List.map_toArray, List.map_cons, List.map_nil]); first | done | rfl | (simp only [List.length_drop, List.length_take]; rfl)) ?_; (with_reducible refine (eth_two.calls kj1 a0_4 t124 _ A26.out).mono ?_); rintro e w30 ⟨rfl, hb⟩; refine ⟨_, rfl, ?_⟩; have n0_ := Aside0.mk (blk_below (g := gb121) (o := .cells #[.string a0_0, .string a0_1, .int .i64 a0_2, .int .i64 a0_3, .int .i64 a0_4, .string a0_5] 23 (0, 0)) (by (with_reducible repeat (first | refine blk_drewN ?_ _ | refine blk_drew ?_ | refine blk_alloc ?_ _)); exact BK121.out) hb); have n1_ := Aside0.mk (below_step (by repeat (first | (with_reducible first | exact HB.out | apply below_alloc | apply pw_below_drewN | apply below_drew1 | refine below_set ?_ GE121.out) | exact HB.out)) hb); clear BK121; clear HB; have BK121 := n0_; have HB := n1_; clear n0_ n1_; (try clear hb); (try clear hb2); (try clear hk); (try clear hi); have hcz31_0 : w30.cell? ⟨gb121, 0, none⟩ = some (.string a0_0) := (blk_cell BK121.out 0).trans rfl; have hcz31_1 : w30.cell? ⟨gb121, 1, none⟩ = some (.string a0_1) := (blk_cell BK121.out 1).trans rfl; have hcz31_2 : w30.cell? ⟨gb121, 2, none⟩ = some (.int .i64 a0_2) := (blk_cell BK121.out 2).trans rfl; have hcz31_3 : w30.cell? ⟨gb121, 3, none⟩ = some (.int .i64 a0_3) := (blk_cell BK121.out 3).trans rfl; have hcz31_4 : w30.cell? ⟨gb121, 4, none⟩ = some (.int .i64 a0_4) := (blk_cell BK121.out 4).trans rfl; have hcz31_5 : w30.cell? ⟨gb121, 5, none⟩ = some (.string a0_5) := (blk_cell BK121.out 5).trans rfl; have hfz31_0 := blk_frozen BK121.out 0; have hfz31_1 := blk_frozen BK121.out 1; have hfz31_2 := blk_frozen BK121.out 2; have hfz31_3 := blk_frozen BK121.out 3; have hfz31_4 := blk_frozen BK121.out 4; have hfz31_5 := blk_frozen BK121.out 5))
                go_ret2
                exact ⟨by first | rfl | (simp [errW_none, errW_some] <;> rfl) | (simp [*, errW_none, errW_some] <;> rfl), by repeat (first | (with_reducible first | exact HB.out | apply below_alloc | apply pw_below_drewN | apply below_drew1 | refine below_set ?_ GE121.out) | exact HB.out)⟩
              · rw [if_neg c28] at H
                have c28b0 : decide ((wrap64 (1518 - (((a0_0 ++ a0_1) ++ t124).size : Int))) < (a0_5.size : Int)) = false := decide_eq_false c28
                (try (have c28b1 : decide ((wrap64 (1518 - (((a0_0.size : Int) + (a0_1.size : Int)) + (t124.size : Int)))) < (a0_5.size : Int)) = false := decide_eq_false (by have h_ := c28; simp only [ByteArray.size_append, Int.natCast_add] at h_; first | exact h_ | omega)))
                clear c28
                by_cases c32 : ((a0_0 ++ a0_1) ++ t124).size + a0_5.size ≤ 9223372036854775807
                · rw [if_pos c32] at H
                  have c32b0 := eq_true c32
                  have c32b1 : decide (((a0_0 ++ a0_1) ++ t124).size + a0_5.size ≤ 9223372036854775807) = true := decide_eq_true c32
                  try have c32b2 : (9223372036854775807 < ((a0_0 ++ a0_1) ++ t124).size + a0_5.size) = False := eq_false (Nat.not_lt.2 c32)
                  (try (have c32b3 : (9223372036854775807 < (((a0_0.size) + (a0_1.size)) + (t124.size)) + a0_5.size) = False := eq_false (by have h_ := c32; simp only [ByteArray.size_append] at h_; omega)))
                  (try (have c32b4 : ((((a0_0.size) + (a0_1.size)) + (t124.size)) + a0_5.size ≤ 9223372036854775807) = True := eq_true (by have h_ := c32; simp only [ByteArray.size_append] at h_; omega)))
                  simp only [Option.some.injEq, Prod.mk.injEq] at H
                  obtain ⟨rfl, rfl⟩ := H
                  have hcz33_0 : wc.cell? ⟨gb121, 0, none⟩ = some (.string a0_0) := (blk_cell BK121.out 0).trans rfl
                  have hcz33_1 : wc.cell? ⟨gb121, 1, none⟩ = some (.string a0_1) := (blk_cell BK121.out 1).trans rfl
                  have hcz33_2 : wc.cell? ⟨gb121, 2, none⟩ = some (.int .i64 a0_2) := (blk_cell BK121.out 2).trans rfl
                  have hcz33_3 : wc.cell? ⟨gb121, 3, none⟩ = some (.int .i64 a0_3) := (blk_cell BK121.out 3).trans rfl
                  have hcz33_4 : wc.cell? ⟨gb121, 4, none⟩ = some (.int .i64 a0_4) := (blk_cell BK121.out 4).trans rfl
                  have hcz33_5 : wc.cell? ⟨gb121, 5, none⟩ = some (.string a0_5) := (blk_cell BK121.out 5).trans rfl
                  have hfz33_0 := blk_frozen BK121.out 0
                  have hfz33_1 := blk_frozen BK121.out 1
                  have hfz33_2 := blk_frozen BK121.out 2
                  have hfz33_3 := blk_frozen BK121.out 3
                  have hfz33_4 := blk_frozen BK121.out 4
                  have hfz33_5 := blk_frozen BK121.out 5
                  go_wp2_with (first | ((with_reducible refine gate_callee (f := 23) rfl ?_); refine goesL_ (some 73) rfl rfl Try.func23 (by kernel_rfl) rfl #[.int .i64 a0_4] rfl (by (try simp only [List.map_toArray, List.map_cons, List.map_nil]); first | done | rfl | (simp only [List.length_drop, List.length_take]; rfl)) ?_; (with_reducible refine (eth_two.calls kj1 a0_4 t124 _ A26.out).mono ?_); rintro e w34 ⟨rfl, hb⟩; refine ⟨_, rfl, ?_⟩; have n0_ := Aside0.mk (blk_below (g := gb121) (o := .cells #[.string a0_0, .string a0_1, .int .i64 a0_2, .int .i64 a0_3, .int .i64 a0_4, .string a0_5] 23 (0, 0)) (by (with_reducible repeat (first | refine blk_drewN ?_ _ | refine blk_drew ?_ | refine blk_alloc ?_ _)); exact BK121.out) hb); have n1_ := Aside0.mk (below_step (by repeat (first | (with_reducible first | exact HB.out | apply below_alloc | apply pw_below_drewN | apply below_drew1 | refine below_set ?_ GE121.out) | exact HB.out)) hb); clear BK121; clear HB; have BK121 := n0_; have HB := n1_; clear n0_ n1_; (try clear hb); (try clear hb2); (try clear hk); (try clear hi); have hcz35_0 : w34.cell? ⟨gb121, 0, none⟩ = some (.string a0_0) := (blk_cell BK121.out 0).trans rfl; have hcz35_1 : w34.cell? ⟨gb121, 1, none⟩ = some (.string a0_1) := (blk_cell BK121.out 1).trans rfl; have hcz35_2 : w34.cell? ⟨gb121, 2, none⟩ = some (.int .i64 a0_2) := (blk_cell BK121.out 2).trans rfl; have hcz35_3 : w34.cell? ⟨gb121, 3, none⟩ = some (.int .i64 a0_3) := (blk_cell BK121.out 3).trans rfl; have hcz35_4 : w34.cell? ⟨gb121, 4, none⟩ = some (.int .i64 a0_4) := (blk_cell BK121.out 4).trans rfl; have hcz35_5 : w34.cell? ⟨gb121, 5, none⟩ = some (.string a0_5) := (blk_cell BK121.out 5).trans rfl; have hfz35_0 := blk_frozen BK121.out 0; have hfz35_1 := blk_frozen BK121.out 1; have hfz35_2 := blk_frozen BK121.out 2; have hfz35_3 := blk_frozen BK121.out 3; have hfz35_4 := blk_frozen BK121.out 4; have hfz35_5 := blk_frozen BK121.out 5))
                  go_ret2
                  exact ⟨by first | rfl | (simp [errW_none, errW_some] <;> rfl) | (simp [*, errW_none, errW_some] <;> rfl), by repeat (first | (with_reducible first | exact HB.out | apply below_alloc | apply pw_below_drewN | apply below_drew1 | refine below_set ?_ GE121.out) | exact HB.out)⟩
                · rw [if_neg c32] at H
                  exact absurd H (by simp)
            · rw [if_neg c27] at H
              exact absurd H (by simp)
          · rw [if_neg c25] at H
            have c25b0 : (a0_2 == (-1)) = false := beq_eq_false_iff_ne.mpr c25
            have c25b1 : (a0_2 != (-1)) = true := bne_iff_ne.mpr c25
            replace H := Option.bind_eq_some_iff.mp H
            obtain ⟨t125, A360, H⟩ := H
            replace H : ((eth_two.f kj1 (Go.bits .or .i64 (wrap64 (a0_3 * 8192)) a0_2)).bind fun t126 => (if t125.size + t126.size ≤ 9223372036854775807 then (if (a0_0 ++ a0_1).size + (t125 ++ t126).size ≤ 9223372036854775807 then ((eth_two.f kj1 a0_4).bind fun t127 => (if ((a0_0 ++ a0_1) ++ (t125 ++ t126)).size + t127.size ≤ 9223372036854775807 then (if (a0_5.size : Int) > (wrap64 (1518 - ((((a0_0 ++ a0_1) ++ (t125 ++ t126)) ++ t127).size : Int))) then (some ((⟨#[]⟩ : ByteArray), 61)) else (if (((a0_0 ++ a0_1) ++ (t125 ++ t126)) ++ t127).size + a0_5.size ≤ 9223372036854775807 then (some ((((a0_0 ++ a0_1) ++ (t125 ++ t126)) ++ t127) ++ a0_5, 0)) else (none))) else (none))) else (none)) else (none))) = some (r1, r2) := H
            have A36 := Aside0.mk A360
            clear A360
            replace H := Option.bind_eq_some_iff.mp H
            obtain ⟨t126, A370, H⟩ := H
            replace H : (if t125.size + t126.size ≤ 9223372036854775807 then (if (a0_0 ++ a0_1).size + (t125 ++ t126).size ≤ 9223372036854775807 then ((eth_two.f kj1 a0_4).bind fun t127 => (if ((a0_0 ++ a0_1) ++ (t125 ++ t126)).size + t127.size ≤ 9223372036854775807 then (if (a0_5.size : Int) > (wrap64 (1518 - ((((a0_0 ++ a0_1) ++ (t125 ++ t126)) ++ t127).size : Int))) then (some ((⟨#[]⟩ : ByteArray), 61)) else (if (((a0_0 ++ a0_1) ++ (t125 ++ t126)) ++ t127).size + a0_5.size ≤ 9223372036854775807 then (some ((((a0_0 ++ a0_1) ++ (t125 ++ t126)) ++ t127) ++ a0_5, 0)) else (none))) else (none))) else (none)) else (none)) = some (r1, r2) := H
            have A37 := Aside0.mk A370
            clear A370
            by_cases c38 : t125.size + t126.size ≤ 9223372036854775807
            · rw [if_pos c38] at H
              have c38b0 := eq_true c38
              have c38b1 : decide (t125.size + t126.size ≤ 9223372036854775807) = true := decide_eq_true c38
              try have c38b2 : (9223372036854775807 < t125.size + t126.size) = False := eq_false (Nat.not_lt.2 c38)
              by_cases c39 : (a0_0 ++ a0_1).size + (t125 ++ t126).size ≤ 9223372036854775807
              · rw [if_pos c39] at H
                have c39b0 := eq_true c39
                have c39b1 : decide ((a0_0 ++ a0_1).size + (t125 ++ t126).size ≤ 9223372036854775807) = true := decide_eq_true c39
                try have c39b2 : (9223372036854775807 < (a0_0 ++ a0_1).size + (t125 ++ t126).size) = False := eq_false (Nat.not_lt.2 c39)
                (try (have c39b3 : (9223372036854775807 < ((a0_0.size) + (a0_1.size)) + ((t125.size) + (t126.size))) = False := eq_false (by have h_ := c39; simp only [ByteArray.size_append] at h_; omega)))
                (try (have c39b4 : (((a0_0.size) + (a0_1.size)) + ((t125.size) + (t126.size)) ≤ 9223372036854775807) = True := eq_true (by have h_ := c39; simp only [ByteArray.size_append] at h_; omega)))
                replace H := Option.bind_eq_some_iff.mp H
                obtain ⟨t127, A400, H⟩ := H
                replace H : (if ((a0_0 ++ a0_1) ++ (t125 ++ t126)).size + t127.size ≤ 9223372036854775807 then (if (a0_5.size : Int) > (wrap64 (1518 - ((((a0_0 ++ a0_1) ++ (t125 ++ t126)) ++ t127).size : Int))) then (some ((⟨#[]⟩ : ByteArray), 61)) else (if (((a0_0 ++ a0_1) ++ (t125 ++ t126)) ++ t127).size + a0_5.size ≤ 9223372036854775807 then (some ((((a0_0 ++ a0_1) ++ (t125 ++ t126)) ++ t127) ++ a0_5, 0)) else (none))) else (none)) = some (r1, r2) := H
                have A40 := Aside0.mk A400
                clear A400
                by_cases c41 : ((a0_0 ++ a0_1) ++ (t125 ++ t126)).size + t127.size ≤ 9223372036854775807
                · rw [if_pos c41] at H
                  have c41b0 := eq_true c41
                  have c41b1 : decide (((a0_0 ++ a0_1) ++ (t125 ++ t126)).size + t127.size ≤ 9223372036854775807) = true := decide_eq_true c41
                  try have c41b2 : (9223372036854775807 < ((a0_0 ++ a0_1) ++ (t125 ++ t126)).size + t127.size) = False := eq_false (Nat.not_lt.2 c41)
                  (try (have c41b3 : (9223372036854775807 < (((a0_0.size) + (a0_1.size)) + ((t125.size) + (t126.size))) + t127.size) = False := eq_false (by have h_ := c41; simp only [ByteArray.size_append] at h_; omega)))
                  (try (have c41b4 : ((((a0_0.size) + (a0_1.size)) + ((t125.size) + (t126.size))) + t127.size ≤ 9223372036854775807) = True := eq_true (by have h_ := c41; simp only [ByteArray.size_append] at h_; omega)))
                  by_cases c42 : (a0_5.size : Int) > (wrap64 (1518 - ((((a0_0 ++ a0_1) ++ (t125 ++ t126)) ++ t127).size : Int)))
                  · rw [if_pos c42] at H
                    have c42b0 : decide ((wrap64 (1518 - ((((a0_0 ++ a0_1) ++ (t125 ++ t126)) ++ t127).size : Int))) < (a0_5.size : Int)) = true := decide_eq_true c42
                    (try (have c42b1 : decide ((wrap64 (1518 - ((((a0_0.size : Int) + (a0_1.size : Int)) + ((t125.size : Int) + (t126.size : Int))) + (t127.size : Int)))) < (a0_5.size : Int)) = true := decide_eq_true (by have h_ := c42; simp only [ByteArray.size_append, Int.natCast_add] at h_; first | exact h_ | omega)))
                    clear c42
                    simp only [Option.some.injEq, Prod.mk.injEq] at H
                    obtain ⟨rfl, rfl⟩ := H
                    have hcz43_0 : wc.cell? ⟨gb121, 0, none⟩ = some (.string a0_0) := (blk_cell BK121.out 0).trans rfl
                    have hcz43_1 : wc.cell? ⟨gb121, 1, none⟩ = some (.string a0_1) := (blk_cell BK121.out 1).trans rfl
                    have hcz43_2 : wc.cell? ⟨gb121, 2, none⟩ = some (.int .i64 a0_2) := (blk_cell BK121.out 2).trans rfl
                    have hcz43_3 : wc.cell? ⟨gb121, 3, none⟩ = some (.int .i64 a0_3) := (blk_cell BK121.out 3).trans rfl
                    have hcz43_4 : wc.cell? ⟨gb121, 4, none⟩ = some (.int .i64 a0_4) := (blk_cell BK121.out 4).trans rfl
                    have hcz43_5 : wc.cell? ⟨gb121, 5, none⟩ = some (.string a0_5) := (blk_cell BK121.out 5).trans rfl
                    have hfz43_0 := blk_frozen BK121.out 0
                    have hfz43_1 := blk_frozen BK121.out 1
                    have hfz43_2 := blk_frozen BK121.out 2
                    have hfz43_3 := blk_frozen BK121.out 3
                    have hfz43_4 := blk_frozen BK121.out 4
                    have hfz43_5 := blk_frozen BK121.out 5
                    try go_wp2
                    have n0_ := Aside0.mk (blk_drew BK121.out)
                    have n1_ := Aside0.mk (below_drew1 HB.out)
                    clear BK121
                    clear HB
                    have BK121 := n0_
                    have HB := n1_
                    clear n0_ n1_
                    refine start_ (n := 12) (S := fun w' => w'.cell? ⟨gb121, 0, none⟩ = some (.string a0_0) ∧ w'.cell? ⟨gb121, 1, none⟩ = some (.string a0_1) ∧ w'.cell? ⟨gb121, 2, none⟩ = some (.int .i64 a0_2) ∧ w'.cell? ⟨gb121, 3, none⟩ = some (.int .i64 a0_3) ∧ w'.cell? ⟨gb121, 4, none⟩ = some (.int .i64 a0_4) ∧ w'.cell? ⟨gb121, 5, none⟩ = some (.string a0_5)) (ds := []) #[false, false, false, false, false, false, false, false, false, false, false, false] (by kernel_rfl) rfl rfl ⟨(blk_cell BK121.out 0).trans rfl, (blk_cell BK121.out 1).trans rfl, (blk_cell BK121.out 2).trans rfl, (blk_cell BK121.out 3).trans rfl, (blk_cell BK121.out 4).trans rfl, (blk_cell BK121.out 5).trans rfl⟩ (fun hHeld => ?_); refine with_tabW eth_Build.tab5 eth_Build.bits5 (fun HT_ HW_ => ?_)
                    generalize wc.drew = w44 at BK121 HB hHeld ⊢
                    refine pure_ (i := 0) (N := some 59) (v := ?_) (a' := ?_) #[true, false, false, false, false, false, false, false, false, false, false, false] rfl rfl (any_of HT_.out (by kernel_rfl)) (fun _ _ _ h => h) (Or.inl ⟨by rfl, ?_⟩) ?_ ?_
                    rotate_left
                    · intro w'
                      go_simp
                      with_reducible rfl
                    rotate_left
                    · simp only [Act.put, List.setIfInBounds_toArray, List.set_cons_zero, List.set_cons_succ, i64_w, i32_w]
                      rfl
                    refine pure_ (i := 2) (N := some 61) (v := ?_) (a' := ?_) #[true, false, true, false, false, false, false, false, false, false, false, false] rfl rfl (any_of HT_.out (by kernel_rfl)) (fun _ _ _ h => h) (Or.inl ⟨by rfl, ?_⟩) ?_ ?_
                    rotate_left
                    · intro w'
                      go_simp
                      with_reducible rfl
                    rotate_left
                    · simp only [Act.put, List.setIfInBounds_toArray, List.set_cons_zero, List.set_cons_succ, i64_w, i32_w]
                      rfl
                    refine pure_ (i := 5) (N := some 64) (v := ?_) (a' := ?_) #[true, false, true, false, false, true, false, false, false, false, false, false] rfl rfl (any_of HT_.out (by kernel_rfl)) (fun _ _ _ h => h) (Or.inl ⟨by rfl, ?_⟩) ?_ ?_
                    rotate_left
                    · intro w'
                      go_simp
                      with_reducible rfl
                    rotate_left
                    · simp only [Act.put, List.setIfInBounds_toArray, List.set_cons_zero, List.set_cons_succ, i64_w, i32_w]
                      rfl
                    refine take_ (i := 3) (N := some 62) (v := ?_) (a' := ?_) #[true, false, true, true, false, true, false, false, false, false, false, false] rfl rfl (take_ofW HT_.out HW_.out (by kernel_rfl)) (fun _ _ _ h => h) (Or.inl ⟨by rfl, ?_⟩) hHeld ?_ ?_
                    rotate_left
                    · rintro w' ⟨s0, s1, s2, s3, s4, s5⟩
                      go_simp
                      with_reducible rfl
                    rotate_left
                    · simp only [Act.put, List.setIfInBounds_toArray, List.set_cons_zero, List.set_cons_succ, i64_w, i32_w]
                      rfl
                    refine pure_ (i := 4) (N := some 63) (v := ?_) (a' := ?_) #[true, false, true, true, true, true, false, false, false, false, false, false] rfl rfl (any_of HT_.out (by kernel_rfl)) (fun _ _ _ h => h) (Or.inl ⟨by rfl, ?_⟩) ?_ ?_
                    rotate_left
                    · intro w'
                      go_simp
                      with_reducible rfl
                    rotate_left
                    · simp only [Act.put, List.setIfInBounds_toArray, List.set_cons_zero, List.set_cons_succ, i64_w, i32_w]
                      rfl
                    refine take_ (i := 6) (N := some 65) (v := ?_) (a' := ?_) #[true, false, true, true, true, true, true, false, false, false, false, false] rfl rfl (take_ofW HT_.out HW_.out (by kernel_rfl)) (fun _ _ _ h => h) (Or.inl ⟨by rfl, ?_⟩) hHeld ?_ ?_
                    rotate_left
                    · rintro w' ⟨s0, s1, s2, s3, s4, s5⟩
                      go_simp
                      with_reducible rfl
                    rotate_left
                    · simp only [Act.put, List.setIfInBounds_toArray, List.set_cons_zero, List.set_cons_succ, i64_w, i32_w]
                      rfl
                    refine pure_ (i := 7) (N := some 66) (v := ?_) (a' := ?_) #[true, false, true, true, true, true, true, true, false, false, false, false] rfl rfl (any_of HT_.out (by kernel_rfl)) (fun _ _ _ h => h) (Or.inl ⟨by rfl, ?_⟩) ?_ ?_
                    rotate_left
                    · intro w'
                      go_simp
                      with_reducible rfl
                    rotate_left
                    · simp only [Act.put, List.setIfInBounds_toArray, List.set_cons_zero, List.set_cons_succ, i64_w, i32_w]
                      rfl
                    refine one_ (i := 1) (N := some 60) #[true, true, true, true, true, true, true, true, false, false, false, false] rfl rfl (one_of HT_.out (by kernel_rfl)) (by decide) (fun K hK => ?_)
                    refine goes_ Try.func23 (by kernel_rfl) rfl #[.int .i64 33024] (by rfl) rfl rfl (by (try simp only [List.map_toArray, List.map_cons, List.map_nil]); first | done | rfl | (simp only [List.length_drop, List.length_take]; rfl)) ?_
                    with_reducible refine (eth_two.calls kj1 33024 t125 _ A36.out).mono ?_
                    rintro e w45 ⟨rfl, hb⟩
                    refine ⟨_, rfl, ?_⟩
                    have n0_ := Aside0.mk (blk_below (g := gb121) (o := .cells #[.string a0_0, .string a0_1, .int .i64 a0_2, .int .i64 a0_3, .int .i64 a0_4, .string a0_5] 23 (0, 0)) (by (with_reducible repeat (first | refine blk_drewN ?_ _ | refine blk_drew ?_ | refine blk_alloc ?_ _)); exact BK121.out) hb)
                    have n1_ := Aside0.mk (below_step (by repeat (first | (with_reducible first | exact HB.out | apply below_alloc | apply pw_below_drewN | apply below_drew1 | refine below_set ?_ GE121.out) | exact HB.out)) hb)
                    clear BK121
                    clear HB
                    have BK121 := n0_
                    have HB := n1_
                    clear n0_ n1_
                    (try clear hb)
                    (try clear hb2)
                    (try clear hk)
                    (try clear hi)
                    refine hK.out _ _ ⟨(blk_cell BK121.out 0).trans rfl, (blk_cell BK121.out 1).trans rfl, (blk_cell BK121.out 2).trans rfl, (blk_cell BK121.out 3).trans rfl, (blk_cell BK121.out 4).trans rfl, (blk_cell BK121.out 5).trans rfl⟩ (fun hHeld => ?_)
                    clear hK K
                    refine norm_ (a' := ?_) ?_ ?_
                    rotate_left
                    · show Act.put _ (some 60) _ = _
                      simp only [Act.put, List.setIfInBounds_toArray, List.set_cons_zero, List.set_cons_succ, i64_w, i32_w]
                      rfl
                    refine one_ (i := 8) (N := some 67) #[true, true, true, true, true, true, true, true, true, false, false, false] rfl rfl (one_of HT_.out (by kernel_rfl)) (by decide) (fun K hK => ?_)
                    refine goes_ Try.func23 (by kernel_rfl) rfl #[.int .i64 (Go.bits .or .i64 (wrap64 (a0_3 * 8192)) a0_2)] (by rfl) rfl rfl (by (try simp only [List.map_toArray, List.map_cons, List.map_nil]); first | done | rfl | (simp only [List.length_drop, List.length_take]; rfl)) ?_
                    with_reducible refine (eth_two.calls kj1 (Go.bits .or .i64 (wrap64 (a0_3 * 8192)) a0_2) t126 _ A37.out).mono ?_
                    rintro e w46 ⟨rfl, hb⟩
                    refine ⟨_, rfl, ?_⟩
                    have n0_ := Aside0.mk (blk_below (g := gb121) (o := .cells #[.string a0_0, .string a0_1, .int .i64 a0_2, .int .i64 a0_3, .int .i64 a0_4, .string a0_5] 23 (0, 0)) (by (with_reducible repeat (first | refine blk_drewN ?_ _ | refine blk_drew ?_ | refine blk_alloc ?_ _)); exact BK121.out) hb)
                    have n1_ := Aside0.mk (below_step (by repeat (first | (with_reducible first | exact HB.out | apply below_alloc | apply pw_below_drewN | apply below_drew1 | refine below_set ?_ GE121.out) | exact HB.out)) hb)
                    clear BK121
                    clear HB
                    have BK121 := n0_
                    have HB := n1_
                    clear n0_ n1_
                    (try clear hb)
                    (try clear hb2)
                    (try clear hk)
                    (try clear hi)
                    refine hK.out _ _ ⟨(blk_cell BK121.out 0).trans rfl, (blk_cell BK121.out 1).trans rfl, (blk_cell BK121.out 2).trans rfl, (blk_cell BK121.out 3).trans rfl, (blk_cell BK121.out 4).trans rfl, (blk_cell BK121.out 5).trans rfl⟩ (fun hHeld => ?_)
                    clear hK K
                    refine norm_ (a' := ?_) ?_ ?_
                    rotate_left
                    · show Act.put _ (some 67) _ = _
                      simp only [Act.put, List.setIfInBounds_toArray, List.set_cons_zero, List.set_cons_succ, i64_w, i32_w]
                      rfl
                    refine pure_ (i := 9) (N := some 68) (v := ?_) (a' := ?_) #[true, true, true, true, true, true, true, true, true, true, false, false] rfl rfl (any_of HT_.out (by kernel_rfl)) (fun _ _ _ h => h) (Or.inl ⟨by rfl, ?_⟩) ?_ ?_
                    rotate_left
                    · intro w'
                      go_simp
                      with_reducible rfl
                    rotate_left
                    · simp only [Act.put, List.setIfInBounds_toArray, List.set_cons_zero, List.set_cons_succ, i64_w, i32_w]
                      rfl
                    refine pure_ (i := 10) (N := some 69) (v := ?_) (a' := ?_) #[true, true, true, true, true, true, true, true, true, true, true, false] rfl rfl (any_of HT_.out (by kernel_rfl)) (fun _ _ _ h => h) (Or.inl ⟨by rfl, ?_⟩) ?_ ?_
                    rotate_left
                    · intro w'
                      go_simp
                      with_reducible rfl
                    rotate_left
                    · simp only [Act.put, List.setIfInBounds_toArray, List.set_cons_zero, List.set_cons_succ, i64_w, i32_w]
                      rfl
                    refine pure_ (i := 11) (N := some 4) (v := ?_) (a' := ?_) #[true, true, true, true, true, true, true, true, true, true, true, true] rfl rfl (any_of HT_.out (by kernel_rfl)) (fun _ _ _ h => h) (Or.inl ⟨by rfl, ?_⟩) ?_ ?_
                    rotate_left
                    · intro w'
                      go_simp
                      with_reducible rfl
                    rotate_left
                    · simp only [Act.put, List.setIfInBounds_toArray, List.set_cons_zero, List.set_cons_succ, i64_w, i32_w]
                      rfl
                    refine done_ (done_of HT_.out (by kernel_rfl)) ?_
                    have hcz47_0 : w46.cell? ⟨gb121, 0, none⟩ = some (.string a0_0) := (blk_cell BK121.out 0).trans rfl
                    have hcz47_1 : w46.cell? ⟨gb121, 1, none⟩ = some (.string a0_1) := (blk_cell BK121.out 1).trans rfl
                    have hcz47_2 : w46.cell? ⟨gb121, 2, none⟩ = some (.int .i64 a0_2) := (blk_cell BK121.out 2).trans rfl
                    have hcz47_3 : w46.cell? ⟨gb121, 3, none⟩ = some (.int .i64 a0_3) := (blk_cell BK121.out 3).trans rfl
                    have hcz47_4 : w46.cell? ⟨gb121, 4, none⟩ = some (.int .i64 a0_4) := (blk_cell BK121.out 4).trans rfl
                    have hcz47_5 : w46.cell? ⟨gb121, 5, none⟩ = some (.string a0_5) := (blk_cell BK121.out 5).trans rfl
                    have hfz47_0 := blk_frozen BK121.out 0
                    have hfz47_1 := blk_frozen BK121.out 1
                    have hfz47_2 := blk_frozen BK121.out 2
                    have hfz47_3 := blk_frozen BK121.out 3
                    have hfz47_4 := blk_frozen BK121.out 4
                    have hfz47_5 := blk_frozen BK121.out 5
                    try go_wp2_with (first | ((with_reducible refine gate_callee (f := 23) rfl ?_); refine goesL_ (some 73) rfl rfl Try.func23 (by kernel_rfl) rfl #[.int .i64 a0_4] rfl (by (try simp only [List.map_toArray, List.map_cons, List.map_nil]); first | done | rfl | (simp only [List.length_drop, List.length_take]; rfl)) ?_; (with_reducible refine (eth_two.calls kj1 a0_4 t127 _ A40.out).mono ?_); rintro e w48 ⟨rfl, hb⟩; refine ⟨_, rfl, ?_⟩; have n0_ := Aside0.mk (blk_below (g := gb121) (o := .cells #[.string a0_0, .string a0_1, .int .i64 a0_2, .int .i64 a0_3, .int .i64 a0_4, .string a0_5] 23 (0, 0)) (by (with_reducible repeat (first | refine blk_drewN ?_ _ | refine blk_drew ?_ | refine blk_alloc ?_ _)); exact BK121.out) hb); have n1_ := Aside0.mk (below_step (by repeat (first | (with_reducible first | exact HB.out | apply below_alloc | apply pw_below_drewN | apply below_drew1 | refine below_set ?_ GE121.out) | exact HB.out)) hb); clear BK121; clear HB; have BK121 := n0_; have HB := n1_; clear n0_ n1_; (try clear hb); (try clear hb2); (try clear hk); (try clear hi); have hcz49_0 : w48.cell? ⟨gb121, 0, none⟩ = some (.string a0_0) := (blk_cell BK121.out 0).trans rfl; have hcz49_1 : w48.cell? ⟨gb121, 1, none⟩ = some (.string a0_1) := (blk_cell BK121.out 1).trans rfl; have hcz49_2 : w48.cell? ⟨gb121, 2, none⟩ = some (.int .i64 a0_2) := (blk_cell BK121.out 2).trans rfl; have hcz49_3 : w48.cell? ⟨gb121, 3, none⟩ = some (.int .i64 a0_3) := (blk_cell BK121.out 3).trans rfl; have hcz49_4 : w48.cell? ⟨gb121, 4, none⟩ = some (.int .i64 a0_4) := (blk_cell BK121.out 4).trans rfl; have hcz49_5 : w48.cell? ⟨gb121, 5, none⟩ = some (.string a0_5) := (blk_cell BK121.out 5).trans rfl; have hfz49_0 := blk_frozen BK121.out 0; have hfz49_1 := blk_frozen BK121.out 1; have hfz49_2 := blk_frozen BK121.out 2; have hfz49_3 := blk_frozen BK121.out 3; have hfz49_4 := blk_frozen BK121.out 4; have hfz49_5 := blk_frozen BK121.out 5))
                    go_ret2
                    exact ⟨by first | rfl | (simp [errW_none, errW_some] <;> rfl) | (simp [*, errW_none, errW_some] <;> rfl), by repeat (first | (with_reducible first | exact HB.out | apply below_alloc | apply pw_below_drewN | apply below_drew1 | refine below_set ?_ GE121.out) | exact HB.out)⟩
                  · rw [if_neg c42] at H
                    have c42b0 : decide ((wrap64 (1518 - ((((a0_0 ++ a0_1) ++ (t125 ++ t126)) ++ t127).size : Int))) < (a0_5.size : Int)) = false := decide_eq_false c42
                    (try (have c42b1 : decide ((wrap64 (1518 - ((((a0_0.size : Int) + (a0_1.size : Int)) + ((t125.size : Int) + (t126.size : Int))) + (t127.size : Int)))) < (a0_5.size : Int)) = false := decide_eq_false (by have h_ := c42; simp only [ByteArray.size_append, Int.natCast_add] at h_; first | exact h_ | omega)))
                    clear c42
                    by_cases c50 : (((a0_0 ++ a0_1) ++ (t125 ++ t126)) ++ t127).size + a0_5.size ≤ 9223372036854775807
                    · rw [if_pos c50] at H
                      have c50b0 := eq_true c50
                      have c50b1 : decide ((((a0_0 ++ a0_1) ++ (t125 ++ t126)) ++ t127).size + a0_5.size ≤ 9223372036854775807) = true := decide_eq_true c50
                      try have c50b2 : (9223372036854775807 < (((a0_0 ++ a0_1) ++ (t125 ++ t126)) ++ t127).size + a0_5.size) = False := eq_false (Nat.not_lt.2 c50)
                      (try (have c50b3 : (9223372036854775807 < ((((a0_0.size) + (a0_1.size)) + ((t125.size) + (t126.size))) + (t127.size)) + a0_5.size) = False := eq_false (by have h_ := c50; simp only [ByteArray.size_append] at h_; omega)))
                      (try (have c50b4 : (((((a0_0.size) + (a0_1.size)) + ((t125.size) + (t126.size))) + (t127.size)) + a0_5.size ≤ 9223372036854775807) = True := eq_true (by have h_ := c50; simp only [ByteArray.size_append] at h_; omega)))
                      simp only [Option.some.injEq, Prod.mk.injEq] at H
                      obtain ⟨rfl, rfl⟩ := H
                      have hcz51_0 : wc.cell? ⟨gb121, 0, none⟩ = some (.string a0_0) := (blk_cell BK121.out 0).trans rfl
                      have hcz51_1 : wc.cell? ⟨gb121, 1, none⟩ = some (.string a0_1) := (blk_cell BK121.out 1).trans rfl
                      have hcz51_2 : wc.cell? ⟨gb121, 2, none⟩ = some (.int .i64 a0_2) := (blk_cell BK121.out 2).trans rfl
                      have hcz51_3 : wc.cell? ⟨gb121, 3, none⟩ = some (.int .i64 a0_3) := (blk_cell BK121.out 3).trans rfl
                      have hcz51_4 : wc.cell? ⟨gb121, 4, none⟩ = some (.int .i64 a0_4) := (blk_cell BK121.out 4).trans rfl
                      have hcz51_5 : wc.cell? ⟨gb121, 5, none⟩ = some (.string a0_5) := (blk_cell BK121.out 5).trans rfl
                      have hfz51_0 := blk_frozen BK121.out 0
                      have hfz51_1 := blk_frozen BK121.out 1
                      have hfz51_2 := blk_frozen BK121.out 2
                      have hfz51_3 := blk_frozen BK121.out 3
                      have hfz51_4 := blk_frozen BK121.out 4
                      have hfz51_5 := blk_frozen BK121.out 5
                      try go_wp2
                      have n0_ := Aside0.mk (blk_drew BK121.out)
                      have n1_ := Aside0.mk (below_drew1 HB.out)
                      clear BK121
                      clear HB
                      have BK121 := n0_
                      have HB := n1_
                      clear n0_ n1_
                      refine start_ (n := 12) (S := fun w' => w'.cell? ⟨gb121, 0, none⟩ = some (.string a0_0) ∧ w'.cell? ⟨gb121, 1, none⟩ = some (.string a0_1) ∧ w'.cell? ⟨gb121, 2, none⟩ = some (.int .i64 a0_2) ∧ w'.cell? ⟨gb121, 3, none⟩ = some (.int .i64 a0_3) ∧ w'.cell? ⟨gb121, 4, none⟩ = some (.int .i64 a0_4) ∧ w'.cell? ⟨gb121, 5, none⟩ = some (.string a0_5)) (ds := []) #[false, false, false, false, false, false, false, false, false, false, false, false] (by kernel_rfl) rfl rfl ⟨(blk_cell BK121.out 0).trans rfl, (blk_cell BK121.out 1).trans rfl, (blk_cell BK121.out 2).trans rfl, (blk_cell BK121.out 3).trans rfl, (blk_cell BK121.out 4).trans rfl, (blk_cell BK121.out 5).trans rfl⟩ (fun hHeld => ?_); refine with_tabW eth_Build.tab5 eth_Build.bits5 (fun HT_ HW_ => ?_)
                      generalize wc.drew = w52 at BK121 HB hHeld ⊢
                      refine pure_ (i := 0) (N := some 59) (v := ?_) (a' := ?_) #[true, false, false, false, false, false, false, false, false, false, false, false] rfl rfl (any_of HT_.out (by kernel_rfl)) (fun _ _ _ h => h) (Or.inl ⟨by rfl, ?_⟩) ?_ ?_
                      rotate_left
                      · intro w'
                        go_simp
                        with_reducible rfl
                      rotate_left
                      · simp only [Act.put, List.setIfInBounds_toArray, List.set_cons_zero, List.set_cons_succ, i64_w, i32_w]
                        rfl
                      refine pure_ (i := 2) (N := some 61) (v := ?_) (a' := ?_) #[true, false, true, false, false, false, false, false, false, false, false, false] rfl rfl (any_of HT_.out (by kernel_rfl)) (fun _ _ _ h => h) (Or.inl ⟨by rfl, ?_⟩) ?_ ?_
                      rotate_left
                      · intro w'
                        go_simp
                        with_reducible rfl
                      rotate_left
                      · simp only [Act.put, List.setIfInBounds_toArray, List.set_cons_zero, List.set_cons_succ, i64_w, i32_w]
                        rfl
                      refine pure_ (i := 5) (N := some 64) (v := ?_) (a' := ?_) #[true, false, true, false, false, true, false, false, false, false, false, false] rfl rfl (any_of HT_.out (by kernel_rfl)) (fun _ _ _ h => h) (Or.inl ⟨by rfl, ?_⟩) ?_ ?_
                      rotate_left
                      · intro w'
                        go_simp
                        with_reducible rfl
                      rotate_left
                      · simp only [Act.put, List.setIfInBounds_toArray, List.set_cons_zero, List.set_cons_succ, i64_w, i32_w]
                        rfl
                      refine take_ (i := 3) (N := some 62) (v := ?_) (a' := ?_) #[true, false, true, true, false, true, false, false, false, false, false, false] rfl rfl (take_ofW HT_.out HW_.out (by kernel_rfl)) (fun _ _ _ h => h) (Or.inl ⟨by rfl, ?_⟩) hHeld ?_ ?_
                      rotate_left
                      · rintro w' ⟨s0, s1, s2, s3, s4, s5⟩
                        go_simp
                        with_reducible rfl
                      rotate_left
                      · simp only [Act.put, List.setIfInBounds_toArray, List.set_cons_zero, List.set_cons_succ, i64_w, i32_w]
                        rfl
                      refine pure_ (i := 4) (N := some 63) (v := ?_) (a' := ?_) #[true, false, true, true, true, true, false, false, false, false, false, false] rfl rfl (any_of HT_.out (by kernel_rfl)) (fun _ _ _ h => h) (Or.inl ⟨by rfl, ?_⟩) ?_ ?_
                      rotate_left
                      · intro w'
                        go_simp
                        with_reducible rfl
                      rotate_left
                      · simp only [Act.put, List.setIfInBounds_toArray, List.set_cons_zero, List.set_cons_succ, i64_w, i32_w]
                        rfl
                      refine take_ (i := 6) (N := some 65) (v := ?_) (a' := ?_) #[true, false, true, true, true, true, true, false, false, false, false, false] rfl rfl (take_ofW HT_.out HW_.out (by kernel_rfl)) (fun _ _ _ h => h) (Or.inl ⟨by rfl, ?_⟩) hHeld ?_ ?_
                      rotate_left
                      · rintro w' ⟨s0, s1, s2, s3, s4, s5⟩
                        go_simp
                        with_reducible rfl
                      rotate_left
                      · simp only [Act.put, List.setIfInBounds_toArray, List.set_cons_zero, List.set_cons_succ, i64_w, i32_w]
                        rfl
                      refine pure_ (i := 7) (N := some 66) (v := ?_) (a' := ?_) #[true, false, true, true, true, true, true, true, false, false, false, false] rfl rfl (any_of HT_.out (by kernel_rfl)) (fun _ _ _ h => h) (Or.inl ⟨by rfl, ?_⟩) ?_ ?_
                      rotate_left
                      · intro w'
                        go_simp
                        with_reducible rfl
                      rotate_left
                      · simp only [Act.put, List.setIfInBounds_toArray, List.set_cons_zero, List.set_cons_succ, i64_w, i32_w]
                        rfl
                      refine one_ (i := 1) (N := some 60) #[true, true, true, true, true, true, true, true, false, false, false, false] rfl rfl (one_of HT_.out (by kernel_rfl)) (by decide) (fun K hK => ?_)
                      refine goes_ Try.func23 (by kernel_rfl) rfl #[.int .i64 33024] (by rfl) rfl rfl (by (try simp only [List.map_toArray, List.map_cons, List.map_nil]); first | done | rfl | (simp only [List.length_drop, List.length_take]; rfl)) ?_
                      with_reducible refine (eth_two.calls kj1 33024 t125 _ A36.out).mono ?_
                      rintro e w53 ⟨rfl, hb⟩
                      refine ⟨_, rfl, ?_⟩
                      have n0_ := Aside0.mk (blk_below (g := gb121) (o := .cells #[.string a0_0, .string a0_1, .int .i64 a0_2, .int .i64 a0_3, .int .i64 a0_4, .string a0_5] 23 (0, 0)) (by (with_reducible repeat (first | refine blk_drewN ?_ _ | refine blk_drew ?_ | refine blk_alloc ?_ _)); exact BK121.out) hb)
                      have n1_ := Aside0.mk (below_step (by repeat (first | (with_reducible first | exact HB.out | apply below_alloc | apply pw_below_drewN | apply below_drew1 | refine below_set ?_ GE121.out) | exact HB.out)) hb)
                      clear BK121
                      clear HB
                      have BK121 := n0_
                      have HB := n1_
                      clear n0_ n1_
                      (try clear hb)
                      (try clear hb2)
                      (try clear hk)
                      (try clear hi)
                      refine hK.out _ _ ⟨(blk_cell BK121.out 0).trans rfl, (blk_cell BK121.out 1).trans rfl, (blk_cell BK121.out 2).trans rfl, (blk_cell BK121.out 3).trans rfl, (blk_cell BK121.out 4).trans rfl, (blk_cell BK121.out 5).trans rfl⟩ (fun hHeld => ?_)
                      clear hK K
                      refine norm_ (a' := ?_) ?_ ?_
                      rotate_left
                      · show Act.put _ (some 60) _ = _
                        simp only [Act.put, List.setIfInBounds_toArray, List.set_cons_zero, List.set_cons_succ, i64_w, i32_w]
                        rfl
                      refine one_ (i := 8) (N := some 67) #[true, true, true, true, true, true, true, true, true, false, false, false] rfl rfl (one_of HT_.out (by kernel_rfl)) (by decide) (fun K hK => ?_)
                      refine goes_ Try.func23 (by kernel_rfl) rfl #[.int .i64 (Go.bits .or .i64 (wrap64 (a0_3 * 8192)) a0_2)] (by rfl) rfl rfl (by (try simp only [List.map_toArray, List.map_cons, List.map_nil]); first | done | rfl | (simp only [List.length_drop, List.length_take]; rfl)) ?_
                      with_reducible refine (eth_two.calls kj1 (Go.bits .or .i64 (wrap64 (a0_3 * 8192)) a0_2) t126 _ A37.out).mono ?_
                      rintro e w54 ⟨rfl, hb⟩
                      refine ⟨_, rfl, ?_⟩
                      have n0_ := Aside0.mk (blk_below (g := gb121) (o := .cells #[.string a0_0, .string a0_1, .int .i64 a0_2, .int .i64 a0_3, .int .i64 a0_4, .string a0_5] 23 (0, 0)) (by (with_reducible repeat (first | refine blk_drewN ?_ _ | refine blk_drew ?_ | refine blk_alloc ?_ _)); exact BK121.out) hb)
                      have n1_ := Aside0.mk (below_step (by repeat (first | (with_reducible first | exact HB.out | apply below_alloc | apply pw_below_drewN | apply below_drew1 | refine below_set ?_ GE121.out) | exact HB.out)) hb)
                      clear BK121
                      clear HB
                      have BK121 := n0_
                      have HB := n1_
                      clear n0_ n1_
                      (try clear hb)
                      (try clear hb2)
                      (try clear hk)
                      (try clear hi)
                      refine hK.out _ _ ⟨(blk_cell BK121.out 0).trans rfl, (blk_cell BK121.out 1).trans rfl, (blk_cell BK121.out 2).trans rfl, (blk_cell BK121.out 3).trans rfl, (blk_cell BK121.out 4).trans rfl, (blk_cell BK121.out 5).trans rfl⟩ (fun hHeld => ?_)
                      clear hK K
                      refine norm_ (a' := ?_) ?_ ?_
                      rotate_left
                      · show Act.put _ (some 67) _ = _
                        simp only [Act.put, List.setIfInBounds_toArray, List.set_cons_zero, List.set_cons_succ, i64_w, i32_w]
                        rfl
                      refine pure_ (i := 9) (N := some 68) (v := ?_) (a' := ?_) #[true, true, true, true, true, true, true, true, true, true, false, false] rfl rfl (any_of HT_.out (by kernel_rfl)) (fun _ _ _ h => h) (Or.inl ⟨by rfl, ?_⟩) ?_ ?_
                      rotate_left
                      · intro w'
                        go_simp
                        with_reducible rfl
                      rotate_left
                      · simp only [Act.put, List.setIfInBounds_toArray, List.set_cons_zero, List.set_cons_succ, i64_w, i32_w]
                        rfl
                      refine pure_ (i := 10) (N := some 69) (v := ?_) (a' := ?_) #[true, true, true, true, true, true, true, true, true, true, true, false] rfl rfl (any_of HT_.out (by kernel_rfl)) (fun _ _ _ h => h) (Or.inl ⟨by rfl, ?_⟩) ?_ ?_
                      rotate_left
                      · intro w'
                        go_simp
                        with_reducible rfl
                      rotate_left
                      · simp only [Act.put, List.setIfInBounds_toArray, List.set_cons_zero, List.set_cons_succ, i64_w, i32_w]
                        rfl
                      refine pure_ (i := 11) (N := some 4) (v := ?_) (a' := ?_) #[true, true, true, true, true, true, true, true, true, true, true, true] rfl rfl (any_of HT_.out (by kernel_rfl)) (fun _ _ _ h => h) (Or.inl ⟨by rfl, ?_⟩) ?_ ?_
                      rotate_left
                      · intro w'
                        go_simp
                        with_reducible rfl
                      rotate_left
                      · simp only [Act.put, List.setIfInBounds_toArray, List.set_cons_zero, List.set_cons_succ, i64_w, i32_w]
                        rfl
                      refine done_ (done_of HT_.out (by kernel_rfl)) ?_
                      have hcz55_0 : w54.cell? ⟨gb121, 0, none⟩ = some (.string a0_0) := (blk_cell BK121.out 0).trans rfl
                      have hcz55_1 : w54.cell? ⟨gb121, 1, none⟩ = some (.string a0_1) := (blk_cell BK121.out 1).trans rfl
                      have hcz55_2 : w54.cell? ⟨gb121, 2, none⟩ = some (.int .i64 a0_2) := (blk_cell BK121.out 2).trans rfl
                      have hcz55_3 : w54.cell? ⟨gb121, 3, none⟩ = some (.int .i64 a0_3) := (blk_cell BK121.out 3).trans rfl
                      have hcz55_4 : w54.cell? ⟨gb121, 4, none⟩ = some (.int .i64 a0_4) := (blk_cell BK121.out 4).trans rfl
                      have hcz55_5 : w54.cell? ⟨gb121, 5, none⟩ = some (.string a0_5) := (blk_cell BK121.out 5).trans rfl
                      have hfz55_0 := blk_frozen BK121.out 0
                      have hfz55_1 := blk_frozen BK121.out 1
                      have hfz55_2 := blk_frozen BK121.out 2
                      have hfz55_3 := blk_frozen BK121.out 3
                      have hfz55_4 := blk_frozen BK121.out 4
                      have hfz55_5 := blk_frozen BK121.out 5
                      try go_wp2_with (first | ((with_reducible refine gate_callee (f := 23) rfl ?_); refine goesL_ (some 73) rfl rfl Try.func23 (by kernel_rfl) rfl #[.int .i64 a0_4] rfl (by (try simp only [List.map_toArray, List.map_cons, List.map_nil]); first | done | rfl | (simp only [List.length_drop, List.length_take]; rfl)) ?_; (with_reducible refine (eth_two.calls kj1 a0_4 t127 _ A40.out).mono ?_); rintro e w56 ⟨rfl, hb⟩; refine ⟨_, rfl, ?_⟩; have n0_ := Aside0.mk (blk_below (g := gb121) (o := .cells #[.string a0_0, .string a0_1, .int .i64 a0_2, .int .i64 a0_3, .int .i64 a0_4, .string a0_5] 23 (0, 0)) (by (with_reducible repeat (first | refine blk_drewN ?_ _ | refine blk_drew ?_ | refine blk_alloc ?_ _)); exact BK121.out) hb); have n1_ := Aside0.mk (below_step (by repeat (first | (with_reducible first | exact HB.out | apply below_alloc | apply pw_below_drewN | apply below_drew1 | refine below_set ?_ GE121.out) | exact HB.out)) hb); clear BK121; clear HB; have BK121 := n0_; have HB := n1_; clear n0_ n1_; (try clear hb); (try clear hb2); (try clear hk); (try clear hi); have hcz57_0 : w56.cell? ⟨gb121, 0, none⟩ = some (.string a0_0) := (blk_cell BK121.out 0).trans rfl; have hcz57_1 : w56.cell? ⟨gb121, 1, none⟩ = some (.string a0_1) := (blk_cell BK121.out 1).trans rfl; have hcz57_2 : w56.cell? ⟨gb121, 2, none⟩ = some (.int .i64 a0_2) := (blk_cell BK121.out 2).trans rfl; have hcz57_3 : w56.cell? ⟨gb121, 3, none⟩ = some (.int .i64 a0_3) := (blk_cell BK121.out 3).trans rfl; have hcz57_4 : w56.cell? ⟨gb121, 4, none⟩ = some (.int .i64 a0_4) := (blk_cell BK121.out 4).trans rfl; have hcz57_5 : w56.cell? ⟨gb121, 5, none⟩ = some (.string a0_5) := (blk_cell BK121.out 5).trans rfl; have hfz57_0 := blk_frozen BK121.out 0; have hfz57_1 := blk_frozen BK121.out 1; have hfz57_2 := blk_frozen BK121.out 2; have hfz57_3 := blk_frozen BK121.out 3; have hfz57_4 := blk_frozen BK121.out 4; have hfz57_5 := blk_frozen BK121.out 5))
                      go_ret2
                      exact ⟨by first | rfl | (simp [errW_none, errW_some] <;> rfl) | (simp [*, errW_none, errW_some] <;> rfl), by repeat (first | (with_reducible first | exact HB.out | apply below_alloc | apply pw_below_drewN | apply below_drew1 | refine below_set ?_ GE121.out) | exact HB.out)⟩
                    · rw [if_neg c50] at H
                      exact absurd H (by simp)
                · rw [if_neg c41] at H
                  exact absurd H (by simp)
              · rw [if_neg c39] at H
                exact absurd H (by simp)
            · rw [if_neg c38] at H
              exact absurd H (by simp)
        · rw [if_neg c24] at H
          exact absurd H (by simp)

end Go.Proofs.Ytbecpkkhpjigbaa.P
