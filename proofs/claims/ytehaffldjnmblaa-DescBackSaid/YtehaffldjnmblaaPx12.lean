/- What functions of the program compute, each with the walk that shows it: by a program (a turned copy of the kit's print; wip/myprint.py). -/
import Derived.Test.YtehaffldjnmblaaPx0
import Derived.Test.YtehaffldjnmblaaPx1
import Derived.Test.YtehaffldjnmblaaPx5
import Derived.Test.YtehaffldjnmblaaPx9
import Derived.Test.YtehaffldjnmblaaHParse
namespace Go.Proofs.Ytehaffldjnmblaa.P
open Go.RowKit Go.Proofs.YtehaffldjnmblaaW.PrintWords Go.Proofs.YtehaffldjnmblaaW.PrintLast Go.Proofs.YtehaffldjnmblaaW.PrintMore
attribute [local go_sem] max2_int min2_int max_two min_two max_three min_three max_four min_four   -- for this text's walks alone
set_option linter.unusedVariables false
set_option linter.unusedSimpArgs false

attribute [local go_sem high] eqA25
/-! ### aqueductlaw12_DescBack: function 5 -/
def aqueductlaw12_DescBack.j0 : Nat → ByteArray → Option (Bool)
  | 0, _ => none
  | k + 1, x2 => (desc_Parse.f k x2).bind fun bt202 => (if bt202.2.2.2.2 = 0 then ((desc_Build.f k bt202.1 bt202.2.1 bt202.2.2.1 bt202.2.2.2.1).bind fun bt208 => (if bt208.2 = 0 then (if bt208.1.toList = x2.toList then ((aqueductlaw12_fixed.f k).bind fun t210 => (some t210)) else (some false)) else (some false))) else (if (bt202.1 == 0 && (bt202.2.1 == 0 && (bt202.2.2.1 == 0 && (bt202.2.2.2.1 == 0)))) = true then (if (x2.size : Int) = 16 then (some false) else ((aqueductlaw12_fixed.f k).bind fun t211 => (some t211))) else (some false)))
def aqueductlaw12_DescBack.f (k : Nat) (a0_0 : Int) (a0_1 : Int) (a0_2 : Int) (a0_3 : Int) (a1_0 : Int) (a1_1 : Int) (a1_2 : Int) (a1_3 : Int) (a2 : ByteArray) : Option (Bool) := (desc_Build.f k a0_0 a0_1 a0_2 a0_3).bind fun bt192 => ((desc_Build.f k a1_0 a1_1 a1_2 a1_3).bind fun bt194 => (if bt192.2 = 0 then ((desc_Parse.f k bt192.1).bind fun bt196 => (if bt196.2.2.2.2 = 0 then (if (!(bt196.1 == a0_0) || (!(bt196.2.1 == a0_1) || (!(bt196.2.2.1 == a0_2) || (!(bt196.2.2.2.1 == a0_3))))) = true then (some false) else (if bt194.2 = 0 then (if ((bt192.1.toList == bt194.1.toList) != (a0_0 == a1_0 && (a0_1 == a1_1 && (a0_2 == a1_2 && (a0_3 == a1_3))))) = true then (some false) else (aqueductlaw12_DescBack.j0 k a2)) else (aqueductlaw12_DescBack.j0 k a2))) else (some false))) else (aqueductlaw12_DescBack.j0 k a2)))
theorem aqueductlaw12_DescBack.mono_l : ∀ k, (∀ y0, LeO (aqueductlaw12_DescBack.j0 k y0) (aqueductlaw12_DescBack.j0 (k + 1) y0))
  | 0 => fun _ r h => by simp [aqueductlaw12_DescBack.j0] at h
  | k + 1 => by
    have ih0 := aqueductlaw12_DescBack.mono_l k
    · intro y0
      unfold aqueductlaw12_DescBack.j0
      repeat' first
      | (with_reducible exact ih0 _)
      | (with_reducible exact aqueductlaw12_fixed.mono _)
      | (with_reducible exact desc_Build.mono _ _ _ _ _)
      | (with_reducible exact desc_Parse.mono _ _)
      | (with_reducible exact LeO.refl _)
      | (with_reducible exact LeO.none _)
      | (with_reducible refine LeO.ite ?_ ?_)
      | (with_reducible refine LeO.bind ?_ (fun _ => ?_))
      | exact ih0 _
      | exact aqueductlaw12_fixed.mono _
      | exact desc_Build.mono _ _ _ _ _
      | exact desc_Parse.mono _ _
      | exact LeO.none _
      | refine LeO.ite ?_ ?_
      | refine LeO.bind ?_ (fun _ => ?_)
theorem aqueductlaw12_DescBack.mono : ∀ a0 a1 a2 a3 a4 a5 a6 a7 a8 k, LeO (aqueductlaw12_DescBack.f k a0 a1 a2 a3 a4 a5 a6 a7 a8) (aqueductlaw12_DescBack.f (k + 1) a0 a1 a2 a3 a4 a5 a6 a7 a8) := by
  intro a0 a1 a2 a3 a4 a5 a6 a7 a8 k
  have ih0 := aqueductlaw12_DescBack.mono_l k
  unfold aqueductlaw12_DescBack.f
  repeat' first
      | (with_reducible exact ih0 _)
      | (with_reducible exact aqueductlaw12_fixed.mono _)
      | (with_reducible exact desc_Build.mono _ _ _ _ _)
      | (with_reducible exact desc_Parse.mono _ _)
      | (with_reducible exact LeO.refl _)
      | (with_reducible exact LeO.none _)
      | (with_reducible refine LeO.ite ?_ ?_)
      | (with_reducible refine LeO.bind ?_ (fun _ => ?_))
      | exact ih0 _
      | exact aqueductlaw12_fixed.mono _
      | exact desc_Build.mono _ _ _ _ _
      | exact desc_Parse.mono _ _
      | exact LeO.none _
      | refine LeO.ite ?_ ?_
      | refine LeO.bind ?_ (fun _ => ?_)
set_option maxHeartbeats 8000000 in
set_option maxRecDepth 100000 in
theorem aqueductlaw12_DescBack.calls (k : Nat) (a0_0 : Int) (a0_1 : Int) (a0_2 : Int) (a0_3 : Int) (a1_0 : Int) (a1_1 : Int) (a1_2 : Int) (a1_3 : Int) (a2 : ByteArray) (r : Bool) (w : World) (h : aqueductlaw12_DescBack.f k a0_0 a0_1 a0_2 a0_3 a1_0 a1_1 a1_2 a1_3 a2 = some r) (hr_ : r = true) :
    Calls Try.prog 5 #[.agg #[.int .u64 a0_0, .int .u32 a0_1, .int .i64 a0_2, .int .i64 a0_3], .agg #[.int .u64 a1_0, .int .u32 a1_1, .int .i64 a1_2, .int .i64 a1_3], .string a2] w fun e w' => e = .returned (.bool r) ∧ Below w.heap.size w w' := by
  have hu25 := Try.underlying25
  have HB := Aside0.mk (Below.refl w.heap.size w)
  have H : ((desc_Build.f k a0_0 a0_1 a0_2 a0_3).bind fun bt192 => ((desc_Build.f k a1_0 a1_1 a1_2 a1_3).bind fun bt194 => (if bt192.2 = 0 then ((desc_Parse.f k bt192.1).bind fun bt196 => (if bt196.2.2.2.2 = 0 then (if (!(bt196.1 == a0_0) || (!(bt196.2.1 == a0_1) || (!(bt196.2.2.1 == a0_2) || (!(bt196.2.2.2.1 == a0_3))))) = true then (some false) else (if bt194.2 = 0 then (if ((bt192.1.toList == bt194.1.toList) != (a0_0 == a1_0 && (a0_1 == a1_1 && (a0_2 == a1_2 && (a0_3 == a1_3))))) = true then (some false) else (aqueductlaw12_DescBack.j0 k a2)) else (aqueductlaw12_DescBack.j0 k a2))) else (some false))) else (aqueductlaw12_DescBack.j0 k a2)))) = some r := h
  clear h
  have HR_ := Aside0.mk hr_
  clear hr_
  replace H := Option.bind_eq_some_iff.mp H
  obtain ⟨⟨t192, t193⟩, A40, H⟩ := H
  replace H : ((desc_Build.f k a1_0 a1_1 a1_2 a1_3).bind fun bt194 => (if t193 = 0 then ((desc_Parse.f k t192).bind fun bt196 => (if bt196.2.2.2.2 = 0 then (if (!(bt196.1 == a0_0) || (!(bt196.2.1 == a0_1) || (!(bt196.2.2.1 == a0_2) || (!(bt196.2.2.2.1 == a0_3))))) = true then (some false) else (if bt194.2 = 0 then (if ((t192.toList == bt194.1.toList) != (a0_0 == a1_0 && (a0_1 == a1_1 && (a0_2 == a1_2 && (a0_3 == a1_3))))) = true then (some false) else (aqueductlaw12_DescBack.j0 k a2)) else (aqueductlaw12_DescBack.j0 k a2))) else (some false))) else (aqueductlaw12_DescBack.j0 k a2))) = some r := H
  have A4 := Aside0.mk A40
  clear A40
  replace H := Option.bind_eq_some_iff.mp H
  obtain ⟨⟨t194, t195⟩, A50, H⟩ := H
  replace H : (if t193 = 0 then ((desc_Parse.f k t192).bind fun bt196 => (if bt196.2.2.2.2 = 0 then (if (!(bt196.1 == a0_0) || (!(bt196.2.1 == a0_1) || (!(bt196.2.2.1 == a0_2) || (!(bt196.2.2.2.1 == a0_3))))) = true then (some false) else (if t195 = 0 then (if ((t192.toList == t194.toList) != (a0_0 == a1_0 && (a0_1 == a1_1 && (a0_2 == a1_2 && (a0_3 == a1_3))))) = true then (some false) else (aqueductlaw12_DescBack.j0 k a2)) else (aqueductlaw12_DescBack.j0 k a2))) else (some false))) else (aqueductlaw12_DescBack.j0 k a2)) = some r := H
  have A5 := Aside0.mk A50
  clear A50
  have HC6 := Aside0.mk H
  clear H
  go_enter Try.func5, Try.ntmps5
  go_upto_if 28 with (first | ((with_reducible refine gate_dst (N := 3) rfl ?_); (try (refine gate_guard (by rfl) ?_; dsimp only)); refine box_event ?hg (N := 3) ?hd (cs := #[.int .u64 a0_0, .int .u32 a0_1, .int .i64 a0_2, .int .i64 a0_3]) (t := 25) ?hr ?_; (case hd => rfl); (case hg => rfl); (case hr => first | (go_simp; done) | (go_simp; rfl)); intro gb190 hg w7 hbox hb; have n0_ := Aside0.mk (below_step (by repeat (first | (with_reducible first | exact HB.out | apply below_alloc | apply pw_below_drewN | apply below_drew1) | exact HB.out)) hb); have n1_ := Aside0.mk (hbox); have n2_ := Aside0.mk ((by rw [hg]; exact (below_size (by repeat (first | (with_reducible first | exact HB.out | apply below_alloc | apply pw_below_drewN | apply below_drew1) | exact HB.out))) : w.heap.size ≤ gb190)); have n3_ := Aside0.mk ((by rw [hg]; exact (below_size (by repeat (first | (with_reducible first | exact HB.out | apply below_alloc | apply pw_below_drewN | apply below_drew1) | exact HB.out))) : w.heap.size ≤ gb190)); clear HB; have HB := n0_; have BK190 := n1_; have GW190 := n2_; have GE190 := n3_; clear n0_ n1_ n2_ n3_; clear hb hbox hg) | ((with_reducible refine gate_dst (N := 4) rfl ?_); (try (refine gate_guard (by rfl) ?_; dsimp only)); refine box_event ?hg (N := 4) ?hd (cs := #[.int .u64 a1_0, .int .u32 a1_1, .int .i64 a1_2, .int .i64 a1_3]) (t := 25) ?hr ?_; (case hd => rfl); (case hg => rfl); (case hr => first | (go_simp; done) | (go_simp; rfl)); intro gb191 hg w8 hbox hb; have n0_ := Aside0.mk (blk_below (g := gb190) (o := .cells #[.int .u64 a0_0, .int .u32 a0_1, .int .i64 a0_2, .int .i64 a0_3] 25 (0, 0)) (by (with_reducible repeat (first | refine blk_drewN ?_ _ | refine blk_drew ?_ | refine blk_alloc ?_ _)); exact BK190.out) hb); have n1_ := Aside0.mk (below_step (by repeat (first | (with_reducible first | exact HB.out | apply below_alloc | apply pw_below_drewN | apply below_drew1 | refine below_set ?_ GE190.out) | exact HB.out)) hb); have n2_ := Aside0.mk (hbox); have n3_ := Aside0.mk ((by rw [hg]; exact (below_size (by repeat (first | (with_reducible first | exact HB.out | apply below_alloc | apply pw_below_drewN | apply below_drew1 | refine below_set ?_ GE190.out) | exact HB.out))) : w.heap.size ≤ gb191)); have n4_ := Aside0.mk ((by rw [hg]; exact (below_size (by repeat (first | (with_reducible first | exact HB.out | apply below_alloc | apply pw_below_drewN | apply below_drew1 | refine below_set ?_ GE190.out) | exact HB.out))) : w.heap.size ≤ gb191)); have n5_ := Aside0.mk ((by rw [hg]; exact Nat.ne_of_lt (blk_lt (g := gb190) (o := .cells #[.int .u64 a0_0, .int .u32 a0_1, .int .i64 a0_2, .int .i64 a0_3] 25 (0, 0)) (by (with_reducible repeat (first | refine blk_drewN ?_ _ | refine blk_drew ?_ | refine blk_alloc ?_ _)); exact BK190.out)) : gb190 ≠ gb191)); have n6_ := Aside0.mk ((by rw [hg]; exact Nat.ne_of_gt (blk_lt (g := gb190) (o := .cells #[.int .u64 a0_0, .int .u32 a0_1, .int .i64 a0_2, .int .i64 a0_3] 25 (0, 0)) (by (with_reducible repeat (first | refine blk_drewN ?_ _ | refine blk_drew ?_ | refine blk_alloc ?_ _)); exact BK190.out)) : gb191 ≠ gb190)); clear BK190; clear HB; have BK190 := n0_; have HB := n1_; have BK191 := n2_; have GW191 := n3_; have GE191 := n4_; have NB190_191 := n5_; have NB191_190 := n6_; clear n0_ n1_ n2_ n3_ n4_ n5_ n6_; clear hb hbox hg; have hnb9 := NB190_191.out; have hnc9 := NB191_190.out; have hcz10_0 : w8.cell? ⟨gb190, 0, none⟩ = some (.int .u64 a0_0) := (blk_cell BK190.out 0).trans rfl; have hcz10_1 : w8.cell? ⟨gb190, 1, none⟩ = some (.int .u32 a0_1) := (blk_cell BK190.out 1).trans rfl; have hcz10_2 : w8.cell? ⟨gb190, 2, none⟩ = some (.int .i64 a0_2) := (blk_cell BK190.out 2).trans rfl; have hcz10_3 : w8.cell? ⟨gb190, 3, none⟩ = some (.int .i64 a0_3) := (blk_cell BK190.out 3).trans rfl; have hfz10_0 := blk_frozen BK190.out 0; have hfz10_1 := blk_frozen BK190.out 1; have hfz10_2 := blk_frozen BK190.out 2; have hfz10_3 := blk_frozen BK190.out 3) | ((with_reducible refine gate_callee (f := 11) rfl ?_); refine goesL_ (some 19) rfl rfl Try.func11 (by kernel_rfl) rfl #[.agg #[.int .u64 a0_0, .int .u32 a0_1, .int .i64 a0_2, .int .i64 a0_3]] rfl (by (try simp only [List.map_toArray, List.map_cons, List.map_nil]); first | done | rfl | (simp only [List.length_drop, List.length_take]; rfl)) ?_; (with_reducible refine (desc_Build.calls k a0_0 a0_1 a0_2 a0_3 t192 t193 _ A4.out).mono ?_); rintro e w11 ⟨rfl, hb⟩; refine ⟨_, rfl, ?_⟩; have n0_ := Aside0.mk (blk_below (g := gb190) (o := .cells #[.int .u64 a0_0, .int .u32 a0_1, .int .i64 a0_2, .int .i64 a0_3] 25 (0, 0)) (by (with_reducible repeat (first | refine blk_drewN ?_ _ | refine blk_drew ?_ | refine blk_alloc ?_ _)); exact BK190.out) hb); have n1_ := Aside0.mk (blk_below (g := gb191) (o := .cells #[.int .u64 a1_0, .int .u32 a1_1, .int .i64 a1_2, .int .i64 a1_3] 25 (0, 0)) (by (with_reducible repeat (first | refine blk_drewN ?_ _ | refine blk_drew ?_ | refine blk_alloc ?_ _)); exact BK191.out) hb); have n2_ := Aside0.mk (below_step (by repeat (first | (with_reducible first | exact HB.out | apply below_alloc | apply pw_below_drewN | apply below_drew1 | refine below_set ?_ GE190.out | refine below_set ?_ GE191.out) | exact HB.out)) hb); clear BK190; clear BK191; clear HB; have BK190 := n0_; have BK191 := n1_; have HB := n2_; clear n0_ n1_ n2_; (try clear hb); (try clear hb2); (try clear hk); (try clear hi); have hcz12_0 : w11.cell? ⟨gb191, 0, none⟩ = some (.int .u64 a1_0) := (blk_cell BK191.out 0).trans rfl; have hcz12_1 : w11.cell? ⟨gb191, 1, none⟩ = some (.int .u32 a1_1) := (blk_cell BK191.out 1).trans rfl; have hcz12_2 : w11.cell? ⟨gb191, 2, none⟩ = some (.int .i64 a1_2) := (blk_cell BK191.out 2).trans rfl; have hcz12_3 : w11.cell? ⟨gb191, 3, none⟩ = some (.int .i64 a1_3) := (blk_cell BK191.out 3).trans rfl; have hfz12_0 := blk_frozen BK191.out 0; have hfz12_1 := blk_frozen BK191.out 1; have hfz12_2 := blk_frozen BK191.out 2; have hfz12_3 := blk_frozen BK191.out 3) | ((with_reducible refine gate_callee (f := 11) rfl ?_); refine goesL_ (some 24) rfl rfl Try.func11 (by kernel_rfl) rfl #[.agg #[.int .u64 a1_0, .int .u32 a1_1, .int .i64 a1_2, .int .i64 a1_3]] rfl (by (try simp only [List.map_toArray, List.map_cons, List.map_nil]); first | done | rfl | (simp only [List.length_drop, List.length_take]; rfl)) ?_; (with_reducible refine (desc_Build.calls k a1_0 a1_1 a1_2 a1_3 t194 t195 _ A5.out).mono ?_); rintro e w13 ⟨rfl, hb⟩; refine ⟨_, rfl, ?_⟩; have n0_ := Aside0.mk (blk_below (g := gb190) (o := .cells #[.int .u64 a0_0, .int .u32 a0_1, .int .i64 a0_2, .int .i64 a0_3] 25 (0, 0)) (by (with_reducible repeat (first | refine blk_drewN ?_ _ | refine blk_drew ?_ | refine blk_alloc ?_ _)); exact BK190.out) hb); have n1_ := Aside0.mk (blk_below (g := gb191) (o := .cells #[.int .u64 a1_0, .int .u32 a1_1, .int .i64 a1_2, .int .i64 a1_3] 25 (0, 0)) (by (with_reducible repeat (first | refine blk_drewN ?_ _ | refine blk_drew ?_ | refine blk_alloc ?_ _)); exact BK191.out) hb); have n2_ := Aside0.mk (below_step (by repeat (first | (with_reducible first | exact HB.out | apply below_alloc | apply pw_below_drewN | apply below_drew1 | refine below_set ?_ GE190.out | refine below_set ?_ GE191.out) | exact HB.out)) hb); clear BK190; clear BK191; clear HB; have BK190 := n0_; have BK191 := n1_; have HB := n2_; clear n0_ n1_ n2_; (try clear hb); (try clear hb2); (try clear hk); (try clear hi)))
  (try simp only [Act.put, List.setIfInBounds_toArray, List.set_cons_zero, List.set_cons_succ])
  go_cut [] (fun wc => ∃ (kq : Nat), Aside0 (aqueductlaw12_DescBack.j0 kq a2 = some r) ∧ Aside0 (kq ≤ k) ∧ Aside0 (wc.heap[gb190]? = some (.cells #[.int .u64 a0_0, .int .u32 a0_1, .int .i64 a0_2, .int .i64 a0_3] 25 (0, 0))) ∧ Aside0 (wc.heap[gb191]? = some (.cells #[.int .u64 a1_0, .int .u32 a1_1, .int .i64 a1_2, .int .i64 a1_3] 25 (0, 0))) ∧ Aside0 (Below w.heap.size w wc))
  case first =>
    have H := HC6.out
    clear HC6
    by_cases c14 : t193 = 0
    · rw [if_pos c14] at H
      have c14b0 : (t193 == 0) = true := beq_iff_eq.mpr c14
      have c14b1 : (t193 != 0) = false := bne_eq_false_iff_eq.mpr c14
      clear c14
      (first | rw [c14b0] | (simp only [i64_w, i32_w]; rw [c14b0]) | skip)
      replace H := Option.bind_eq_some_iff.mp H
      obtain ⟨⟨t196, t197, t198, t199, t200⟩, A150, H⟩ := H
      replace H : (if t200 = 0 then (if (!(t196 == a0_0) || (!(t197 == a0_1) || (!(t198 == a0_2) || (!(t199 == a0_3))))) = true then (some false) else (if t195 = 0 then (if ((t192.toList == t194.toList) != (a0_0 == a1_0 && (a0_1 == a1_1 && (a0_2 == a1_2 && (a0_3 == a1_3))))) = true then (some false) else (aqueductlaw12_DescBack.j0 k a2)) else (aqueductlaw12_DescBack.j0 k a2))) else (some false)) = some r := H
      have A15 := Aside0.mk A150
      clear A150
      by_cases c16 : t200 = 0
      · rw [if_pos c16] at H
        have c16b0 : (t200 == 0) = true := beq_iff_eq.mpr c16
        have c16b1 : (t200 != 0) = false := bne_eq_false_iff_eq.mpr c16
        clear c16
        by_cases c17 : (!(t196 == a0_0) || (!(t197 == a0_1) || (!(t198 == a0_2) || (!(t199 == a0_3))))) = true
        · rw [if_pos c17] at H
          have c17b0 : (!(t196 == a0_0) || (!(t197 == a0_1) || (!(t198 == a0_2) || (!(t199 == a0_3))))) = true := c17
          clear c17
          obtain rfl := Option.some.inj H
          exact absurd HR_.out (by decide)
        · rw [if_neg c17] at H
          have c17b0 : (!(t196 == a0_0) || (!(t197 == a0_1) || (!(t198 == a0_2) || (!(t199 == a0_3))))) = false := by simpa using c17
          clear c17
          by_cases c18 : t195 = 0
          · rw [if_pos c18] at H
            have c18b0 : (t195 == 0) = true := beq_iff_eq.mpr c18
            have c18b1 : (t195 != 0) = false := bne_eq_false_iff_eq.mpr c18
            clear c18
            by_cases c19 : ((t192.toList == t194.toList) != (a0_0 == a1_0 && (a0_1 == a1_1 && (a0_2 == a1_2 && (a0_3 == a1_3))))) = true
            · rw [if_pos c19] at H
              have c19b0 : ((t192.toList == t194.toList) != (a0_0 == a1_0 && (a0_1 == a1_1 && (a0_2 == a1_2 && (a0_3 == a1_3))))) = true := c19
              (try (have c19b1 : decide ((t192.toList == t194.toList) = (a0_0 == a1_0 && (a0_1 == a1_1 && (a0_2 == a1_2 && (a0_3 == a1_3))))) = false := by simpa using c19))
              (try (have c19b2 : ((t192.toList == t194.toList) == (a0_0 == a1_0 && (a0_1 == a1_1 && (a0_2 == a1_2 && (a0_3 == a1_3))))) = false := by simpa using c19))
              (try (have c19b3 : ¬ ((t192.toList == t194.toList) = (a0_0 == a1_0 && (a0_1 == a1_1 && (a0_2 == a1_2 && (a0_3 == a1_3))))) := by simpa using c19))
              clear c19
              obtain rfl := Option.some.inj H
              exact absurd HR_.out (by decide)
            · rw [if_neg c19] at H
              have c19b0 : ((t192.toList == t194.toList) != (a0_0 == a1_0 && (a0_1 == a1_1 && (a0_2 == a1_2 && (a0_3 == a1_3))))) = false := by simpa using c19
              (try (have c19b1 : decide ((t192.toList == t194.toList) = (a0_0 == a1_0 && (a0_1 == a1_1 && (a0_2 == a1_2 && (a0_3 == a1_3))))) = true := by simpa using c19))
              (try (have c19b2 : ((t192.toList == t194.toList) == (a0_0 == a1_0 && (a0_1 == a1_1 && (a0_2 == a1_2 && (a0_3 == a1_3))))) = true := by simpa using c19))
              clear c19
              have H' := Aside0.mk H
              clear H
              go_wp2_with (first | ((with_reducible refine gate_callee (f := 9) rfl ?_); refine goesL_ (some 31) rfl rfl Try.func9 (by kernel_rfl) rfl #[.string t192] rfl (by (try simp only [List.map_toArray, List.map_cons, List.map_nil]); first | done | rfl | (simp only [List.length_drop, List.length_take]; rfl)) ?_; (with_reducible refine (desc_Parse.calls k t192 t196 t197 t198 t199 t200 _ A15.out).mono ?_); rintro e w20 ⟨rfl, hb⟩; refine ⟨_, rfl, ?_⟩; have n0_ := Aside0.mk (blk_below (g := gb190) (o := .cells #[.int .u64 a0_0, .int .u32 a0_1, .int .i64 a0_2, .int .i64 a0_3] 25 (0, 0)) (by (with_reducible repeat (first | refine blk_drewN ?_ _ | refine blk_drew ?_ | refine blk_alloc ?_ _)); exact BK190.out) hb); have n1_ := Aside0.mk (blk_below (g := gb191) (o := .cells #[.int .u64 a1_0, .int .u32 a1_1, .int .i64 a1_2, .int .i64 a1_3] 25 (0, 0)) (by (with_reducible repeat (first | refine blk_drewN ?_ _ | refine blk_drew ?_ | refine blk_alloc ?_ _)); exact BK191.out) hb); have n2_ := Aside0.mk (below_step (by repeat (first | (with_reducible first | exact HB.out | apply below_alloc | apply pw_below_drewN | apply below_drew1 | refine below_set ?_ GE190.out | refine below_set ?_ GE191.out) | exact HB.out)) hb); clear BK190; clear BK191; clear HB; have BK190 := n0_; have BK191 := n1_; have HB := n2_; clear n0_ n1_ n2_; (try clear hb); (try clear hb2); (try clear hk); (try clear hi)) | ((with_reducible refine gate_dst (N := 11) rfl ?_); (try (refine gate_guard (by rfl) ?_; dsimp only)); refine box_event ?hg (N := 11) ?hd (cs := #[.int .u64 0, .int .u32 0, .int .i64 0, .int .i64 0]) (t := 25) ?hr ?_; (case hd => rfl); (case hg => rfl); (case hr => first | (go_simp; done) | (go_simp; rfl)); intro gb201 hg w21 hbox hb; have n0_ := Aside0.mk (blk_below (g := gb190) (o := .cells #[.int .u64 a0_0, .int .u32 a0_1, .int .i64 a0_2, .int .i64 a0_3] 25 (0, 0)) (by (with_reducible repeat (first | refine blk_drewN ?_ _ | refine blk_drew ?_ | refine blk_alloc ?_ _)); exact BK190.out) hb); have n1_ := Aside0.mk (blk_below (g := gb191) (o := .cells #[.int .u64 a1_0, .int .u32 a1_1, .int .i64 a1_2, .int .i64 a1_3] 25 (0, 0)) (by (with_reducible repeat (first | refine blk_drewN ?_ _ | refine blk_drew ?_ | refine blk_alloc ?_ _)); exact BK191.out) hb); have n2_ := Aside0.mk (below_step (by repeat (first | (with_reducible first | exact HB.out | apply below_alloc | apply pw_below_drewN | apply below_drew1 | refine below_set ?_ GE190.out | refine below_set ?_ GE191.out) | exact HB.out)) hb); have n3_ := Aside0.mk (hbox); have n4_ := Aside0.mk ((by rw [hg]; exact (below_size (by repeat (first | (with_reducible first | exact HB.out | apply below_alloc | apply pw_below_drewN | apply below_drew1 | refine below_set ?_ GE190.out | refine below_set ?_ GE191.out) | exact HB.out))) : w.heap.size ≤ gb201)); have n5_ := Aside0.mk ((by rw [hg]; exact (below_size (by repeat (first | (with_reducible first | exact HB.out | apply below_alloc | apply pw_below_drewN | apply below_drew1 | refine below_set ?_ GE190.out | refine below_set ?_ GE191.out) | exact HB.out))) : w.heap.size ≤ gb201)); have n6_ := Aside0.mk ((by rw [hg]; exact Nat.ne_of_lt (blk_lt (g := gb190) (o := .cells #[.int .u64 a0_0, .int .u32 a0_1, .int .i64 a0_2, .int .i64 a0_3] 25 (0, 0)) (by (with_reducible repeat (first | refine blk_drewN ?_ _ | refine blk_drew ?_ | refine blk_alloc ?_ _)); exact BK190.out)) : gb190 ≠ gb201)); have n7_ := Aside0.mk ((by rw [hg]; exact Nat.ne_of_gt (blk_lt (g := gb190) (o := .cells #[.int .u64 a0_0, .int .u32 a0_1, .int .i64 a0_2, .int .i64 a0_3] 25 (0, 0)) (by (with_reducible repeat (first | refine blk_drewN ?_ _ | refine blk_drew ?_ | refine blk_alloc ?_ _)); exact BK190.out)) : gb201 ≠ gb190)); have n8_ := Aside0.mk ((by rw [hg]; exact Nat.ne_of_lt (blk_lt (g := gb191) (o := .cells #[.int .u64 a1_0, .int .u32 a1_1, .int .i64 a1_2, .int .i64 a1_3] 25 (0, 0)) (by (with_reducible repeat (first | refine blk_drewN ?_ _ | refine blk_drew ?_ | refine blk_alloc ?_ _)); exact BK191.out)) : gb191 ≠ gb201)); have n9_ := Aside0.mk ((by rw [hg]; exact Nat.ne_of_gt (blk_lt (g := gb191) (o := .cells #[.int .u64 a1_0, .int .u32 a1_1, .int .i64 a1_2, .int .i64 a1_3] 25 (0, 0)) (by (with_reducible repeat (first | refine blk_drewN ?_ _ | refine blk_drew ?_ | refine blk_alloc ?_ _)); exact BK191.out)) : gb201 ≠ gb191)); clear BK190; clear BK191; clear HB; have BK190 := n0_; have BK191 := n1_; have HB := n2_; have BK201 := n3_; have GW201 := n4_; have GE201 := n5_; have NB190_201 := n6_; have NB201_190 := n7_; have NB191_201 := n8_; have NB201_191 := n9_; clear n0_ n1_ n2_ n3_ n4_ n5_ n6_ n7_ n8_ n9_; clear hb hbox hg; have hnb22 := NB201_190.out; have hnc22 := NB190_201.out; have hnb23 := NB201_191.out; have hnc23 := NB191_201.out; have hcz24_0 : w21.cell? ⟨gb201, 0, none⟩ = some (.int .u64 0) := (blk_cell BK201.out 0).trans rfl; have hcz24_1 : w21.cell? ⟨gb201, 1, none⟩ = some (.int .u32 0) := (blk_cell BK201.out 1).trans rfl; have hcz24_2 : w21.cell? ⟨gb201, 2, none⟩ = some (.int .i64 0) := (blk_cell BK201.out 2).trans rfl; have hcz24_3 : w21.cell? ⟨gb201, 3, none⟩ = some (.int .i64 0) := (blk_cell BK201.out 3).trans rfl; have hfz24_0 := blk_frozen BK201.out 0; have hfz24_1 := blk_frozen BK201.out 1; have hfz24_2 := blk_frozen BK201.out 2; have hfz24_3 := blk_frozen BK201.out 3; have hnb25 := NB190_191.out; have hnc25 := NB191_190.out; have hcz26_0 : w21.cell? ⟨gb190, 0, none⟩ = some (.int .u64 a0_0) := (blk_cell BK190.out 0).trans rfl; have hcz26_1 : w21.cell? ⟨gb190, 1, none⟩ = some (.int .u32 a0_1) := (blk_cell BK190.out 1).trans rfl; have hcz26_2 : w21.cell? ⟨gb190, 2, none⟩ = some (.int .i64 a0_2) := (blk_cell BK190.out 2).trans rfl; have hcz26_3 : w21.cell? ⟨gb190, 3, none⟩ = some (.int .i64 a0_3) := (blk_cell BK190.out 3).trans rfl; have hfz26_0 := blk_frozen BK190.out 0; have hfz26_1 := blk_frozen BK190.out 1; have hfz26_2 := blk_frozen BK190.out 2; have hfz26_3 := blk_frozen BK190.out 3; have hcz27_0 : w21.cell? ⟨gb191, 0, none⟩ = some (.int .u64 a1_0) := (blk_cell BK191.out 0).trans rfl; have hcz27_1 : w21.cell? ⟨gb191, 1, none⟩ = some (.int .u32 a1_1) := (blk_cell BK191.out 1).trans rfl; have hcz27_2 : w21.cell? ⟨gb191, 2, none⟩ = some (.int .i64 a1_2) := (blk_cell BK191.out 2).trans rfl; have hcz27_3 : w21.cell? ⟨gb191, 3, none⟩ = some (.int .i64 a1_3) := (blk_cell BK191.out 3).trans rfl; have hfz27_0 := blk_frozen BK191.out 0; have hfz27_1 := blk_frozen BK191.out 1; have hfz27_2 := blk_frozen BK191.out 2; have hfz27_3 := blk_frozen BK191.out 3))
              go_meet
              case rel => exact ⟨_, H', ⟨by first | omega | exact Nat.le_refl _⟩, ⟨by (with_reducible repeat (first | refine blk_drewN ?_ _ | refine blk_drew ?_ | refine blk_alloc ?_ _)); refine blk_far ?_ NB190_201.out _; (with_reducible repeat (first | refine blk_drewN ?_ _ | refine blk_drew ?_ | refine blk_alloc ?_ _)); refine blk_far ?_ NB190_201.out _; (with_reducible repeat (first | refine blk_drewN ?_ _ | refine blk_drew ?_ | refine blk_alloc ?_ _)); refine blk_far ?_ NB190_201.out _; (with_reducible repeat (first | refine blk_drewN ?_ _ | refine blk_drew ?_ | refine blk_alloc ?_ _)); refine blk_far ?_ NB190_201.out _; (with_reducible repeat (first | refine blk_drewN ?_ _ | refine blk_drew ?_ | refine blk_alloc ?_ _)); exact BK190.out⟩, ⟨by (with_reducible repeat (first | refine blk_drewN ?_ _ | refine blk_drew ?_ | refine blk_alloc ?_ _)); refine blk_far ?_ NB191_201.out _; (with_reducible repeat (first | refine blk_drewN ?_ _ | refine blk_drew ?_ | refine blk_alloc ?_ _)); refine blk_far ?_ NB191_201.out _; (with_reducible repeat (first | refine blk_drewN ?_ _ | refine blk_drew ?_ | refine blk_alloc ?_ _)); refine blk_far ?_ NB191_201.out _; (with_reducible repeat (first | refine blk_drewN ?_ _ | refine blk_drew ?_ | refine blk_alloc ?_ _)); refine blk_far ?_ NB191_201.out _; (with_reducible repeat (first | refine blk_drewN ?_ _ | refine blk_drew ?_ | refine blk_alloc ?_ _)); exact BK191.out⟩, ⟨by repeat (first | (with_reducible first | exact HB.out | apply below_alloc | apply pw_below_drewN | apply below_drew1 | refine below_set ?_ GE190.out | refine below_set ?_ GE191.out | refine below_set ?_ GE201.out) | exact HB.out)⟩⟩
          · rw [if_neg c18] at H
            have c18b0 : (t195 == 0) = false := beq_eq_false_iff_ne.mpr c18
            have c18b1 : (t195 != 0) = true := bne_iff_ne.mpr c18
            have H' := Aside0.mk H
            clear H
            go_wp2_with (first | ((with_reducible refine gate_callee (f := 9) rfl ?_); refine goesL_ (some 31) rfl rfl Try.func9 (by kernel_rfl) rfl #[.string t192] rfl (by (try simp only [List.map_toArray, List.map_cons, List.map_nil]); first | done | rfl | (simp only [List.length_drop, List.length_take]; rfl)) ?_; (with_reducible refine (desc_Parse.calls k t192 t196 t197 t198 t199 t200 _ A15.out).mono ?_); rintro e w28 ⟨rfl, hb⟩; refine ⟨_, rfl, ?_⟩; have n0_ := Aside0.mk (blk_below (g := gb190) (o := .cells #[.int .u64 a0_0, .int .u32 a0_1, .int .i64 a0_2, .int .i64 a0_3] 25 (0, 0)) (by (with_reducible repeat (first | refine blk_drewN ?_ _ | refine blk_drew ?_ | refine blk_alloc ?_ _)); exact BK190.out) hb); have n1_ := Aside0.mk (blk_below (g := gb191) (o := .cells #[.int .u64 a1_0, .int .u32 a1_1, .int .i64 a1_2, .int .i64 a1_3] 25 (0, 0)) (by (with_reducible repeat (first | refine blk_drewN ?_ _ | refine blk_drew ?_ | refine blk_alloc ?_ _)); exact BK191.out) hb); have n2_ := Aside0.mk (below_step (by repeat (first | (with_reducible first | exact HB.out | apply below_alloc | apply pw_below_drewN | apply below_drew1 | refine below_set ?_ GE190.out | refine below_set ?_ GE191.out) | exact HB.out)) hb); clear BK190; clear BK191; clear HB; have BK190 := n0_; have BK191 := n1_; have HB := n2_; clear n0_ n1_ n2_; (try clear hb); (try clear hb2); (try clear hk); (try clear hi)) | ((with_reducible refine gate_dst (N := 11) rfl ?_); (try (refine gate_guard (by rfl) ?_; dsimp only)); refine box_event ?hg (N := 11) ?hd (cs := #[.int .u64 0, .int .u32 0, .int .i64 0, .int .i64 0]) (t := 25) ?hr ?_; (case hd => rfl); (case hg => rfl); (case hr => first | (go_simp; done) | (go_simp; rfl)); intro gb201 hg w29 hbox hb; have n0_ := Aside0.mk (blk_below (g := gb190) (o := .cells #[.int .u64 a0_0, .int .u32 a0_1, .int .i64 a0_2, .int .i64 a0_3] 25 (0, 0)) (by (with_reducible repeat (first | refine blk_drewN ?_ _ | refine blk_drew ?_ | refine blk_alloc ?_ _)); exact BK190.out) hb); have n1_ := Aside0.mk (blk_below (g := gb191) (o := .cells #[.int .u64 a1_0, .int .u32 a1_1, .int .i64 a1_2, .int .i64 a1_3] 25 (0, 0)) (by (with_reducible repeat (first | refine blk_drewN ?_ _ | refine blk_drew ?_ | refine blk_alloc ?_ _)); exact BK191.out) hb); have n2_ := Aside0.mk (below_step (by repeat (first | (with_reducible first | exact HB.out | apply below_alloc | apply pw_below_drewN | apply below_drew1 | refine below_set ?_ GE190.out | refine below_set ?_ GE191.out) | exact HB.out)) hb); have n3_ := Aside0.mk (hbox); have n4_ := Aside0.mk ((by rw [hg]; exact (below_size (by repeat (first | (with_reducible first | exact HB.out | apply below_alloc | apply pw_below_drewN | apply below_drew1 | refine below_set ?_ GE190.out | refine below_set ?_ GE191.out) | exact HB.out))) : w.heap.size ≤ gb201)); have n5_ := Aside0.mk ((by rw [hg]; exact (below_size (by repeat (first | (with_reducible first | exact HB.out | apply below_alloc | apply pw_below_drewN | apply below_drew1 | refine below_set ?_ GE190.out | refine below_set ?_ GE191.out) | exact HB.out))) : w.heap.size ≤ gb201)); have n6_ := Aside0.mk ((by rw [hg]; exact Nat.ne_of_lt (blk_lt (g := gb190) (o := .cells #[.int .u64 a0_0, .int .u32 a0_1, .int .i64 a0_2, .int .i64 a0_3] 25 (0, 0)) (by (with_reducible repeat (first | refine blk_drewN ?_ _ | refine blk_drew ?_ | refine blk_alloc ?_ _)); exact BK190.out)) : gb190 ≠ gb201)); have n7_ := Aside0.mk ((by rw [hg]; exact Nat.ne_of_gt (blk_lt (g := gb190) (o := .cells #[.int .u64 a0_0, .int .u32 a0_1, .int .i64 a0_2, .int .i64 a0_3] 25 (0, 0)) (by (with_reducible repeat (first | refine blk_drewN ?_ _ | refine blk_drew ?_ | refine blk_alloc ?_ _)); exact BK190.out)) : gb201 ≠ gb190)); have n8_ := Aside0.mk ((by rw [hg]; exact Nat.ne_of_lt (blk_lt (g := gb191) (o := .cells #[.int .u64 a1_0, .int .u32 a1_1, .int .i64 a1_2, .int .i64 a1_3] 25 (0, 0)) (by (with_reducible repeat (first | refine blk_drewN ?_ _ | refine blk_drew ?_ | refine blk_alloc ?_ _)); exact BK191.out)) : gb191 ≠ gb201)); have n9_ := Aside0.mk ((by rw [hg]; exact Nat.ne_of_gt (blk_lt (g := gb191) (o := .cells #[.int .u64 a1_0, .int .u32 a1_1, .int .i64 a1_2, .int .i64 a1_3] 25 (0, 0)) (by (with_reducible repeat (first | refine blk_drewN ?_ _ | refine blk_drew ?_ | refine blk_alloc ?_ _)); exact BK191.out)) : gb201 ≠ gb191)); clear BK190; clear BK191; clear HB; have BK190 := n0_; have BK191 := n1_; have HB := n2_; have BK201 := n3_; have GW201 := n4_; have GE201 := n5_; have NB190_201 := n6_; have NB201_190 := n7_; have NB191_201 := n8_; have NB201_191 := n9_; clear n0_ n1_ n2_ n3_ n4_ n5_ n6_ n7_ n8_ n9_; clear hb hbox hg; have hnb30 := NB201_190.out; have hnc30 := NB190_201.out; have hnb31 := NB201_191.out; have hnc31 := NB191_201.out; have hcz32_0 : w29.cell? ⟨gb201, 0, none⟩ = some (.int .u64 0) := (blk_cell BK201.out 0).trans rfl; have hcz32_1 : w29.cell? ⟨gb201, 1, none⟩ = some (.int .u32 0) := (blk_cell BK201.out 1).trans rfl; have hcz32_2 : w29.cell? ⟨gb201, 2, none⟩ = some (.int .i64 0) := (blk_cell BK201.out 2).trans rfl; have hcz32_3 : w29.cell? ⟨gb201, 3, none⟩ = some (.int .i64 0) := (blk_cell BK201.out 3).trans rfl; have hfz32_0 := blk_frozen BK201.out 0; have hfz32_1 := blk_frozen BK201.out 1; have hfz32_2 := blk_frozen BK201.out 2; have hfz32_3 := blk_frozen BK201.out 3; have hnb33 := NB190_191.out; have hnc33 := NB191_190.out; have hcz34_0 : w29.cell? ⟨gb190, 0, none⟩ = some (.int .u64 a0_0) := (blk_cell BK190.out 0).trans rfl; have hcz34_1 : w29.cell? ⟨gb190, 1, none⟩ = some (.int .u32 a0_1) := (blk_cell BK190.out 1).trans rfl; have hcz34_2 : w29.cell? ⟨gb190, 2, none⟩ = some (.int .i64 a0_2) := (blk_cell BK190.out 2).trans rfl; have hcz34_3 : w29.cell? ⟨gb190, 3, none⟩ = some (.int .i64 a0_3) := (blk_cell BK190.out 3).trans rfl; have hfz34_0 := blk_frozen BK190.out 0; have hfz34_1 := blk_frozen BK190.out 1; have hfz34_2 := blk_frozen BK190.out 2; have hfz34_3 := blk_frozen BK190.out 3))
            go_meet
            case rel => exact ⟨_, H', ⟨by first | omega | exact Nat.le_refl _⟩, ⟨by (with_reducible repeat (first | refine blk_drewN ?_ _ | refine blk_drew ?_ | refine blk_alloc ?_ _)); refine blk_far ?_ NB190_201.out _; (with_reducible repeat (first | refine blk_drewN ?_ _ | refine blk_drew ?_ | refine blk_alloc ?_ _)); refine blk_far ?_ NB190_201.out _; (with_reducible repeat (first | refine blk_drewN ?_ _ | refine blk_drew ?_ | refine blk_alloc ?_ _)); refine blk_far ?_ NB190_201.out _; (with_reducible repeat (first | refine blk_drewN ?_ _ | refine blk_drew ?_ | refine blk_alloc ?_ _)); refine blk_far ?_ NB190_201.out _; (with_reducible repeat (first | refine blk_drewN ?_ _ | refine blk_drew ?_ | refine blk_alloc ?_ _)); exact BK190.out⟩, ⟨by (with_reducible repeat (first | refine blk_drewN ?_ _ | refine blk_drew ?_ | refine blk_alloc ?_ _)); refine blk_far ?_ NB191_201.out _; (with_reducible repeat (first | refine blk_drewN ?_ _ | refine blk_drew ?_ | refine blk_alloc ?_ _)); refine blk_far ?_ NB191_201.out _; (with_reducible repeat (first | refine blk_drewN ?_ _ | refine blk_drew ?_ | refine blk_alloc ?_ _)); refine blk_far ?_ NB191_201.out _; (with_reducible repeat (first | refine blk_drewN ?_ _ | refine blk_drew ?_ | refine blk_alloc ?_ _)); refine blk_far ?_ NB191_201.out _; (with_reducible repeat (first | refine blk_drewN ?_ _ | refine blk_drew ?_ | refine blk_alloc ?_ _)); exact BK191.out⟩, ⟨by repeat (first | (with_reducible first | exact HB.out | apply below_alloc | apply pw_below_drewN | apply below_drew1 | refine below_set ?_ GE190.out | refine below_set ?_ GE191.out | refine below_set ?_ GE201.out) | exact HB.out)⟩⟩
      · rw [if_neg c16] at H
        have c16b0 : (t200 == 0) = false := beq_eq_false_iff_ne.mpr c16
        have c16b1 : (t200 != 0) = true := bne_iff_ne.mpr c16
        obtain rfl := Option.some.inj H
        exact absurd HR_.out (by decide)
    · rw [if_neg c14] at H
      have c14b0 : (t193 == 0) = false := beq_eq_false_iff_ne.mpr c14
      have c14b1 : (t193 != 0) = true := bne_iff_ne.mpr c14
      (first | rw [c14b0] | (simp only [i64_w, i32_w]; rw [c14b0]) | skip)
      have H' := Aside0.mk H
      clear H
      go_wp2
      go_meet
      case rel => exact ⟨_, H', ⟨by first | omega | exact Nat.le_refl _⟩, ⟨by (with_reducible repeat (first | refine blk_drewN ?_ _ | refine blk_drew ?_ | refine blk_alloc ?_ _)); exact BK190.out⟩, ⟨by (with_reducible repeat (first | refine blk_drewN ?_ _ | refine blk_drew ?_ | refine blk_alloc ?_ _)); exact BK191.out⟩, ⟨by repeat (first | (with_reducible first | exact HB.out | apply below_alloc | apply pw_below_drewN | apply below_drew1 | refine below_set ?_ GE190.out | refine below_set ?_ GE191.out) | exact HB.out)⟩⟩
  case rest =>
    clear HC6
    try clear c1
    try clear c2
    try clear p2
    try clear c3
    try clear c5
    try clear c9
    try clear c11
    try clear c14
    try clear c14b0
    try clear c14b1
    try clear c16
    try clear c16b0
    try clear c16b1
    try clear c17
    try clear c17b0
    try clear c18
    try clear c18b0
    try clear c18b1
    try clear c19
    try clear c19b0
    try clear c19b1
    try clear c19b2
    try clear c22
    try clear c23
    try clear c25
    try clear c30
    try clear c31
    try clear c33
    try clear hcz10_0
    try clear hcz10_1
    try clear hcz10_2
    try clear hcz10_3
    try clear hcz12_0
    try clear hcz12_1
    try clear hcz12_2
    try clear hcz12_3
    try clear hcz24_0
    try clear hcz24_1
    try clear hcz24_2
    try clear hcz24_3
    try clear hcz26_0
    try clear hcz26_1
    try clear hcz26_2
    try clear hcz26_3
    try clear hcz27_0
    try clear hcz27_1
    try clear hcz27_2
    try clear hcz27_3
    try clear hcz32_0
    try clear hcz32_1
    try clear hcz32_2
    try clear hcz32_3
    try clear hcz34_0
    try clear hcz34_1
    try clear hcz34_2
    try clear hcz34_3
    try clear hfz10_0
    try clear hfz10_1
    try clear hfz10_2
    try clear hfz10_3
    try clear hfz12_0
    try clear hfz12_1
    try clear hfz12_2
    try clear hfz12_3
    try clear hfz24_0
    try clear hfz24_1
    try clear hfz24_2
    try clear hfz24_3
    try clear hfz26_0
    try clear hfz26_1
    try clear hfz26_2
    try clear hfz26_3
    try clear hfz27_0
    try clear hfz27_1
    try clear hfz27_2
    try clear hfz27_3
    try clear hfz32_0
    try clear hfz32_1
    try clear hfz32_2
    try clear hfz32_3
    try clear hfz34_0
    try clear hfz34_1
    try clear hfz34_2
    try clear hfz34_3
    obtain ⟨kq, HA, HJ5, BK190, BK191, HB⟩ := hcut
    cases kq with
    | zero => exact absurd HA.out (by simp [aqueductlaw12_DescBack.j0])
    | succ kj5 =>
      have H := HA.out
      clear HA
      simp only [aqueductlaw12_DescBack.j0] at H
      replace H := Option.bind_eq_some_iff.mp H
      obtain ⟨⟨t202, t203, t204, t205, t206⟩, A350, H⟩ := H
      replace H : (if t206 = 0 then ((desc_Build.f kj5 t202 t203 t204 t205).bind fun bt208 => (if bt208.2 = 0 then (if bt208.1.toList = a2.toList then ((aqueductlaw12_fixed.f kj5).bind fun t210 => (some t210)) else (some false)) else (some false))) else (if (t202 == 0 && (t203 == 0 && (t204 == 0 && (t205 == 0)))) = true then (if (a2.size : Int) = 16 then (some false) else ((aqueductlaw12_fixed.f kj5).bind fun t211 => (some t211))) else (some false))) = some r := H
      have A35 := Aside0.mk A350
      clear A350
      by_cases c36 : t206 = 0
      · rw [if_pos c36] at H
        have c36b0 : (t206 == 0) = true := beq_iff_eq.mpr c36
        have c36b1 : (t206 != 0) = false := bne_eq_false_iff_eq.mpr c36
        clear c36
        replace H := Option.bind_eq_some_iff.mp H
        obtain ⟨⟨t208, t209⟩, A370, H⟩ := H
        replace H : (if t209 = 0 then (if t208.toList = a2.toList then ((aqueductlaw12_fixed.f kj5).bind fun t210 => (some t210)) else (some false)) else (some false)) = some r := H
        have A37 := Aside0.mk A370
        clear A370
        by_cases c38 : t209 = 0
        · rw [if_pos c38] at H
          have c38b0 : (t209 == 0) = true := beq_iff_eq.mpr c38
          have c38b1 : (t209 != 0) = false := bne_eq_false_iff_eq.mpr c38
          clear c38
          by_cases c39 : t208.toList = a2.toList
          · rw [if_pos c39] at H
            have c39b0 : (t208.toList == a2.toList) = true := beq_iff_eq.mpr c39
            have c39b1 : (t208.toList != a2.toList) = false := bne_eq_false_iff_eq.mpr c39
            clear c39
            replace H := Option.bind_eq_some_iff.mp H
            obtain ⟨t210, A400, H⟩ := H
            replace H : (some t210) = some r := H
            have A40 := Aside0.mk A400
            clear A400
            obtain rfl := Option.some.inj H
            go_wp2_with (first | ((with_reducible refine gate_callee (f := 9) rfl ?_); refine goesL_ (some 56) rfl rfl Try.func9 (by kernel_rfl) rfl #[.string a2] rfl (by (try simp only [List.map_toArray, List.map_cons, List.map_nil]); first | done | rfl | (simp only [List.length_drop, List.length_take]; rfl)) ?_; (with_reducible refine (desc_Parse.calls kj5 a2 t202 t203 t204 t205 t206 _ A35.out).mono ?_); rintro e w41 ⟨rfl, hb⟩; refine ⟨_, rfl, ?_⟩; have n0_ := Aside0.mk (blk_below (g := gb190) (o := .cells #[.int .u64 a0_0, .int .u32 a0_1, .int .i64 a0_2, .int .i64 a0_3] 25 (0, 0)) (by (with_reducible repeat (first | refine blk_drewN ?_ _ | refine blk_drew ?_ | refine blk_alloc ?_ _)); exact BK190.out) hb); have n1_ := Aside0.mk (blk_below (g := gb191) (o := .cells #[.int .u64 a1_0, .int .u32 a1_1, .int .i64 a1_2, .int .i64 a1_3] 25 (0, 0)) (by (with_reducible repeat (first | refine blk_drewN ?_ _ | refine blk_drew ?_ | refine blk_alloc ?_ _)); exact BK191.out) hb); have n2_ := Aside0.mk (below_step (by repeat (first | (with_reducible first | exact HB.out | apply below_alloc | apply pw_below_drewN | apply below_drew1 | refine below_set ?_ GE190.out | refine below_set ?_ GE191.out) | exact HB.out)) hb); clear BK190; clear BK191; clear HB; have BK190 := n0_; have BK191 := n1_; have HB := n2_; clear n0_ n1_ n2_; (try clear hb); (try clear hb2); (try clear hk); (try clear hi)) | ((with_reducible refine gate_dst (N := 13) rfl ?_); (try (refine gate_guard (by rfl) ?_; dsimp only)); refine box_event ?hg (N := 13) ?hd (cs := #[.int .u64 0, .int .u32 0, .int .i64 0, .int .i64 0]) (t := 25) ?hr ?_; (case hd => rfl); (case hg => rfl); (case hr => first | (go_simp; done) | (go_simp; rfl)); intro gb207 hg w42 hbox hb; have n0_ := Aside0.mk (blk_below (g := gb190) (o := .cells #[.int .u64 a0_0, .int .u32 a0_1, .int .i64 a0_2, .int .i64 a0_3] 25 (0, 0)) (by (with_reducible repeat (first | refine blk_drewN ?_ _ | refine blk_drew ?_ | refine blk_alloc ?_ _)); exact BK190.out) hb); have n1_ := Aside0.mk (blk_below (g := gb191) (o := .cells #[.int .u64 a1_0, .int .u32 a1_1, .int .i64 a1_2, .int .i64 a1_3] 25 (0, 0)) (by (with_reducible repeat (first | refine blk_drewN ?_ _ | refine blk_drew ?_ | refine blk_alloc ?_ _)); exact BK191.out) hb); have n2_ := Aside0.mk (below_step (by repeat (first | (with_reducible first | exact HB.out | apply below_alloc | apply pw_below_drewN | apply below_drew1 | refine below_set ?_ GE190.out | refine below_set ?_ GE191.out) | exact HB.out)) hb); have n3_ := Aside0.mk (hbox); have n4_ := Aside0.mk ((by rw [hg]; exact (below_size (by repeat (first | (with_reducible first | exact HB.out | apply below_alloc | apply pw_below_drewN | apply below_drew1 | refine below_set ?_ GE190.out | refine below_set ?_ GE191.out) | exact HB.out))) : w.heap.size ≤ gb207)); have n5_ := Aside0.mk ((by rw [hg]; exact (below_size (by repeat (first | (with_reducible first | exact HB.out | apply below_alloc | apply pw_below_drewN | apply below_drew1 | refine below_set ?_ GE190.out | refine below_set ?_ GE191.out) | exact HB.out))) : w.heap.size ≤ gb207)); have n6_ := Aside0.mk ((by rw [hg]; exact Nat.ne_of_lt (blk_lt (g := gb190) (o := .cells #[.int .u64 a0_0, .int .u32 a0_1, .int .i64 a0_2, .int .i64 a0_3] 25 (0, 0)) (by (with_reducible repeat (first | refine blk_drewN ?_ _ | refine blk_drew ?_ | refine blk_alloc ?_ _)); exact BK190.out)) : gb190 ≠ gb207)); have n7_ := Aside0.mk ((by rw [hg]; exact Nat.ne_of_gt (blk_lt (g := gb190) (o := .cells #[.int .u64 a0_0, .int .u32 a0_1, .int .i64 a0_2, .int .i64 a0_3] 25 (0, 0)) (by (with_reducible repeat (first | refine blk_drewN ?_ _ | refine blk_drew ?_ | refine blk_alloc ?_ _)); exact BK190.out)) : gb207 ≠ gb190)); have n8_ := Aside0.mk ((by rw [hg]; exact Nat.ne_of_lt (blk_lt (g := gb191) (o := .cells #[.int .u64 a1_0, .int .u32 a1_1, .int .i64 a1_2, .int .i64 a1_3] 25 (0, 0)) (by (with_reducible repeat (first | refine blk_drewN ?_ _ | refine blk_drew ?_ | refine blk_alloc ?_ _)); exact BK191.out)) : gb191 ≠ gb207)); have n9_ := Aside0.mk ((by rw [hg]; exact Nat.ne_of_gt (blk_lt (g := gb191) (o := .cells #[.int .u64 a1_0, .int .u32 a1_1, .int .i64 a1_2, .int .i64 a1_3] 25 (0, 0)) (by (with_reducible repeat (first | refine blk_drewN ?_ _ | refine blk_drew ?_ | refine blk_alloc ?_ _)); exact BK191.out)) : gb207 ≠ gb191)); clear BK190; clear BK191; clear HB; have BK190 := n0_; have BK191 := n1_; have HB := n2_; have BK207 := n3_; have GW207 := n4_; have GE207 := n5_; have NB190_207 := n6_; have NB207_190 := n7_; have NB191_207 := n8_; have NB207_191 := n9_; clear n0_ n1_ n2_ n3_ n4_ n5_ n6_ n7_ n8_ n9_; clear hb hbox hg; have hnb43 := NB207_190.out; have hnc43 := NB190_207.out; have hnb44 := NB207_191.out; have hnc44 := NB191_207.out; have hcz45_0 : w42.cell? ⟨gb207, 0, none⟩ = some (.int .u64 0) := (blk_cell BK207.out 0).trans rfl; have hcz45_1 : w42.cell? ⟨gb207, 1, none⟩ = some (.int .u32 0) := (blk_cell BK207.out 1).trans rfl; have hcz45_2 : w42.cell? ⟨gb207, 2, none⟩ = some (.int .i64 0) := (blk_cell BK207.out 2).trans rfl; have hcz45_3 : w42.cell? ⟨gb207, 3, none⟩ = some (.int .i64 0) := (blk_cell BK207.out 3).trans rfl; have hfz45_0 := blk_frozen BK207.out 0; have hfz45_1 := blk_frozen BK207.out 1; have hfz45_2 := blk_frozen BK207.out 2; have hfz45_3 := blk_frozen BK207.out 3) | ((with_reducible refine gate_callee (f := 11) rfl ?_); refine goesL_ (some 74) rfl rfl Try.func11 (by kernel_rfl) rfl #[.agg #[.int .u64 t202, .int .u32 t203, .int .i64 t204, .int .i64 t205]] rfl (by (try simp only [List.map_toArray, List.map_cons, List.map_nil]); first | done | rfl | (simp only [List.length_drop, List.length_take]; rfl)) ?_; (with_reducible refine (desc_Build.calls kj5 t202 t203 t204 t205 t208 t209 _ A37.out).mono ?_); rintro e w46 ⟨rfl, hb⟩; refine ⟨_, rfl, ?_⟩; have n0_ := Aside0.mk (blk_below (g := gb190) (o := .cells #[.int .u64 a0_0, .int .u32 a0_1, .int .i64 a0_2, .int .i64 a0_3] 25 (0, 0)) (by (with_reducible repeat (first | refine blk_drewN ?_ _ | refine blk_drew ?_ | refine blk_alloc ?_ _)); refine blk_far ?_ NB190_207.out _; (with_reducible repeat (first | refine blk_drewN ?_ _ | refine blk_drew ?_ | refine blk_alloc ?_ _)); refine blk_far ?_ NB190_207.out _; (with_reducible repeat (first | refine blk_drewN ?_ _ | refine blk_drew ?_ | refine blk_alloc ?_ _)); refine blk_far ?_ NB190_207.out _; (with_reducible repeat (first | refine blk_drewN ?_ _ | refine blk_drew ?_ | refine blk_alloc ?_ _)); refine blk_far ?_ NB190_207.out _; (with_reducible repeat (first | refine blk_drewN ?_ _ | refine blk_drew ?_ | refine blk_alloc ?_ _)); exact BK190.out) hb); have n1_ := Aside0.mk (blk_below (g := gb191) (o := .cells #[.int .u64 a1_0, .int .u32 a1_1, .int .i64 a1_2, .int .i64 a1_3] 25 (0, 0)) (by (with_reducible repeat (first | refine blk_drewN ?_ _ | refine blk_drew ?_ | refine blk_alloc ?_ _)); refine blk_far ?_ NB191_207.out _; (with_reducible repeat (first | refine blk_drewN ?_ _ | refine blk_drew ?_ | refine blk_alloc ?_ _)); refine blk_far ?_ NB191_207.out _; (with_reducible repeat (first | refine blk_drewN ?_ _ | refine blk_drew ?_ | refine blk_alloc ?_ _)); refine blk_far ?_ NB191_207.out _; (with_reducible repeat (first | refine blk_drewN ?_ _ | refine blk_drew ?_ | refine blk_alloc ?_ _)); refine blk_far ?_ NB191_207.out _; (with_reducible repeat (first | refine blk_drewN ?_ _ | refine blk_drew ?_ | refine blk_alloc ?_ _)); exact BK191.out) hb); have n2_ := Aside0.mk (blk_below (g := gb207) (o := .cells #[.int .u64 t202, .int .u32 t203, .int .i64 t204, .int .i64 t205] 25 (0, 0)) (by (with_reducible repeat (first | refine blk_drewN ?_ _ | refine blk_drew ?_ | refine blk_alloc ?_ _)); refine blk_put (cs := #[.int .u64 t202, .int .u32 t203, .int .i64 t204, .int .i64 0]) ?_ 3 _ rfl; (with_reducible repeat (first | refine blk_drewN ?_ _ | refine blk_drew ?_ | refine blk_alloc ?_ _)); refine blk_put (cs := #[.int .u64 t202, .int .u32 t203, .int .i64 0, .int .i64 0]) ?_ 2 _ rfl; (with_reducible repeat (first | refine blk_drewN ?_ _ | refine blk_drew ?_ | refine blk_alloc ?_ _)); refine blk_put (cs := #[.int .u64 t202, .int .u32 0, .int .i64 0, .int .i64 0]) ?_ 1 _ rfl; (with_reducible repeat (first | refine blk_drewN ?_ _ | refine blk_drew ?_ | refine blk_alloc ?_ _)); refine blk_put (cs := #[.int .u64 0, .int .u32 0, .int .i64 0, .int .i64 0]) ?_ 0 _ rfl; (with_reducible repeat (first | refine blk_drewN ?_ _ | refine blk_drew ?_ | refine blk_alloc ?_ _)); exact BK207.out) hb); have n3_ := Aside0.mk (below_step (by repeat (first | (with_reducible first | exact HB.out | apply below_alloc | apply pw_below_drewN | apply below_drew1 | refine below_set ?_ GE190.out | refine below_set ?_ GE191.out | refine below_set ?_ GE207.out) | exact HB.out)) hb); clear BK190; clear BK191; clear BK207; clear HB; have BK190 := n0_; have BK191 := n1_; have BK207 := n2_; have HB := n3_; clear n0_ n1_ n2_ n3_; (try clear hb); (try clear hb2); (try clear hk); (try clear hi)) | (go_at_call 13; (with_reducible refine (aqueductlaw12_fixed.calls kj5  t210 _ A40.out).mono ?_); rintro e w47 ⟨rfl, hb⟩; have n0_ := Aside0.mk (blk_below (g := gb190) (o := .cells #[.int .u64 a0_0, .int .u32 a0_1, .int .i64 a0_2, .int .i64 a0_3] 25 (0, 0)) (by (with_reducible repeat (first | refine blk_drewN ?_ _ | refine blk_drew ?_ | refine blk_alloc ?_ _)); exact BK190.out) hb); have n1_ := Aside0.mk (blk_below (g := gb191) (o := .cells #[.int .u64 a1_0, .int .u32 a1_1, .int .i64 a1_2, .int .i64 a1_3] 25 (0, 0)) (by (with_reducible repeat (first | refine blk_drewN ?_ _ | refine blk_drew ?_ | refine blk_alloc ?_ _)); exact BK191.out) hb); have n2_ := Aside0.mk (blk_below (g := gb207) (o := .cells #[.int .u64 t202, .int .u32 t203, .int .i64 t204, .int .i64 t205] 25 (0, 0)) (by (with_reducible repeat (first | refine blk_drewN ?_ _ | refine blk_drew ?_ | refine blk_alloc ?_ _)); exact BK207.out) hb); have n3_ := Aside0.mk (below_step (by repeat (first | (with_reducible first | exact HB.out | apply below_alloc | apply pw_below_drewN | apply below_drew1 | refine below_set ?_ GE190.out | refine below_set ?_ GE191.out | refine below_set ?_ GE207.out) | exact HB.out)) hb); clear BK190; clear BK191; clear BK207; clear HB; have BK190 := n0_; have BK191 := n1_; have BK207 := n2_; have HB := n3_; clear n0_ n1_ n2_ n3_; (try clear hb); (try clear hb2); (try clear hk); (try clear hi)))
            go_ret
            exact ⟨by first | rfl | (simp [errW_none, errW_some] <;> rfl) | (simp [*, errW_none, errW_some] <;> rfl) | (exfalso; simp_all), by repeat (first | (with_reducible first | exact HB.out | apply below_alloc | apply pw_below_drewN | apply below_drew1 | refine below_set ?_ GE190.out | refine below_set ?_ GE191.out | refine below_set ?_ GE207.out) | exact HB.out)⟩
          · rw [if_neg c39] at H
            have c39b0 : (t208.toList == a2.toList) = false := beq_eq_false_iff_ne.mpr c39
            have c39b1 : (t208.toList != a2.toList) = true := bne_iff_ne.mpr c39
            obtain rfl := Option.some.inj H
            exact absurd HR_.out (by decide)
        · rw [if_neg c38] at H
          have c38b0 : (t209 == 0) = false := beq_eq_false_iff_ne.mpr c38
          have c38b1 : (t209 != 0) = true := bne_iff_ne.mpr c38
          obtain rfl := Option.some.inj H
          exact absurd HR_.out (by decide)
      · rw [if_neg c36] at H
        have c36b0 : (t206 == 0) = false := beq_eq_false_iff_ne.mpr c36
        have c36b1 : (t206 != 0) = true := bne_iff_ne.mpr c36
        by_cases c48 : (t202 == 0 && (t203 == 0 && (t204 == 0 && (t205 == 0)))) = true
        · rw [if_pos c48] at H
          have c48b0 : (t202 == 0 && (t203 == 0 && (t204 == 0 && (t205 == 0)))) = true := c48
          (try (have c48b1 : decide (t202 = 0 && (t203 == 0 && (t204 == 0 && (t205 == 0)))) = true := by simpa using c48))
          (try (have c48b2 : (t202 == 0 && (t203 == 0 && (t204 == 0 && (t205 == 0)))) = true := by simpa using c48))
          clear c48
          by_cases c49 : (a2.size : Int) = 16
          · rw [if_pos c49] at H
            have c49b0 : ((a2.size : Int) == 16) = true := beq_iff_eq.mpr c49
            have c49b1 : ((a2.size : Int) != 16) = false := bne_eq_false_iff_eq.mpr c49
            clear c49
            obtain rfl := Option.some.inj H
            exact absurd HR_.out (by decide)
          · rw [if_neg c49] at H
            have c49b0 : ((a2.size : Int) == 16) = false := beq_eq_false_iff_ne.mpr c49
            have c49b1 : ((a2.size : Int) != 16) = true := bne_iff_ne.mpr c49
            replace H := Option.bind_eq_some_iff.mp H
            obtain ⟨t211, A500, H⟩ := H
            replace H : (some t211) = some r := H
            have A50 := Aside0.mk A500
            clear A500
            obtain rfl := Option.some.inj H
            go_wp2_with (first | ((with_reducible refine gate_callee (f := 9) rfl ?_); refine goesL_ (some 56) rfl rfl Try.func9 (by kernel_rfl) rfl #[.string a2] rfl (by (try simp only [List.map_toArray, List.map_cons, List.map_nil]); first | done | rfl | (simp only [List.length_drop, List.length_take]; rfl)) ?_; (with_reducible refine (desc_Parse.calls kj5 a2 t202 t203 t204 t205 t206 _ A35.out).mono ?_); rintro e w51 ⟨rfl, hb⟩; refine ⟨_, rfl, ?_⟩; have n0_ := Aside0.mk (blk_below (g := gb190) (o := .cells #[.int .u64 a0_0, .int .u32 a0_1, .int .i64 a0_2, .int .i64 a0_3] 25 (0, 0)) (by (with_reducible repeat (first | refine blk_drewN ?_ _ | refine blk_drew ?_ | refine blk_alloc ?_ _)); exact BK190.out) hb); have n1_ := Aside0.mk (blk_below (g := gb191) (o := .cells #[.int .u64 a1_0, .int .u32 a1_1, .int .i64 a1_2, .int .i64 a1_3] 25 (0, 0)) (by (with_reducible repeat (first | refine blk_drewN ?_ _ | refine blk_drew ?_ | refine blk_alloc ?_ _)); exact BK191.out) hb); have n2_ := Aside0.mk (below_step (by repeat (first | (with_reducible first | exact HB.out | apply below_alloc | apply pw_below_drewN | apply below_drew1 | refine below_set ?_ GE190.out | refine below_set ?_ GE191.out) | exact HB.out)) hb); clear BK190; clear BK191; clear HB; have BK190 := n0_; have BK191 := n1_; have HB := n2_; clear n0_ n1_ n2_; (try clear hb); (try clear hb2); (try clear hk); (try clear hi)) | ((with_reducible refine gate_dst (N := 13) rfl ?_); (try (refine gate_guard (by rfl) ?_; dsimp only)); refine box_event ?hg (N := 13) ?hd (cs := #[.int .u64 0, .int .u32 0, .int .i64 0, .int .i64 0]) (t := 25) ?hr ?_; (case hd => rfl); (case hg => rfl); (case hr => first | (go_simp; done) | (go_simp; rfl)); intro gb207 hg w52 hbox hb; have n0_ := Aside0.mk (blk_below (g := gb190) (o := .cells #[.int .u64 a0_0, .int .u32 a0_1, .int .i64 a0_2, .int .i64 a0_3] 25 (0, 0)) (by (with_reducible repeat (first | refine blk_drewN ?_ _ | refine blk_drew ?_ | refine blk_alloc ?_ _)); exact BK190.out) hb); have n1_ := Aside0.mk (blk_below (g := gb191) (o := .cells #[.int .u64 a1_0, .int .u32 a1_1, .int .i64 a1_2, .int .i64 a1_3] 25 (0, 0)) (by (with_reducible repeat (first | refine blk_drewN ?_ _ | refine blk_drew ?_ | refine blk_alloc ?_ _)); exact BK191.out) hb); have n2_ := Aside0.mk (below_step (by repeat (first | (with_reducible first | exact HB.out | apply below_alloc | apply pw_below_drewN | apply below_drew1 | refine below_set ?_ GE190.out | refine below_set ?_ GE191.out) | exact HB.out)) hb); have n3_ := Aside0.mk (hbox); have n4_ := Aside0.mk ((by rw [hg]; exact (below_size (by repeat (first | (with_reducible first | exact HB.out | apply below_alloc | apply pw_below_drewN | apply below_drew1 | refine below_set ?_ GE190.out | refine below_set ?_ GE191.out) | exact HB.out))) : w.heap.size ≤ gb207)); have n5_ := Aside0.mk ((by rw [hg]; exact (below_size (by repeat (first | (with_reducible first | exact HB.out | apply below_alloc | apply pw_below_drewN | apply below_drew1 | refine below_set ?_ GE190.out | refine below_set ?_ GE191.out) | exact HB.out))) : w.heap.size ≤ gb207)); have n6_ := Aside0.mk ((by rw [hg]; exact Nat.ne_of_lt (blk_lt (g := gb190) (o := .cells #[.int .u64 a0_0, .int .u32 a0_1, .int .i64 a0_2, .int .i64 a0_3] 25 (0, 0)) (by (with_reducible repeat (first | refine blk_drewN ?_ _ | refine blk_drew ?_ | refine blk_alloc ?_ _)); exact BK190.out)) : gb190 ≠ gb207)); have n7_ := Aside0.mk ((by rw [hg]; exact Nat.ne_of_gt (blk_lt (g := gb190) (o := .cells #[.int .u64 a0_0, .int .u32 a0_1, .int .i64 a0_2, .int .i64 a0_3] 25 (0, 0)) (by (with_reducible repeat (first | refine blk_drewN ?_ _ | refine blk_drew ?_ | refine blk_alloc ?_ _)); exact BK190.out)) : gb207 ≠ gb190)); have n8_ := Aside0.mk ((by rw [hg]; exact Nat.ne_of_lt (blk_lt (g := gb191) (o := .cells #[.int .u64 a1_0, .int .u32 a1_1, .int .i64 a1_2, .int .i64 a1_3] 25 (0, 0)) (by (with_reducible repeat (first | refine blk_drewN ?_ _ | refine blk_drew ?_ | refine blk_alloc ?_ _)); exact BK191.out)) : gb191 ≠ gb207)); have n9_ := Aside0.mk ((by rw [hg]; exact Nat.ne_of_gt (blk_lt (g := gb191) (o := .cells #[.int .u64 a1_0, .int .u32 a1_1, .int .i64 a1_2, .int .i64 a1_3] 25 (0, 0)) (by (with_reducible repeat (first | refine blk_drewN ?_ _ | refine blk_drew ?_ | refine blk_alloc ?_ _)); exact BK191.out)) : gb207 ≠ gb191)); clear BK190; clear BK191; clear HB; have BK190 := n0_; have BK191 := n1_; have HB := n2_; have BK207 := n3_; have GW207 := n4_; have GE207 := n5_; have NB190_207 := n6_; have NB207_190 := n7_; have NB191_207 := n8_; have NB207_191 := n9_; clear n0_ n1_ n2_ n3_ n4_ n5_ n6_ n7_ n8_ n9_; clear hb hbox hg; have hnb53 := NB207_190.out; have hnc53 := NB190_207.out; have hnb54 := NB207_191.out; have hnc54 := NB191_207.out; have hcz55_0 : w52.cell? ⟨gb207, 0, none⟩ = some (.int .u64 0) := (blk_cell BK207.out 0).trans rfl; have hcz55_1 : w52.cell? ⟨gb207, 1, none⟩ = some (.int .u32 0) := (blk_cell BK207.out 1).trans rfl; have hcz55_2 : w52.cell? ⟨gb207, 2, none⟩ = some (.int .i64 0) := (blk_cell BK207.out 2).trans rfl; have hcz55_3 : w52.cell? ⟨gb207, 3, none⟩ = some (.int .i64 0) := (blk_cell BK207.out 3).trans rfl; have hfz55_0 := blk_frozen BK207.out 0; have hfz55_1 := blk_frozen BK207.out 1; have hfz55_2 := blk_frozen BK207.out 2; have hfz55_3 := blk_frozen BK207.out 3) | (go_at_call 13; (with_reducible refine (aqueductlaw12_fixed.calls kj5  t211 _ A50.out).mono ?_); rintro e w56 ⟨rfl, hb⟩; have n0_ := Aside0.mk (blk_below (g := gb190) (o := .cells #[.int .u64 a0_0, .int .u32 a0_1, .int .i64 a0_2, .int .i64 a0_3] 25 (0, 0)) (by (with_reducible repeat (first | refine blk_drewN ?_ _ | refine blk_drew ?_ | refine blk_alloc ?_ _)); refine blk_far ?_ NB190_207.out _; (with_reducible repeat (first | refine blk_drewN ?_ _ | refine blk_drew ?_ | refine blk_alloc ?_ _)); refine blk_far ?_ NB190_207.out _; (with_reducible repeat (first | refine blk_drewN ?_ _ | refine blk_drew ?_ | refine blk_alloc ?_ _)); refine blk_far ?_ NB190_207.out _; (with_reducible repeat (first | refine blk_drewN ?_ _ | refine blk_drew ?_ | refine blk_alloc ?_ _)); refine blk_far ?_ NB190_207.out _; (with_reducible repeat (first | refine blk_drewN ?_ _ | refine blk_drew ?_ | refine blk_alloc ?_ _)); exact BK190.out) hb); have n1_ := Aside0.mk (blk_below (g := gb191) (o := .cells #[.int .u64 a1_0, .int .u32 a1_1, .int .i64 a1_2, .int .i64 a1_3] 25 (0, 0)) (by (with_reducible repeat (first | refine blk_drewN ?_ _ | refine blk_drew ?_ | refine blk_alloc ?_ _)); refine blk_far ?_ NB191_207.out _; (with_reducible repeat (first | refine blk_drewN ?_ _ | refine blk_drew ?_ | refine blk_alloc ?_ _)); refine blk_far ?_ NB191_207.out _; (with_reducible repeat (first | refine blk_drewN ?_ _ | refine blk_drew ?_ | refine blk_alloc ?_ _)); refine blk_far ?_ NB191_207.out _; (with_reducible repeat (first | refine blk_drewN ?_ _ | refine blk_drew ?_ | refine blk_alloc ?_ _)); refine blk_far ?_ NB191_207.out _; (with_reducible repeat (first | refine blk_drewN ?_ _ | refine blk_drew ?_ | refine blk_alloc ?_ _)); exact BK191.out) hb); have n2_ := Aside0.mk (blk_below (g := gb207) (o := .cells #[.int .u64 t202, .int .u32 t203, .int .i64 t204, .int .i64 t205] 25 (0, 0)) (by (with_reducible repeat (first | refine blk_drewN ?_ _ | refine blk_drew ?_ | refine blk_alloc ?_ _)); refine blk_put (cs := #[.int .u64 t202, .int .u32 t203, .int .i64 t204, .int .i64 0]) ?_ 3 _ rfl; (with_reducible repeat (first | refine blk_drewN ?_ _ | refine blk_drew ?_ | refine blk_alloc ?_ _)); refine blk_put (cs := #[.int .u64 t202, .int .u32 t203, .int .i64 0, .int .i64 0]) ?_ 2 _ rfl; (with_reducible repeat (first | refine blk_drewN ?_ _ | refine blk_drew ?_ | refine blk_alloc ?_ _)); refine blk_put (cs := #[.int .u64 t202, .int .u32 0, .int .i64 0, .int .i64 0]) ?_ 1 _ rfl; (with_reducible repeat (first | refine blk_drewN ?_ _ | refine blk_drew ?_ | refine blk_alloc ?_ _)); refine blk_put (cs := #[.int .u64 0, .int .u32 0, .int .i64 0, .int .i64 0]) ?_ 0 _ rfl; (with_reducible repeat (first | refine blk_drewN ?_ _ | refine blk_drew ?_ | refine blk_alloc ?_ _)); exact BK207.out) hb); have n3_ := Aside0.mk (below_step (by repeat (first | (with_reducible first | exact HB.out | apply below_alloc | apply pw_below_drewN | apply below_drew1 | refine below_set ?_ GE190.out | refine below_set ?_ GE191.out | refine below_set ?_ GE207.out) | exact HB.out)) hb); clear BK190; clear BK191; clear BK207; clear HB; have BK190 := n0_; have BK191 := n1_; have BK207 := n2_; have HB := n3_; clear n0_ n1_ n2_ n3_; (try clear hb); (try clear hb2); (try clear hk); (try clear hi)))
            go_ret
            exact ⟨by first | rfl | (simp [errW_none, errW_some] <;> rfl) | (simp [*, errW_none, errW_some] <;> rfl) | (exfalso; simp_all), by repeat (first | (with_reducible first | exact HB.out | apply below_alloc | apply pw_below_drewN | apply below_drew1 | refine below_set ?_ GE190.out | refine below_set ?_ GE191.out | refine below_set ?_ GE207.out) | exact HB.out)⟩
        · rw [if_neg c48] at H
          have c48b0 : (t202 == 0 && (t203 == 0 && (t204 == 0 && (t205 == 0)))) = false := by simpa using c48
          (try (have c48b1 : decide (t202 = 0 && (t203 == 0 && (t204 == 0 && (t205 == 0)))) = false := by simpa using c48))
          (try (have c48b2 : (t202 == 0 && (t203 == 0 && (t204 == 0 && (t205 == 0)))) = false := by simpa using c48))
          (try (have c48b3 : ¬ (t202 = 0 && (t203 == 0 && (t204 == 0 && (t205 == 0)))) := by simpa using c48))
          clear c48
          obtain rfl := Option.some.inj H
          exact absurd HR_.out (by decide)

end Go.Proofs.Ytehaffldjnmblaa.P
