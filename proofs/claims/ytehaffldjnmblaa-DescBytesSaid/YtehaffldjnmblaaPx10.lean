/- What functions of the program compute, each with the walk that shows it: by a program (a turned copy of the kit's print; wip/myprint.py). -/
import Derived.Test.YtehaffldjnmblaaPx0
import Derived.Test.YtehaffldjnmblaaPx1
import Derived.Test.YtehaffldjnmblaaPx3
import Derived.Test.YtehaffldjnmblaaPx5
import Derived.Test.YtehaffldjnmblaaPx7
import Derived.Test.YtehaffldjnmblaaPx9
import Derived.Test.YtehaffldjnmblaaHParse
namespace Go.Proofs.Ytehaffldjnmblaa.P
open Go.RowKit Go.Proofs.YtehaffldjnmblaaW.PrintWords Go.Proofs.YtehaffldjnmblaaW.PrintLast Go.Proofs.YtehaffldjnmblaaW.PrintMore
attribute [local go_sem] max2_int min2_int max_two min_two max_three min_three max_four min_four   -- for this text's walks alone
set_option linter.unusedVariables false
set_option linter.unusedSimpArgs false

attribute [local go_sem high] eqA25
/-! ### aqueductlaw12_DescParses: function 3 -/
def aqueductlaw12_DescParses.f (k : Nat) (a0 : ByteArray) (a1_0 : Int) (a1_1 : Int) (a1_2 : Int) (a1_3 : Int) : Option (Bool) := (desc_Parse.f k a0).bind fun bt166 => ((aqueductref12_Parse.f k a0).bind fun bt172 => ((desc_Build.f k a1_0 a1_1 a1_2 a1_3).bind fun bt178 => ((aqueductref12_Build.f k a1_0 a1_1 a1_2 a1_3).bind fun bt180 => ((aqueductlaw12_fixed.f k).bind fun t182 => (if t182 = true then (if (bt166.1 == bt172.1 && (bt166.2.1 == bt172.2.1 && (bt166.2.2.1 == bt172.2.2.1 && (bt166.2.2.2.1 == bt172.2.2.2.1)))) = true then (if bt166.2.2.2.2 = bt172.2.2.2.2 then (if bt178.1.toList = bt180.1.toList then (some (bt178.2 == bt180.2)) else (some false)) else (some false)) else (some false)) else (some false))))))
theorem aqueductlaw12_DescParses.mono : ∀ a0 a1 a2 a3 a4 k, LeO (aqueductlaw12_DescParses.f k a0 a1 a2 a3 a4) (aqueductlaw12_DescParses.f (k + 1) a0 a1 a2 a3 a4) := by
  intro a0 a1 a2 a3 a4 k
  unfold aqueductlaw12_DescParses.f
  repeat' first
      | (with_reducible exact aqueductlaw12_fixed.mono _)
      | (with_reducible exact aqueductref12_Build.mono _ _ _ _ _)
      | (with_reducible exact aqueductref12_Parse.mono _ _)
      | (with_reducible exact desc_Build.mono _ _ _ _ _)
      | (with_reducible exact desc_Parse.mono _ _)
      | (with_reducible exact LeO.refl _)
      | (with_reducible exact LeO.none _)
      | (with_reducible refine LeO.ite ?_ ?_)
      | (with_reducible refine LeO.bind ?_ (fun _ => ?_))
      | exact aqueductlaw12_fixed.mono _
      | exact aqueductref12_Build.mono _ _ _ _ _
      | exact aqueductref12_Parse.mono _ _
      | exact desc_Build.mono _ _ _ _ _
      | exact desc_Parse.mono _ _
      | exact LeO.none _
      | refine LeO.ite ?_ ?_
      | refine LeO.bind ?_ (fun _ => ?_)
set_option maxHeartbeats 8000000 in
set_option maxRecDepth 100000 in
theorem aqueductlaw12_DescParses.calls (k : Nat) (a0 : ByteArray) (a1_0 : Int) (a1_1 : Int) (a1_2 : Int) (a1_3 : Int) (r : Bool) (w : World) (h : aqueductlaw12_DescParses.f k a0 a1_0 a1_1 a1_2 a1_3 = some r) (hr_ : r = true) :
    Calls Try.prog 3 #[.string a0, .agg #[.int .u64 a1_0, .int .u32 a1_1, .int .i64 a1_2, .int .i64 a1_3]] w fun e w' => e = .returned (.bool r) ∧ Below w.heap.size w w' := by
  have hu25 := Try.underlying25
  have HB := Aside0.mk (Below.refl w.heap.size w)
  have H : ((desc_Parse.f k a0).bind fun bt166 => ((aqueductref12_Parse.f k a0).bind fun bt172 => ((desc_Build.f k a1_0 a1_1 a1_2 a1_3).bind fun bt178 => ((aqueductref12_Build.f k a1_0 a1_1 a1_2 a1_3).bind fun bt180 => ((aqueductlaw12_fixed.f k).bind fun t182 => (if t182 = true then (if (bt166.1 == bt172.1 && (bt166.2.1 == bt172.2.1 && (bt166.2.2.1 == bt172.2.2.1 && (bt166.2.2.2.1 == bt172.2.2.2.1)))) = true then (if bt166.2.2.2.2 = bt172.2.2.2.2 then (if bt178.1.toList = bt180.1.toList then (some (bt178.2 == bt180.2)) else (some false)) else (some false)) else (some false)) else (some false))))))) = some r := h
  clear h
  have HR_ := Aside0.mk hr_
  clear hr_
  replace H := Option.bind_eq_some_iff.mp H
  obtain ⟨⟨t166, t167, t168, t169, t170⟩, A30, H⟩ := H
  replace H : ((aqueductref12_Parse.f k a0).bind fun bt172 => ((desc_Build.f k a1_0 a1_1 a1_2 a1_3).bind fun bt178 => ((aqueductref12_Build.f k a1_0 a1_1 a1_2 a1_3).bind fun bt180 => ((aqueductlaw12_fixed.f k).bind fun t182 => (if t182 = true then (if (t166 == bt172.1 && (t167 == bt172.2.1 && (t168 == bt172.2.2.1 && (t169 == bt172.2.2.2.1)))) = true then (if t170 = bt172.2.2.2.2 then (if bt178.1.toList = bt180.1.toList then (some (bt178.2 == bt180.2)) else (some false)) else (some false)) else (some false)) else (some false)))))) = some r := H
  have A3 := Aside0.mk A30
  clear A30
  replace H := Option.bind_eq_some_iff.mp H
  obtain ⟨⟨t172, t173, t174, t175, t176⟩, A40, H⟩ := H
  replace H : ((desc_Build.f k a1_0 a1_1 a1_2 a1_3).bind fun bt178 => ((aqueductref12_Build.f k a1_0 a1_1 a1_2 a1_3).bind fun bt180 => ((aqueductlaw12_fixed.f k).bind fun t182 => (if t182 = true then (if (t166 == t172 && (t167 == t173 && (t168 == t174 && (t169 == t175)))) = true then (if t170 = t176 then (if bt178.1.toList = bt180.1.toList then (some (bt178.2 == bt180.2)) else (some false)) else (some false)) else (some false)) else (some false))))) = some r := H
  have A4 := Aside0.mk A40
  clear A40
  replace H := Option.bind_eq_some_iff.mp H
  obtain ⟨⟨t178, t179⟩, A50, H⟩ := H
  replace H : ((aqueductref12_Build.f k a1_0 a1_1 a1_2 a1_3).bind fun bt180 => ((aqueductlaw12_fixed.f k).bind fun t182 => (if t182 = true then (if (t166 == t172 && (t167 == t173 && (t168 == t174 && (t169 == t175)))) = true then (if t170 = t176 then (if t178.toList = bt180.1.toList then (some (t179 == bt180.2)) else (some false)) else (some false)) else (some false)) else (some false)))) = some r := H
  have A5 := Aside0.mk A50
  clear A50
  replace H := Option.bind_eq_some_iff.mp H
  obtain ⟨⟨t180, t181⟩, A60, H⟩ := H
  replace H : ((aqueductlaw12_fixed.f k).bind fun t182 => (if t182 = true then (if (t166 == t172 && (t167 == t173 && (t168 == t174 && (t169 == t175)))) = true then (if t170 = t176 then (if t178.toList = t180.toList then (some (t179 == t181)) else (some false)) else (some false)) else (some false)) else (some false))) = some r := H
  have A6 := Aside0.mk A60
  clear A60
  replace H := Option.bind_eq_some_iff.mp H
  obtain ⟨t182, A70, H⟩ := H
  replace H : (if t182 = true then (if (t166 == t172 && (t167 == t173 && (t168 == t174 && (t169 == t175)))) = true then (if t170 = t176 then (if t178.toList = t180.toList then (some (t179 == t181)) else (some false)) else (some false)) else (some false)) else (some false)) = some r := H
  have A7 := Aside0.mk A70
  clear A70
  by_cases c8 : t182 = true
  · subst c8
    have H1 : (if (t166 == t172 && (t167 == t173 && (t168 == t174 && (t169 == t175)))) = true then (if t170 = t176 then (if t178.toList = t180.toList then (some (t179 == t181)) else (some false)) else (some false)) else (some false)) = some r := by rw [if_pos rfl] at H; exact H
    clear H
    have H := H1
    clear H1
    by_cases c9 : (t166 == t172 && (t167 == t173 && (t168 == t174 && (t169 == t175)))) = true
    · rw [if_pos c9] at H
      have c9b0 : (t166 == t172 && (t167 == t173 && (t168 == t174 && (t169 == t175)))) = true := c9
      (try (have c9b1 : decide (t166 = t172 && (t167 == t173 && (t168 == t174 && (t169 == t175)))) = true := by simpa using c9))
      (try (have c9b2 : (t166 == t172 && (t167 == t173 && (t168 == t174 && (t169 == t175)))) = true := by simpa using c9))
      clear c9
      by_cases c10 : t170 = t176
      · rw [if_pos c10] at H
        have c10b0 : (t170 == t176) = true := beq_iff_eq.mpr c10
        have c10b1 : (t170 != t176) = false := bne_eq_false_iff_eq.mpr c10
        clear c10
        by_cases c11 : t178.toList = t180.toList
        · rw [if_pos c11] at H
          have c11b0 : (t178.toList == t180.toList) = true := beq_iff_eq.mpr c11
          have c11b1 : (t178.toList != t180.toList) = false := bne_eq_false_iff_eq.mpr c11
          clear c11
          obtain rfl := Option.some.inj H
          go_enter Try.func3, Try.ntmps3
          go_wp2_with (first | ((with_reducible refine gate_dst (N := 3) rfl ?_); refine box_event ?hg (N := 3) ?hd (cs := #[.int .u64 a1_0, .int .u32 a1_1, .int .i64 a1_2, .int .i64 a1_3]) (t := 25) ?hr ?_; (case hd => rfl); (case hg => rfl); (case hr => first | (go_simp; done) | (go_simp; rfl)); intro gb165 hg w12 hbox hb; have n0_ := Aside0.mk (below_step (by repeat (first | (with_reducible first | exact HB.out | apply below_alloc | apply pw_below_drewN | apply below_drew1) | exact HB.out)) hb); have n1_ := Aside0.mk (hbox); have n2_ := Aside0.mk ((by rw [hg]; exact (below_size (by repeat (first | (with_reducible first | exact HB.out | apply below_alloc | apply pw_below_drewN | apply below_drew1) | exact HB.out))) : w.heap.size ≤ gb165)); have n3_ := Aside0.mk ((by rw [hg]; exact (below_size (by repeat (first | (with_reducible first | exact HB.out | apply below_alloc | apply pw_below_drewN | apply below_drew1) | exact HB.out))) : w.heap.size ≤ gb165)); clear HB; have HB := n0_; have BK165 := n1_; have GW165 := n2_; have GE165 := n3_; clear n0_ n1_ n2_ n3_; clear hb hbox hg) | ((with_reducible refine gate_callee (f := 9) rfl ?_); refine goesL_ (some 15) rfl rfl Try.func9 (by kernel_rfl) rfl #[.string a0] rfl (by (try simp only [List.map_toArray, List.map_cons, List.map_nil]); first | done | rfl | (simp only [List.length_drop, List.length_take]; rfl)) ?_; (with_reducible refine (desc_Parse.calls k a0 t166 t167 t168 t169 t170 _ A3.out).mono ?_); rintro e w13 ⟨rfl, hb⟩; refine ⟨_, rfl, ?_⟩; have n0_ := Aside0.mk (blk_below (g := gb165) (o := .cells #[.int .u64 a1_0, .int .u32 a1_1, .int .i64 a1_2, .int .i64 a1_3] 25 (0, 0)) (by (with_reducible repeat (first | refine blk_drewN ?_ _ | refine blk_drew ?_ | refine blk_alloc ?_ _)); exact BK165.out) hb); have n1_ := Aside0.mk (below_step (by repeat (first | (with_reducible first | exact HB.out | apply below_alloc | apply pw_below_drewN | apply below_drew1 | refine below_set ?_ GE165.out) | exact HB.out)) hb); clear BK165; clear HB; have BK165 := n0_; have HB := n1_; clear n0_ n1_; (try clear hb); (try clear hb2); (try clear hk); (try clear hi)) | ((with_reducible refine gate_dst (N := 5) rfl ?_); refine box_event ?hg (N := 5) ?hd (cs := #[.int .u64 0, .int .u32 0, .int .i64 0, .int .i64 0]) (t := 25) ?hr ?_; (case hd => rfl); (case hg => rfl); (case hr => first | (go_simp; done) | (go_simp; rfl)); intro gb171 hg w14 hbox hb; have n0_ := Aside0.mk (blk_below (g := gb165) (o := .cells #[.int .u64 a1_0, .int .u32 a1_1, .int .i64 a1_2, .int .i64 a1_3] 25 (0, 0)) (by (with_reducible repeat (first | refine blk_drewN ?_ _ | refine blk_drew ?_ | refine blk_alloc ?_ _)); exact BK165.out) hb); have n1_ := Aside0.mk (below_step (by repeat (first | (with_reducible first | exact HB.out | apply below_alloc | apply pw_below_drewN | apply below_drew1 | refine below_set ?_ GE165.out) | exact HB.out)) hb); have n2_ := Aside0.mk (hbox); have n3_ := Aside0.mk ((by rw [hg]; exact (below_size (by repeat (first | (with_reducible first | exact HB.out | apply below_alloc | apply pw_below_drewN | apply below_drew1 | refine below_set ?_ GE165.out) | exact HB.out))) : w.heap.size ≤ gb171)); have n4_ := Aside0.mk ((by rw [hg]; exact (below_size (by repeat (first | (with_reducible first | exact HB.out | apply below_alloc | apply pw_below_drewN | apply below_drew1 | refine below_set ?_ GE165.out) | exact HB.out))) : w.heap.size ≤ gb171)); have n5_ := Aside0.mk ((by rw [hg]; exact Nat.ne_of_lt (blk_lt (g := gb165) (o := .cells #[.int .u64 a1_0, .int .u32 a1_1, .int .i64 a1_2, .int .i64 a1_3] 25 (0, 0)) (by (with_reducible repeat (first | refine blk_drewN ?_ _ | refine blk_drew ?_ | refine blk_alloc ?_ _)); exact BK165.out)) : gb165 ≠ gb171)); have n6_ := Aside0.mk ((by rw [hg]; exact Nat.ne_of_gt (blk_lt (g := gb165) (o := .cells #[.int .u64 a1_0, .int .u32 a1_1, .int .i64 a1_2, .int .i64 a1_3] 25 (0, 0)) (by (with_reducible repeat (first | refine blk_drewN ?_ _ | refine blk_drew ?_ | refine blk_alloc ?_ _)); exact BK165.out)) : gb171 ≠ gb165)); clear BK165; clear HB; have BK165 := n0_; have HB := n1_; have BK171 := n2_; have GW171 := n3_; have GE171 := n4_; have NB165_171 := n5_; have NB171_165 := n6_; clear n0_ n1_ n2_ n3_ n4_ n5_ n6_; clear hb hbox hg; have hnb15 := NB171_165.out; have hnc15 := NB165_171.out; have hcz16_0 : w14.cell? ⟨gb171, 0, none⟩ = some (.int .u64 0) := (blk_cell BK171.out 0).trans rfl; have hcz16_1 : w14.cell? ⟨gb171, 1, none⟩ = some (.int .u32 0) := (blk_cell BK171.out 1).trans rfl; have hcz16_2 : w14.cell? ⟨gb171, 2, none⟩ = some (.int .i64 0) := (blk_cell BK171.out 2).trans rfl; have hcz16_3 : w14.cell? ⟨gb171, 3, none⟩ = some (.int .i64 0) := (blk_cell BK171.out 3).trans rfl; have hfz16_0 := blk_frozen BK171.out 0; have hfz16_1 := blk_frozen BK171.out 1; have hfz16_2 := blk_frozen BK171.out 2; have hfz16_3 := blk_frozen BK171.out 3) | ((with_reducible refine gate_callee (f := 10) rfl ?_); refine goesL_ (some 20) rfl rfl Try.func10 (by kernel_rfl) rfl #[.string a0] rfl (by (try simp only [List.map_toArray, List.map_cons, List.map_nil]); first | done | rfl | (simp only [List.length_drop, List.length_take]; rfl)) ?_; (with_reducible refine (aqueductref12_Parse.calls k a0 t172 t173 t174 t175 t176 _ A4.out).mono ?_); rintro e w17 ⟨rfl, hb⟩; refine ⟨_, rfl, ?_⟩; have n0_ := Aside0.mk (blk_below (g := gb165) (o := .cells #[.int .u64 a1_0, .int .u32 a1_1, .int .i64 a1_2, .int .i64 a1_3] 25 (0, 0)) (by (with_reducible repeat (first | refine blk_drewN ?_ _ | refine blk_drew ?_ | refine blk_alloc ?_ _)); refine blk_far ?_ NB165_171.out _; (with_reducible repeat (first | refine blk_drewN ?_ _ | refine blk_drew ?_ | refine blk_alloc ?_ _)); refine blk_far ?_ NB165_171.out _; (with_reducible repeat (first | refine blk_drewN ?_ _ | refine blk_drew ?_ | refine blk_alloc ?_ _)); refine blk_far ?_ NB165_171.out _; (with_reducible repeat (first | refine blk_drewN ?_ _ | refine blk_drew ?_ | refine blk_alloc ?_ _)); refine blk_far ?_ NB165_171.out _; (with_reducible repeat (first | refine blk_drewN ?_ _ | refine blk_drew ?_ | refine blk_alloc ?_ _)); exact BK165.out) hb); have n1_ := Aside0.mk (blk_below (g := gb171) (o := .cells #[.int .u64 t166, .int .u32 t167, .int .i64 t168, .int .i64 t169] 25 (0, 0)) (by (with_reducible repeat (first | refine blk_drewN ?_ _ | refine blk_drew ?_ | refine blk_alloc ?_ _)); refine blk_put (cs := #[.int .u64 t166, .int .u32 t167, .int .i64 t168, .int .i64 0]) ?_ 3 _ rfl; (with_reducible repeat (first | refine blk_drewN ?_ _ | refine blk_drew ?_ | refine blk_alloc ?_ _)); refine blk_put (cs := #[.int .u64 t166, .int .u32 t167, .int .i64 0, .int .i64 0]) ?_ 2 _ rfl; (with_reducible repeat (first | refine blk_drewN ?_ _ | refine blk_drew ?_ | refine blk_alloc ?_ _)); refine blk_put (cs := #[.int .u64 t166, .int .u32 0, .int .i64 0, .int .i64 0]) ?_ 1 _ rfl; (with_reducible repeat (first | refine blk_drewN ?_ _ | refine blk_drew ?_ | refine blk_alloc ?_ _)); refine blk_put (cs := #[.int .u64 0, .int .u32 0, .int .i64 0, .int .i64 0]) ?_ 0 _ rfl; (with_reducible repeat (first | refine blk_drewN ?_ _ | refine blk_drew ?_ | refine blk_alloc ?_ _)); exact BK171.out) hb); have n2_ := Aside0.mk (below_step (by repeat (first | (with_reducible first | exact HB.out | apply below_alloc | apply pw_below_drewN | apply below_drew1 | refine below_set ?_ GE165.out | refine below_set ?_ GE171.out) | exact HB.out)) hb); clear BK165; clear BK171; clear HB; have BK165 := n0_; have BK171 := n1_; have HB := n2_; clear n0_ n1_ n2_; (try clear hb); (try clear hb2); (try clear hk); (try clear hi)) | ((with_reducible refine gate_dst (N := 7) rfl ?_); refine box_event ?hg (N := 7) ?hd (cs := #[.int .u64 0, .int .u32 0, .int .i64 0, .int .i64 0]) (t := 25) ?hr ?_; (case hd => rfl); (case hg => rfl); (case hr => first | (go_simp; done) | (go_simp; rfl)); intro gb177 hg w18 hbox hb; have n0_ := Aside0.mk (blk_below (g := gb165) (o := .cells #[.int .u64 a1_0, .int .u32 a1_1, .int .i64 a1_2, .int .i64 a1_3] 25 (0, 0)) (by (with_reducible repeat (first | refine blk_drewN ?_ _ | refine blk_drew ?_ | refine blk_alloc ?_ _)); exact BK165.out) hb); have n1_ := Aside0.mk (blk_below (g := gb171) (o := .cells #[.int .u64 t166, .int .u32 t167, .int .i64 t168, .int .i64 t169] 25 (0, 0)) (by (with_reducible repeat (first | refine blk_drewN ?_ _ | refine blk_drew ?_ | refine blk_alloc ?_ _)); exact BK171.out) hb); have n2_ := Aside0.mk (below_step (by repeat (first | (with_reducible first | exact HB.out | apply below_alloc | apply pw_below_drewN | apply below_drew1 | refine below_set ?_ GE165.out | refine below_set ?_ GE171.out) | exact HB.out)) hb); have n3_ := Aside0.mk (hbox); have n4_ := Aside0.mk ((by rw [hg]; exact (below_size (by repeat (first | (with_reducible first | exact HB.out | apply below_alloc | apply pw_below_drewN | apply below_drew1 | refine below_set ?_ GE165.out | refine below_set ?_ GE171.out) | exact HB.out))) : w.heap.size ≤ gb177)); have n5_ := Aside0.mk ((by rw [hg]; exact (below_size (by repeat (first | (with_reducible first | exact HB.out | apply below_alloc | apply pw_below_drewN | apply below_drew1 | refine below_set ?_ GE165.out | refine below_set ?_ GE171.out) | exact HB.out))) : w.heap.size ≤ gb177)); have n6_ := Aside0.mk ((by rw [hg]; exact Nat.ne_of_lt (blk_lt (g := gb165) (o := .cells #[.int .u64 a1_0, .int .u32 a1_1, .int .i64 a1_2, .int .i64 a1_3] 25 (0, 0)) (by (with_reducible repeat (first | refine blk_drewN ?_ _ | refine blk_drew ?_ | refine blk_alloc ?_ _)); exact BK165.out)) : gb165 ≠ gb177)); have n7_ := Aside0.mk ((by rw [hg]; exact Nat.ne_of_gt (blk_lt (g := gb165) (o := .cells #[.int .u64 a1_0, .int .u32 a1_1, .int .i64 a1_2, .int .i64 a1_3] 25 (0, 0)) (by (with_reducible repeat (first | refine blk_drewN ?_ _ | refine blk_drew ?_ | refine blk_alloc ?_ _)); exact BK165.out)) : gb177 ≠ gb165)); have n8_ := Aside0.mk ((by rw [hg]; exact Nat.ne_of_lt (blk_lt (g := gb171) (o := .cells #[.int .u64 t166, .int .u32 t167, .int .i64 t168, .int .i64 t169] 25 (0, 0)) (by (with_reducible repeat (first | refine blk_drewN ?_ _ | refine blk_drew ?_ | refine blk_alloc ?_ _)); exact BK171.out)) : gb171 ≠ gb177)); have n9_ := Aside0.mk ((by rw [hg]; exact Nat.ne_of_gt (blk_lt (g := gb171) (o := .cells #[.int .u64 t166, .int .u32 t167, .int .i64 t168, .int .i64 t169] 25 (0, 0)) (by (with_reducible repeat (first | refine blk_drewN ?_ _ | refine blk_drew ?_ | refine blk_alloc ?_ _)); exact BK171.out)) : gb177 ≠ gb171)); clear BK165; clear BK171; clear HB; have BK165 := n0_; have BK171 := n1_; have HB := n2_; have BK177 := n3_; have GW177 := n4_; have GE177 := n5_; have NB165_177 := n6_; have NB177_165 := n7_; have NB171_177 := n8_; have NB177_171 := n9_; clear n0_ n1_ n2_ n3_ n4_ n5_ n6_ n7_ n8_ n9_; clear hb hbox hg; have hnb19 := NB177_165.out; have hnc19 := NB165_177.out; have hnb20 := NB177_171.out; have hnc20 := NB171_177.out; have hcz21_0 : w18.cell? ⟨gb177, 0, none⟩ = some (.int .u64 0) := (blk_cell BK177.out 0).trans rfl; have hcz21_1 : w18.cell? ⟨gb177, 1, none⟩ = some (.int .u32 0) := (blk_cell BK177.out 1).trans rfl; have hcz21_2 : w18.cell? ⟨gb177, 2, none⟩ = some (.int .i64 0) := (blk_cell BK177.out 2).trans rfl; have hcz21_3 : w18.cell? ⟨gb177, 3, none⟩ = some (.int .i64 0) := (blk_cell BK177.out 3).trans rfl; have hfz21_0 := blk_frozen BK177.out 0; have hfz21_1 := blk_frozen BK177.out 1; have hfz21_2 := blk_frozen BK177.out 2; have hfz21_3 := blk_frozen BK177.out 3; have hcz22_0 : w18.cell? ⟨gb165, 0, none⟩ = some (.int .u64 a1_0) := (blk_cell BK165.out 0).trans rfl; have hcz22_1 : w18.cell? ⟨gb165, 1, none⟩ = some (.int .u32 a1_1) := (blk_cell BK165.out 1).trans rfl; have hcz22_2 : w18.cell? ⟨gb165, 2, none⟩ = some (.int .i64 a1_2) := (blk_cell BK165.out 2).trans rfl; have hcz22_3 : w18.cell? ⟨gb165, 3, none⟩ = some (.int .i64 a1_3) := (blk_cell BK165.out 3).trans rfl; have hfz22_0 := blk_frozen BK165.out 0; have hfz22_1 := blk_frozen BK165.out 1; have hfz22_2 := blk_frozen BK165.out 2; have hfz22_3 := blk_frozen BK165.out 3) | ((with_reducible refine gate_callee (f := 11) rfl ?_); refine goesL_ (some 25) rfl rfl Try.func11 (by kernel_rfl) rfl #[.agg #[.int .u64 a1_0, .int .u32 a1_1, .int .i64 a1_2, .int .i64 a1_3]] rfl (by (try simp only [List.map_toArray, List.map_cons, List.map_nil]); first | done | rfl | (simp only [List.length_drop, List.length_take]; rfl)) ?_; (with_reducible refine (desc_Build.calls k a1_0 a1_1 a1_2 a1_3 t178 t179 _ A5.out).mono ?_); rintro e w23 ⟨rfl, hb⟩; refine ⟨_, rfl, ?_⟩; have n0_ := Aside0.mk (blk_below (g := gb165) (o := .cells #[.int .u64 a1_0, .int .u32 a1_1, .int .i64 a1_2, .int .i64 a1_3] 25 (0, 0)) (by (with_reducible repeat (first | refine blk_drewN ?_ _ | refine blk_drew ?_ | refine blk_alloc ?_ _)); refine blk_far ?_ NB165_177.out _; (with_reducible repeat (first | refine blk_drewN ?_ _ | refine blk_drew ?_ | refine blk_alloc ?_ _)); refine blk_far ?_ NB165_177.out _; (with_reducible repeat (first | refine blk_drewN ?_ _ | refine blk_drew ?_ | refine blk_alloc ?_ _)); refine blk_far ?_ NB165_177.out _; (with_reducible repeat (first | refine blk_drewN ?_ _ | refine blk_drew ?_ | refine blk_alloc ?_ _)); refine blk_far ?_ NB165_177.out _; (with_reducible repeat (first | refine blk_drewN ?_ _ | refine blk_drew ?_ | refine blk_alloc ?_ _)); exact BK165.out) hb); have n1_ := Aside0.mk (blk_below (g := gb171) (o := .cells #[.int .u64 t166, .int .u32 t167, .int .i64 t168, .int .i64 t169] 25 (0, 0)) (by (with_reducible repeat (first | refine blk_drewN ?_ _ | refine blk_drew ?_ | refine blk_alloc ?_ _)); refine blk_far ?_ NB171_177.out _; (with_reducible repeat (first | refine blk_drewN ?_ _ | refine blk_drew ?_ | refine blk_alloc ?_ _)); refine blk_far ?_ NB171_177.out _; (with_reducible repeat (first | refine blk_drewN ?_ _ | refine blk_drew ?_ | refine blk_alloc ?_ _)); refine blk_far ?_ NB171_177.out _; (with_reducible repeat (first | refine blk_drewN ?_ _ | refine blk_drew ?_ | refine blk_alloc ?_ _)); refine blk_far ?_ NB171_177.out _; (with_reducible repeat (first | refine blk_drewN ?_ _ | refine blk_drew ?_ | refine blk_alloc ?_ _)); exact BK171.out) hb); have n2_ := Aside0.mk (blk_below (g := gb177) (o := .cells #[.int .u64 t172, .int .u32 t173, .int .i64 t174, .int .i64 t175] 25 (0, 0)) (by (with_reducible repeat (first | refine blk_drewN ?_ _ | refine blk_drew ?_ | refine blk_alloc ?_ _)); refine blk_put (cs := #[.int .u64 t172, .int .u32 t173, .int .i64 t174, .int .i64 0]) ?_ 3 _ rfl; (with_reducible repeat (first | refine blk_drewN ?_ _ | refine blk_drew ?_ | refine blk_alloc ?_ _)); refine blk_put (cs := #[.int .u64 t172, .int .u32 t173, .int .i64 0, .int .i64 0]) ?_ 2 _ rfl; (with_reducible repeat (first | refine blk_drewN ?_ _ | refine blk_drew ?_ | refine blk_alloc ?_ _)); refine blk_put (cs := #[.int .u64 t172, .int .u32 0, .int .i64 0, .int .i64 0]) ?_ 1 _ rfl; (with_reducible repeat (first | refine blk_drewN ?_ _ | refine blk_drew ?_ | refine blk_alloc ?_ _)); refine blk_put (cs := #[.int .u64 0, .int .u32 0, .int .i64 0, .int .i64 0]) ?_ 0 _ rfl; (with_reducible repeat (first | refine blk_drewN ?_ _ | refine blk_drew ?_ | refine blk_alloc ?_ _)); exact BK177.out) hb); have n3_ := Aside0.mk (below_step (by repeat (first | (with_reducible first | exact HB.out | apply below_alloc | apply pw_below_drewN | apply below_drew1 | refine below_set ?_ GE165.out | refine below_set ?_ GE171.out | refine below_set ?_ GE177.out) | exact HB.out)) hb); clear BK165; clear BK171; clear BK177; clear HB; have BK165 := n0_; have BK171 := n1_; have BK177 := n2_; have HB := n3_; clear n0_ n1_ n2_ n3_; (try clear hb); (try clear hb2); (try clear hk); (try clear hi); have hcz24_0 : w23.cell? ⟨gb165, 0, none⟩ = some (.int .u64 a1_0) := (blk_cell BK165.out 0).trans rfl; have hcz24_1 : w23.cell? ⟨gb165, 1, none⟩ = some (.int .u32 a1_1) := (blk_cell BK165.out 1).trans rfl; have hcz24_2 : w23.cell? ⟨gb165, 2, none⟩ = some (.int .i64 a1_2) := (blk_cell BK165.out 2).trans rfl; have hcz24_3 : w23.cell? ⟨gb165, 3, none⟩ = some (.int .i64 a1_3) := (blk_cell BK165.out 3).trans rfl; have hfz24_0 := blk_frozen BK165.out 0; have hfz24_1 := blk_frozen BK165.out 1; have hfz24_2 := blk_frozen BK165.out 2; have hfz24_3 := blk_frozen BK165.out 3) | ((with_reducible refine gate_callee (f := 12) rfl ?_); refine goesL_ (some 30) rfl rfl Try.func12 (by kernel_rfl) rfl #[.agg #[.int .u64 a1_0, .int .u32 a1_1, .int .i64 a1_2, .int .i64 a1_3]] rfl (by (try simp only [List.map_toArray, List.map_cons, List.map_nil]); first | done | rfl | (simp only [List.length_drop, List.length_take]; rfl)) ?_; (with_reducible refine (aqueductref12_Build.calls k a1_0 a1_1 a1_2 a1_3 t180 t181 _ A6.out).mono ?_); rintro e w25 ⟨rfl, hb⟩; refine ⟨_, rfl, ?_⟩; have n0_ := Aside0.mk (blk_below (g := gb165) (o := .cells #[.int .u64 a1_0, .int .u32 a1_1, .int .i64 a1_2, .int .i64 a1_3] 25 (0, 0)) (by (with_reducible repeat (first | refine blk_drewN ?_ _ | refine blk_drew ?_ | refine blk_alloc ?_ _)); exact BK165.out) hb); have n1_ := Aside0.mk (blk_below (g := gb171) (o := .cells #[.int .u64 t166, .int .u32 t167, .int .i64 t168, .int .i64 t169] 25 (0, 0)) (by (with_reducible repeat (first | refine blk_drewN ?_ _ | refine blk_drew ?_ | refine blk_alloc ?_ _)); exact BK171.out) hb); have n2_ := Aside0.mk (blk_below (g := gb177) (o := .cells #[.int .u64 t172, .int .u32 t173, .int .i64 t174, .int .i64 t175] 25 (0, 0)) (by (with_reducible repeat (first | refine blk_drewN ?_ _ | refine blk_drew ?_ | refine blk_alloc ?_ _)); exact BK177.out) hb); have n3_ := Aside0.mk (below_step (by repeat (first | (with_reducible first | exact HB.out | apply below_alloc | apply pw_below_drewN | apply below_drew1 | refine below_set ?_ GE165.out | refine below_set ?_ GE171.out | refine below_set ?_ GE177.out) | exact HB.out)) hb); clear BK165; clear BK171; clear BK177; clear HB; have BK165 := n0_; have BK171 := n1_; have BK177 := n2_; have HB := n3_; clear n0_ n1_ n2_ n3_; (try clear hb); (try clear hb2); (try clear hk); (try clear hi)) | ((with_reducible refine gate_callee (f := 13) rfl ?_); refine goesL_ (some 33) rfl rfl Try.func13 (by kernel_rfl) rfl #[] rfl (by (try simp only [List.map_toArray, List.map_cons, List.map_nil]); first | done | rfl | (simp only [List.length_drop, List.length_take]; rfl)) ?_; (with_reducible refine (aqueductlaw12_fixed.calls k  true _ A7.out).mono ?_); rintro e w26 ⟨rfl, hb⟩; refine ⟨_, rfl, ?_⟩; have n0_ := Aside0.mk (blk_below (g := gb165) (o := .cells #[.int .u64 a1_0, .int .u32 a1_1, .int .i64 a1_2, .int .i64 a1_3] 25 (0, 0)) (by (with_reducible repeat (first | refine blk_drewN ?_ _ | refine blk_drew ?_ | refine blk_alloc ?_ _)); exact BK165.out) hb); have n1_ := Aside0.mk (blk_below (g := gb171) (o := .cells #[.int .u64 t166, .int .u32 t167, .int .i64 t168, .int .i64 t169] 25 (0, 0)) (by (with_reducible repeat (first | refine blk_drewN ?_ _ | refine blk_drew ?_ | refine blk_alloc ?_ _)); exact BK171.out) hb); have n2_ := Aside0.mk (blk_below (g := gb177) (o := .cells #[.int .u64 t172, .int .u32 t173, .int .i64 t174, .int .i64 t175] 25 (0, 0)) (by (with_reducible repeat (first | refine blk_drewN ?_ _ | refine blk_drew ?_ | refine blk_alloc ?_ _)); exact BK177.out) hb); have n3_ := Aside0.mk (below_step (by repeat (first | (with_reducible first | exact HB.out | apply below_alloc | apply pw_below_drewN | apply below_drew1 | refine below_set ?_ GE165.out | refine below_set ?_ GE171.out | refine below_set ?_ GE177.out) | exact HB.out)) hb); clear BK165; clear BK171; clear BK177; clear HB; have BK165 := n0_; have BK171 := n1_; have BK177 := n2_; have HB := n3_; clear n0_ n1_ n2_ n3_; (try clear hb); (try clear hb2); (try clear hk); (try clear hi); have hcz27_0 : w26.cell? ⟨gb171, 0, none⟩ = some (.int .u64 t166) := (blk_cell BK171.out 0).trans rfl; have hcz27_1 : w26.cell? ⟨gb171, 1, none⟩ = some (.int .u32 t167) := (blk_cell BK171.out 1).trans rfl; have hcz27_2 : w26.cell? ⟨gb171, 2, none⟩ = some (.int .i64 t168) := (blk_cell BK171.out 2).trans rfl; have hcz27_3 : w26.cell? ⟨gb171, 3, none⟩ = some (.int .i64 t169) := (blk_cell BK171.out 3).trans rfl; have hfz27_0 := blk_frozen BK171.out 0; have hfz27_1 := blk_frozen BK171.out 1; have hfz27_2 := blk_frozen BK171.out 2; have hfz27_3 := blk_frozen BK171.out 3; have hcz28_0 : w26.cell? ⟨gb177, 0, none⟩ = some (.int .u64 t172) := (blk_cell BK177.out 0).trans rfl; have hcz28_1 : w26.cell? ⟨gb177, 1, none⟩ = some (.int .u32 t173) := (blk_cell BK177.out 1).trans rfl; have hcz28_2 : w26.cell? ⟨gb177, 2, none⟩ = some (.int .i64 t174) := (blk_cell BK177.out 2).trans rfl; have hcz28_3 : w26.cell? ⟨gb177, 3, none⟩ = some (.int .i64 t175) := (blk_cell BK177.out 3).trans rfl; have hfz28_0 := blk_frozen BK177.out 0; have hfz28_1 := blk_frozen BK177.out 1; have hfz28_2 := blk_frozen BK177.out 2; have hfz28_3 := blk_frozen BK177.out 3))
          go_ret
          exact ⟨by first | rfl | (simp [errW_none, errW_some] <;> rfl) | (simp [*, errW_none, errW_some] <;> rfl) | (exfalso; simp_all), by repeat (first | (with_reducible first | exact HB.out | apply below_alloc | apply pw_below_drewN | apply below_drew1 | refine below_set ?_ GE165.out | refine below_set ?_ GE171.out | refine below_set ?_ GE177.out) | exact HB.out)⟩
        · rw [if_neg c11] at H
          have c11b0 : (t178.toList == t180.toList) = false := beq_eq_false_iff_ne.mpr c11
          have c11b1 : (t178.toList != t180.toList) = true := bne_iff_ne.mpr c11
          obtain rfl := Option.some.inj H
          exact absurd HR_.out (by decide)
      · rw [if_neg c10] at H
        have c10b0 : (t170 == t176) = false := beq_eq_false_iff_ne.mpr c10
        have c10b1 : (t170 != t176) = true := bne_iff_ne.mpr c10
        obtain rfl := Option.some.inj H
        exact absurd HR_.out (by decide)
    · rw [if_neg c9] at H
      have c9b0 : (t166 == t172 && (t167 == t173 && (t168 == t174 && (t169 == t175)))) = false := by simpa using c9
      (try (have c9b1 : decide (t166 = t172 && (t167 == t173 && (t168 == t174 && (t169 == t175)))) = false := by simpa using c9))
      (try (have c9b2 : (t166 == t172 && (t167 == t173 && (t168 == t174 && (t169 == t175)))) = false := by simpa using c9))
      (try (have c9b3 : ¬ (t166 = t172 && (t167 == t173 && (t168 == t174 && (t169 == t175)))) := by simpa using c9))
      clear c9
      obtain rfl := Option.some.inj H
      exact absurd HR_.out (by decide)
  · replace c8 := Bool.eq_false_iff.mpr c8
    subst c8
    have H1 : (some false) = some r := by rw [if_neg (show ¬ (false = true) by decide)] at H; exact H
    clear H
    have H := H1
    clear H1
    obtain rfl := Option.some.inj H
    exact absurd HR_.out (by decide)

/-! ### aqueductref12_Avail: function 15 -/
def aqueductref12_Avail.f (a0 : Int) (a1 : Bool) : Option (Bool) := if (((Int.tmod (wrap64 (Int.tdiv a0 128)) 2) == 1) == a1) = true then (some (((Int.tmod (wrap64 (Int.tdiv a0 32768)) 2) == 1) != a1)) else (some false)
set_option maxHeartbeats 8000000 in
set_option maxRecDepth 100000 in
theorem aqueductref12_Avail.calls (a0 : Int) (a1 : Bool) (r : Bool) (w : World) (h : aqueductref12_Avail.f a0 a1 = some r) :
    Calls Try.prog 15 #[.int .i64 a0, .bool a1] w fun e w' => e = .returned (.bool r) ∧ Drawn0 w w' := by
  have H : (if (((Int.tmod (wrap64 (Int.tdiv a0 128)) 2) == 1) == a1) = true then (some (((Int.tmod (wrap64 (Int.tdiv a0 32768)) 2) == 1) != a1)) else (some false)) = some r := h
  clear h
  by_cases c3 : (((Int.tmod (wrap64 (Int.tdiv a0 128)) 2) == 1) == a1) = true
  · rw [if_pos c3] at H
    have c3b0 : (((Int.tmod (wrap64 (Int.tdiv a0 128)) 2) == 1) == a1) = true := c3
    (try (have c3b1 : decide (((Int.tmod (wrap64 (Int.tdiv a0 128)) 2) == 1) = a1) = true := by simpa using c3))
    (try (have c3b2 : (((Int.tmod (wrap64 (Int.tdiv a0 128)) 2) == 1) == a1) = true := by simpa using c3))
    clear c3
    obtain rfl := Option.some.inj H
    go_enter Try.func15, Try.ntmps15
    go_wp2
    go_ret
    exact ⟨by first | rfl | (simp; done) | (simp [*]; done), by repeat (first | exact Drawn0.refl _ | apply Drawn0.step)⟩
  · rw [if_neg c3] at H
    have c3b0 : (((Int.tmod (wrap64 (Int.tdiv a0 128)) 2) == 1) == a1) = false := by simpa using c3
    (try (have c3b1 : decide (((Int.tmod (wrap64 (Int.tdiv a0 128)) 2) == 1) = a1) = false := by simpa using c3))
    (try (have c3b2 : (((Int.tmod (wrap64 (Int.tdiv a0 128)) 2) == 1) == a1) = false := by simpa using c3))
    (try (have c3b3 : ¬ (((Int.tmod (wrap64 (Int.tdiv a0 128)) 2) == 1) = a1) := by simpa using c3))
    clear c3
    obtain rfl := Option.some.inj H
    go_enter Try.func15, Try.ntmps15
    go_wp2
    go_ret
    exact ⟨by first | rfl | (simp; done) | (simp [*]; done), by repeat (first | exact Drawn0.refl _ | apply Drawn0.step)⟩

/-! ### aqueductref12_Used: function 17 -/
def aqueductref12_Used.f (a0 : Int) (a1 : Bool) : Option (Bool) := if (((Int.tmod (wrap64 (Int.tdiv a0 128)) 2) == 1) == a1) = true then (some (((Int.tmod (wrap64 (Int.tdiv a0 32768)) 2) == 1) == a1)) else (some false)
set_option maxHeartbeats 8000000 in
set_option maxRecDepth 100000 in
theorem aqueductref12_Used.calls (a0 : Int) (a1 : Bool) (r : Bool) (w : World) (h : aqueductref12_Used.f a0 a1 = some r) :
    Calls Try.prog 17 #[.int .i64 a0, .bool a1] w fun e w' => e = .returned (.bool r) ∧ Drawn0 w w' := by
  have H : (if (((Int.tmod (wrap64 (Int.tdiv a0 128)) 2) == 1) == a1) = true then (some (((Int.tmod (wrap64 (Int.tdiv a0 32768)) 2) == 1) == a1)) else (some false)) = some r := h
  clear h
  by_cases c3 : (((Int.tmod (wrap64 (Int.tdiv a0 128)) 2) == 1) == a1) = true
  · rw [if_pos c3] at H
    have c3b0 : (((Int.tmod (wrap64 (Int.tdiv a0 128)) 2) == 1) == a1) = true := c3
    (try (have c3b1 : decide (((Int.tmod (wrap64 (Int.tdiv a0 128)) 2) == 1) = a1) = true := by simpa using c3))
    (try (have c3b2 : (((Int.tmod (wrap64 (Int.tdiv a0 128)) 2) == 1) == a1) = true := by simpa using c3))
    clear c3
    obtain rfl := Option.some.inj H
    go_enter Try.func17, Try.ntmps17
    go_wp2
    go_ret
    exact ⟨by first | rfl | (simp; done) | (simp [*]; done), by repeat (first | exact Drawn0.refl _ | apply Drawn0.step)⟩
  · rw [if_neg c3] at H
    have c3b0 : (((Int.tmod (wrap64 (Int.tdiv a0 128)) 2) == 1) == a1) = false := by simpa using c3
    (try (have c3b1 : decide (((Int.tmod (wrap64 (Int.tdiv a0 128)) 2) == 1) = a1) = false := by simpa using c3))
    (try (have c3b2 : (((Int.tmod (wrap64 (Int.tdiv a0 128)) 2) == 1) == a1) = false := by simpa using c3))
    (try (have c3b3 : ¬ (((Int.tmod (wrap64 (Int.tdiv a0 128)) 2) == 1) = a1) := by simpa using c3))
    clear c3
    obtain rfl := Option.some.inj H
    go_enter Try.func17, Try.ntmps17
    go_wp2
    go_ret
    exact ⟨by first | rfl | (simp; done) | (simp [*]; done), by repeat (first | exact Drawn0.refl _ | apply Drawn0.step)⟩

/-! ### aqueductref12_Mark: function 19 -/
def aqueductref12_Mark.f (a0 : Int) (a1 : Bool) (a2 : Bool) : Option (Int) := if a1 = true then (if a2 = true then (some (wrap64 ((wrap64 ((wrap64 ((wrap64 (a0 - (wrap64 ((Int.tmod (wrap64 (Int.tdiv a0 128)) 2) * 128)))) - (wrap64 ((Int.tmod (wrap64 (Int.tdiv a0 32768)) 2) * 32768)))) + 128)) + 32768))) else (some (wrap64 ((wrap64 ((wrap64 (a0 - (wrap64 ((Int.tmod (wrap64 (Int.tdiv a0 128)) 2) * 128)))) - (wrap64 ((Int.tmod (wrap64 (Int.tdiv a0 32768)) 2) * 32768)))) + 128)))) else (if a2 = true then (some (wrap64 ((wrap64 (a0 - (wrap64 ((Int.tmod (wrap64 (Int.tdiv a0 128)) 2) * 128)))) - (wrap64 ((Int.tmod (wrap64 (Int.tdiv a0 32768)) 2) * 32768))))) else (some (wrap64 ((wrap64 ((wrap64 (a0 - (wrap64 ((Int.tmod (wrap64 (Int.tdiv a0 128)) 2) * 128)))) - (wrap64 ((Int.tmod (wrap64 (Int.tdiv a0 32768)) 2) * 32768)))) + 32768))))
set_option maxHeartbeats 8000000 in
set_option maxRecDepth 100000 in
theorem aqueductref12_Mark.calls (a0 : Int) (a1 : Bool) (a2 : Bool) (r : Int) (w : World) (h : aqueductref12_Mark.f a0 a1 a2 = some r) :
    Calls Try.prog 19 #[.int .i64 a0, .bool a1, .bool a2] w fun e w' => e = .returned (.int .i64 r) ∧ Drawn0 w w' := by
  have H : (if a1 = true then (if a2 = true then (some (wrap64 ((wrap64 ((wrap64 ((wrap64 (a0 - (wrap64 ((Int.tmod (wrap64 (Int.tdiv a0 128)) 2) * 128)))) - (wrap64 ((Int.tmod (wrap64 (Int.tdiv a0 32768)) 2) * 32768)))) + 128)) + 32768))) else (some (wrap64 ((wrap64 ((wrap64 (a0 - (wrap64 ((Int.tmod (wrap64 (Int.tdiv a0 128)) 2) * 128)))) - (wrap64 ((Int.tmod (wrap64 (Int.tdiv a0 32768)) 2) * 32768)))) + 128)))) else (if a2 = true then (some (wrap64 ((wrap64 (a0 - (wrap64 ((Int.tmod (wrap64 (Int.tdiv a0 128)) 2) * 128)))) - (wrap64 ((Int.tmod (wrap64 (Int.tdiv a0 32768)) 2) * 32768))))) else (some (wrap64 ((wrap64 ((wrap64 (a0 - (wrap64 ((Int.tmod (wrap64 (Int.tdiv a0 128)) 2) * 128)))) - (wrap64 ((Int.tmod (wrap64 (Int.tdiv a0 32768)) 2) * 32768)))) + 32768))))) = some r := h
  clear h
  by_cases c4 : a1 = true
  · subst c4
    have H1 : (if a2 = true then (some (wrap64 ((wrap64 ((wrap64 ((wrap64 (a0 - (wrap64 ((Int.tmod (wrap64 (Int.tdiv a0 128)) 2) * 128)))) - (wrap64 ((Int.tmod (wrap64 (Int.tdiv a0 32768)) 2) * 32768)))) + 128)) + 32768))) else (some (wrap64 ((wrap64 ((wrap64 (a0 - (wrap64 ((Int.tmod (wrap64 (Int.tdiv a0 128)) 2) * 128)))) - (wrap64 ((Int.tmod (wrap64 (Int.tdiv a0 32768)) 2) * 32768)))) + 128)))) = some r := by rw [if_pos rfl] at H; exact H
    clear H
    have H := H1
    clear H1
    by_cases c5 : a2 = true
    · subst c5
      have H1 : (some (wrap64 ((wrap64 ((wrap64 ((wrap64 (a0 - (wrap64 ((Int.tmod (wrap64 (Int.tdiv a0 128)) 2) * 128)))) - (wrap64 ((Int.tmod (wrap64 (Int.tdiv a0 32768)) 2) * 32768)))) + 128)) + 32768))) = some r := by rw [if_pos rfl] at H; exact H
      clear H
      have H := H1
      clear H1
      obtain rfl := Option.some.inj H
      go_enter Try.func19, Try.ntmps19
      go_wp2
      go_ret
      exact ⟨by first | rfl | (simp; done) | (simp [*]; done), by repeat (first | exact Drawn0.refl _ | apply Drawn0.step)⟩
    · replace c5 := Bool.eq_false_iff.mpr c5
      subst c5
      have H1 : (some (wrap64 ((wrap64 ((wrap64 (a0 - (wrap64 ((Int.tmod (wrap64 (Int.tdiv a0 128)) 2) * 128)))) - (wrap64 ((Int.tmod (wrap64 (Int.tdiv a0 32768)) 2) * 32768)))) + 128))) = some r := by rw [if_neg (show ¬ (false = true) by decide)] at H; exact H
      clear H
      have H := H1
      clear H1
      obtain rfl := Option.some.inj H
      go_enter Try.func19, Try.ntmps19
      go_wp2
      go_ret
      exact ⟨by first | rfl | (simp; done) | (simp [*]; done), by repeat (first | exact Drawn0.refl _ | apply Drawn0.step)⟩
  · replace c4 := Bool.eq_false_iff.mpr c4
    subst c4
    have H1 : (if a2 = true then (some (wrap64 ((wrap64 (a0 - (wrap64 ((Int.tmod (wrap64 (Int.tdiv a0 128)) 2) * 128)))) - (wrap64 ((Int.tmod (wrap64 (Int.tdiv a0 32768)) 2) * 32768))))) else (some (wrap64 ((wrap64 ((wrap64 (a0 - (wrap64 ((Int.tmod (wrap64 (Int.tdiv a0 128)) 2) * 128)))) - (wrap64 ((Int.tmod (wrap64 (Int.tdiv a0 32768)) 2) * 32768)))) + 32768)))) = some r := by rw [if_neg (show ¬ (false = true) by decide)] at H; exact H
    clear H
    have H := H1
    clear H1
    by_cases c6 : a2 = true
    · subst c6
      have H1 : (some (wrap64 ((wrap64 (a0 - (wrap64 ((Int.tmod (wrap64 (Int.tdiv a0 128)) 2) * 128)))) - (wrap64 ((Int.tmod (wrap64 (Int.tdiv a0 32768)) 2) * 32768))))) = some r := by rw [if_pos rfl] at H; exact H
      clear H
      have H := H1
      clear H1
      obtain rfl := Option.some.inj H
      go_enter Try.func19, Try.ntmps19
      go_wp2
      go_ret
      exact ⟨by first | rfl | (simp; done) | (simp [*]; done), by repeat (first | exact Drawn0.refl _ | apply Drawn0.step)⟩
    · replace c6 := Bool.eq_false_iff.mpr c6
      subst c6
      have H1 : (some (wrap64 ((wrap64 ((wrap64 (a0 - (wrap64 ((Int.tmod (wrap64 (Int.tdiv a0 128)) 2) * 128)))) - (wrap64 ((Int.tmod (wrap64 (Int.tdiv a0 32768)) 2) * 32768)))) + 32768))) = some r := by rw [if_neg (show ¬ (false = true) by decide)] at H; exact H
      clear H
      have H := H1
      clear H1
      obtain rfl := Option.some.inj H
      go_enter Try.func19, Try.ntmps19
      go_wp2
      go_ret
      exact ⟨by first | rfl | (simp; done) | (simp [*]; done), by repeat (first | exact Drawn0.refl _ | apply Drawn0.step)⟩

end Go.Proofs.Ytehaffldjnmblaa.P
