/- What functions of the program compute, each with the walk that shows it: by a program (a turned copy of the kit's print; wip/myprint.py). -/
import Derived.Test.YtnckogdplcijiaaPx0
import Derived.Test.YtnckogdplcijiaaPx1
import Derived.Test.YtnckogdplcijiaaPx3
import Derived.Test.YtnckogdplcijiaaPx4
import Derived.Test.YtnckogdplcijiaaHParse
namespace Go.Proofs.Ytnckogdplcijiaa.P
open Go.RowKit Go.Proofs.YtnckogdplcijiaaW.PrintWords Go.Proofs.YtnckogdplcijiaaW.PrintLast Go.Proofs.YtnckogdplcijiaaW.PrintMore
attribute [local go_sem] max2_int min2_int max_two min_two max_three min_three max_four min_four   -- for this text's walks alone
set_option linter.unusedVariables false
set_option linter.unusedSimpArgs false

/-! ### filter_Admits: function 13 -/
def filter_Admits.j0 : Nat → Bool → ByteArray → Bool → Bool → Bool → Bool → Bool → Bool → List ByteArray → List ByteArray → Bool → List Int → ByteArray → ByteArray → Int → Int → Int → ByteArray → Option (Bool)
  | 0, _, _, _, _, _, _, _, _, _, _, _, _, _, _, _, _, _, _ => none
  | k + 1, x12, x126000, x126001, x126002, x126003, x126004, x126005, x126006, x126007, x126008, x126009, x126010, x134000, x134001, x134002, x134003, x134004, x134005 => if x12 = true then (some false) else (if x126001 = true then (some true) else ((addr_Kind.f x134000).bind fun t135 => (if t135 = 3 then (some (!x126006)) else (if t135 = 2 then (if x126003 = true then (some true) else (if x126005 = true then (some false) else ((slices_Contains_string_string.f k x126008 x134000).bind fun t136 => (some t136)))) else (if x126002 = true then (some true) else (if x126004 = true then (some false) else (if x134000.toList = x126000.toList then (some true) else ((slices_Contains_string_string.f k x126007 x134000).bind fun t137 => (some t137)))))))))
def filter_Admits.f (k : Nat) (a0_0 : ByteArray) (a0_1 : Bool) (a0_2 : Bool) (a0_3 : Bool) (a0_4 : Bool) (a0_5 : Bool) (a0_6 : Bool) (l0_7 : List ByteArray) (l0_8 : List ByteArray) (a0_9 : Bool) (l0_10 : List Int) (a1 : ByteArray) : Option (Bool) := (eth_Parse.f a1).bind fun bt126 => (if bt126.2.2.2.2.2.2 = 0 then (if a0_9 = true then (if bt126.2.2.1 ≥ 0 then ((slices_Contains_int_int.f k l0_10 bt126.2.2.1).bind fun t134 => (filter_Admits.j0 k (!t134) a0_0 a0_1 a0_2 a0_3 a0_4 a0_5 a0_6 l0_7 l0_8 a0_9 l0_10 bt126.1 bt126.2.1 bt126.2.2.1 bt126.2.2.2.1 bt126.2.2.2.2.1 bt126.2.2.2.2.2.1)) else (filter_Admits.j0 k false a0_0 a0_1 a0_2 a0_3 a0_4 a0_5 a0_6 l0_7 l0_8 a0_9 l0_10 bt126.1 bt126.2.1 bt126.2.2.1 bt126.2.2.2.1 bt126.2.2.2.2.1 bt126.2.2.2.2.2.1)) else (filter_Admits.j0 k false a0_0 a0_1 a0_2 a0_3 a0_4 a0_5 a0_6 l0_7 l0_8 a0_9 l0_10 bt126.1 bt126.2.1 bt126.2.2.1 bt126.2.2.2.1 bt126.2.2.2.2.1 bt126.2.2.2.2.2.1)) else (filter_Admits.j0 k true a0_0 a0_1 a0_2 a0_3 a0_4 a0_5 a0_6 l0_7 l0_8 a0_9 l0_10 bt126.1 bt126.2.1 bt126.2.2.1 bt126.2.2.2.1 bt126.2.2.2.2.1 bt126.2.2.2.2.2.1))
theorem filter_Admits.mono_l : ∀ k, (∀ y0 y1 y2 y3 y4 y5 y6 y7 y8 y9 y10 y11 y12 y13 y14 y15 y16 y17, LeO (filter_Admits.j0 k y0 y1 y2 y3 y4 y5 y6 y7 y8 y9 y10 y11 y12 y13 y14 y15 y16 y17) (filter_Admits.j0 (k + 1) y0 y1 y2 y3 y4 y5 y6 y7 y8 y9 y10 y11 y12 y13 y14 y15 y16 y17))
  | 0 => fun _ _ _ _ _ _ _ _ _ _ _ _ _ _ _ _ _ _ r h => by simp [filter_Admits.j0] at h
  | k + 1 => by
    have ih0 := filter_Admits.mono_l k
    · intro y0 y1 y2 y3 y4 y5 y6 y7 y8 y9 y10 y11 y12 y13 y14 y15 y16 y17
      unfold filter_Admits.j0
      repeat' first
      | (with_reducible exact ih0 _ _ _ _ _ _ _ _ _ _ _ _ _ _ _ _ _ _)
      | (with_reducible exact slices_Contains_int_int.mono _ _ _)
      | (with_reducible exact slices_Contains_string_string.mono _ _ _)
      | (with_reducible exact LeO.refl _)
      | (with_reducible exact LeO.none _)
      | (with_reducible refine LeO.ite ?_ ?_)
      | (with_reducible refine LeO.bind ?_ (fun _ => ?_))
      | exact ih0 _ _ _ _ _ _ _ _ _ _ _ _ _ _ _ _ _ _
      | exact slices_Contains_int_int.mono _ _ _
      | exact slices_Contains_string_string.mono _ _ _
      | exact LeO.none _
      | refine LeO.ite ?_ ?_
      | refine LeO.bind ?_ (fun _ => ?_)
theorem filter_Admits.mono : ∀ a0 a1 a2 a3 a4 a5 a6 a7 a8 a9 a10 a11 k, LeO (filter_Admits.f k a0 a1 a2 a3 a4 a5 a6 a7 a8 a9 a10 a11) (filter_Admits.f (k + 1) a0 a1 a2 a3 a4 a5 a6 a7 a8 a9 a10 a11) := by
  intro a0 a1 a2 a3 a4 a5 a6 a7 a8 a9 a10 a11 k
  have ih0 := filter_Admits.mono_l k
  unfold filter_Admits.f
  repeat' first
      | (with_reducible exact ih0 _ _ _ _ _ _ _ _ _ _ _ _ _ _ _ _ _ _)
      | (with_reducible exact slices_Contains_int_int.mono _ _ _)
      | (with_reducible exact slices_Contains_string_string.mono _ _ _)
      | (with_reducible exact LeO.refl _)
      | (with_reducible exact LeO.none _)
      | (with_reducible refine LeO.ite ?_ ?_)
      | (with_reducible refine LeO.bind ?_ (fun _ => ?_))
      | exact ih0 _ _ _ _ _ _ _ _ _ _ _ _ _ _ _ _ _ _
      | exact slices_Contains_int_int.mono _ _ _
      | exact slices_Contains_string_string.mono _ _ _
      | exact LeO.none _
      | refine LeO.ite ?_ ?_
      | refine LeO.bind ?_ (fun _ => ?_)
set_option maxHeartbeats 8000000 in
set_option maxRecDepth 100000 in
theorem filter_Admits.calls (k : Nat) (a0_0 : ByteArray) (a0_1 : Bool) (a0_2 : Bool) (a0_3 : Bool) (a0_4 : Bool) (a0_5 : Bool) (a0_6 : Bool) (A0_7 : Option Addr) (c0_7 : Nat) (l0_7 : List ByteArray) (A0_8 : Option Addr) (c0_8 : Nat) (l0_8 : List ByteArray) (a0_9 : Bool) (A0_10 : Option Addr) (c0_10 : Nat) (l0_10 : List Int) (a1 : ByteArray) (r : Bool) (w : World) (hr0_7 : Kd.C Kd.string w A0_7 l0_7.length l0_7) (hc0_7 : l0_7.length ≤ c0_7) (hr0_8 : Kd.C Kd.string w A0_8 l0_8.length l0_8) (hc0_8 : l0_8.length ≤ c0_8) (hr0_10 : Kd.C (Kd.int .i64) w A0_10 l0_10.length l0_10) (hc0_10 : l0_10.length ≤ c0_10) (h : filter_Admits.f k a0_0 a0_1 a0_2 a0_3 a0_4 a0_5 a0_6 l0_7 l0_8 a0_9 l0_10 a1 = some r) :
    Calls Try.prog 13 #[.agg #[.string a0_0, .bool a0_1, .bool a0_2, .bool a0_3, .bool a0_4, .bool a0_5, .bool a0_6, .slice A0_7 l0_7.length c0_7, .slice A0_8 l0_8.length c0_8, .bool a0_9, .slice A0_10 l0_10.length c0_10], .string a1] w fun e w' => e = .returned (.bool r) ∧ Below w.heap.size w w' := by
  have hu25 := Try.underlying25
  have hu52 := Try.underlying52
  have HR0_7 := Aside0.mk hr0_7
  have HC0_7 := Aside0.mk hc0_7
  clear hr0_7 hc0_7
  have HR0_8 := Aside0.mk hr0_8
  have HC0_8 := Aside0.mk hc0_8
  clear hr0_8 hc0_8
  have HR0_10 := Aside0.mk hr0_10
  have HC0_10 := Aside0.mk hc0_10
  clear hr0_10 hc0_10
  have HB := Aside0.mk (Below.refl w.heap.size w)
  have H : ((eth_Parse.f a1).bind fun bt126 => (if bt126.2.2.2.2.2.2 = 0 then (if a0_9 = true then (if bt126.2.2.1 ≥ 0 then ((slices_Contains_int_int.f k l0_10 bt126.2.2.1).bind fun t134 => (filter_Admits.j0 k (!t134) a0_0 a0_1 a0_2 a0_3 a0_4 a0_5 a0_6 l0_7 l0_8 a0_9 l0_10 bt126.1 bt126.2.1 bt126.2.2.1 bt126.2.2.2.1 bt126.2.2.2.2.1 bt126.2.2.2.2.2.1)) else (filter_Admits.j0 k false a0_0 a0_1 a0_2 a0_3 a0_4 a0_5 a0_6 l0_7 l0_8 a0_9 l0_10 bt126.1 bt126.2.1 bt126.2.2.1 bt126.2.2.2.1 bt126.2.2.2.2.1 bt126.2.2.2.2.2.1)) else (filter_Admits.j0 k false a0_0 a0_1 a0_2 a0_3 a0_4 a0_5 a0_6 l0_7 l0_8 a0_9 l0_10 bt126.1 bt126.2.1 bt126.2.2.1 bt126.2.2.2.1 bt126.2.2.2.2.1 bt126.2.2.2.2.2.1)) else (filter_Admits.j0 k true a0_0 a0_1 a0_2 a0_3 a0_4 a0_5 a0_6 l0_7 l0_8 a0_9 l0_10 bt126.1 bt126.2.1 bt126.2.2.1 bt126.2.2.2.1 bt126.2.2.2.2.1 bt126.2.2.2.2.2.1))) = some r := h
  clear h
  replace H := Option.bind_eq_some_iff.mp H
  obtain ⟨⟨t126, t127, t128, t129, t130, t131, t132⟩, A30, H⟩ := H
  replace H : (if t132 = 0 then (if a0_9 = true then (if t128 ≥ 0 then ((slices_Contains_int_int.f k l0_10 t128).bind fun t134 => (filter_Admits.j0 k (!t134) a0_0 a0_1 a0_2 a0_3 a0_4 a0_5 a0_6 l0_7 l0_8 a0_9 l0_10 t126 t127 t128 t129 t130 t131)) else (filter_Admits.j0 k false a0_0 a0_1 a0_2 a0_3 a0_4 a0_5 a0_6 l0_7 l0_8 a0_9 l0_10 t126 t127 t128 t129 t130 t131)) else (filter_Admits.j0 k false a0_0 a0_1 a0_2 a0_3 a0_4 a0_5 a0_6 l0_7 l0_8 a0_9 l0_10 t126 t127 t128 t129 t130 t131)) else (filter_Admits.j0 k true a0_0 a0_1 a0_2 a0_3 a0_4 a0_5 a0_6 l0_7 l0_8 a0_9 l0_10 t126 t127 t128 t129 t130 t131)) = some r := H
  have A3 := Aside0.mk A30
  clear A30
  have HC4 := Aside0.mk H
  clear H
  go_enter Try.func13, Try.ntmps13
  go_upto_region 2 with (first | ((with_reducible refine gate_dst (N := 2) rfl ?_); refine box_event ?hg (N := 2) ?hd (cs := #[.string a0_0, .bool a0_1, .bool a0_2, .bool a0_3, .bool a0_4, .bool a0_5, .bool a0_6, .slice A0_7 l0_7.length c0_7, .slice A0_8 l0_8.length c0_8, .bool a0_9, .slice A0_10 l0_10.length c0_10]) (t := 25) ?hr ?_; (case hd => rfl); (case hg => rfl); (case hr => first | (go_simp; done) | (go_simp; rfl)); intro gb125 hg w5 hbox hb; have n0_ := Aside0.mk (below_step (by repeat (first | (with_reducible first | exact HB.out | apply below_alloc | apply pw_below_drewN | apply below_drew1) | exact HB.out)) hb); have n1_ := Aside0.mk (hbox); have n2_ := Aside0.mk ((by rw [hg]; exact (below_size (by repeat (first | (with_reducible first | exact HB.out | apply below_alloc | apply pw_below_drewN | apply below_drew1) | exact HB.out))) : w.heap.size ≤ gb125)); have n3_ := Aside0.mk ((by rw [hg]; exact (below_size (by repeat (first | (with_reducible first | exact HB.out | apply below_alloc | apply pw_below_drewN | apply below_drew1) | exact HB.out))) : w.heap.size ≤ gb125)); clear HB; have HB := n0_; have BK125 := n1_; have GW125 := n2_; have GE125 := n3_; clear n0_ n1_ n2_ n3_; clear hb hbox hg) | ((with_reducible refine gate_callee (f := 28) rfl ?_); refine goesL_ (some 9) rfl rfl Try.func28 (by kernel_rfl) rfl #[.string a1] rfl (by (try simp only [List.map_toArray, List.map_cons, List.map_nil]); first | done | rfl | (simp only [List.length_drop, List.length_take]; rfl)) ?_; (with_reducible refine (eth_Parse.calls a1 t126 t127 t128 t129 t130 t131 t132 _ A3.out).mono ?_); rintro e w6 ⟨rfl, hb⟩; refine ⟨_, rfl, ?_⟩; have n0_ := Aside0.mk (blk_below (g := gb125) (o := .cells #[.string a0_0, .bool a0_1, .bool a0_2, .bool a0_3, .bool a0_4, .bool a0_5, .bool a0_6, .slice A0_7 l0_7.length c0_7, .slice A0_8 l0_8.length c0_8, .bool a0_9, .slice A0_10 l0_10.length c0_10] 25 (0, 0)) (by (with_reducible repeat (first | refine blk_drewN ?_ _ | refine blk_drew ?_ | refine blk_alloc ?_ _)); exact BK125.out) hb); have n1_ := Aside0.mk (below_step (by repeat (first | (with_reducible first | exact HB.out | apply below_alloc | apply pw_below_drewN | apply below_drew1 | refine below_set ?_ GE125.out) | exact HB.out)) hb); clear BK125; clear HB; have BK125 := n0_; have HB := n1_; clear n0_ n1_; (try clear hb); (try clear hb2); (try clear hk); (try clear hi)) | ((with_reducible refine gate_dst (N := 5) rfl ?_); refine box_event ?hg (N := 5) ?hd (cs := #[.string (⟨#[]⟩ : ByteArray), .string (⟨#[]⟩ : ByteArray), .int .i64 0, .int .i64 0, .int .i64 0, .string (⟨#[]⟩ : ByteArray)]) (t := 52) ?hr ?_; (case hd => rfl); (case hg => rfl); (case hr => first | (go_simp; done) | (go_simp; rfl)); intro gb133 hg w7 hbox hb; have n0_ := Aside0.mk (blk_below (g := gb125) (o := .cells #[.string a0_0, .bool a0_1, .bool a0_2, .bool a0_3, .bool a0_4, .bool a0_5, .bool a0_6, .slice A0_7 l0_7.length c0_7, .slice A0_8 l0_8.length c0_8, .bool a0_9, .slice A0_10 l0_10.length c0_10] 25 (0, 0)) (by (with_reducible repeat (first | refine blk_drewN ?_ _ | refine blk_drew ?_ | refine blk_alloc ?_ _)); exact BK125.out) hb); have n1_ := Aside0.mk (below_step (by repeat (first | (with_reducible first | exact HB.out | apply below_alloc | apply pw_below_drewN | apply below_drew1 | refine below_set ?_ GE125.out) | exact HB.out)) hb); have n2_ := Aside0.mk (hbox); have n3_ := Aside0.mk ((by rw [hg]; exact (below_size (by repeat (first | (with_reducible first | exact HB.out | apply below_alloc | apply pw_below_drewN | apply below_drew1 | refine below_set ?_ GE125.out) | exact HB.out))) : w.heap.size ≤ gb133)); have n4_ := Aside0.mk ((by rw [hg]; exact (below_size (by repeat (first | (with_reducible first | exact HB.out | apply below_alloc | apply pw_below_drewN | apply below_drew1 | refine below_set ?_ GE125.out) | exact HB.out))) : w.heap.size ≤ gb133)); have n5_ := Aside0.mk ((by rw [hg]; exact Nat.ne_of_lt (blk_lt (g := gb125) (o := .cells #[.string a0_0, .bool a0_1, .bool a0_2, .bool a0_3, .bool a0_4, .bool a0_5, .bool a0_6, .slice A0_7 l0_7.length c0_7, .slice A0_8 l0_8.length c0_8, .bool a0_9, .slice A0_10 l0_10.length c0_10] 25 (0, 0)) (by (with_reducible repeat (first | refine blk_drewN ?_ _ | refine blk_drew ?_ | refine blk_alloc ?_ _)); exact BK125.out)) : gb125 ≠ gb133)); have n6_ := Aside0.mk ((by rw [hg]; exact Nat.ne_of_gt (blk_lt (g := gb125) (o := .cells #[.string a0_0, .bool a0_1, .bool a0_2, .bool a0_3, .bool a0_4, .bool a0_5, .bool a0_6, .slice A0_7 l0_7.length c0_7, .slice A0_8 l0_8.length c0_8, .bool a0_9, .slice A0_10 l0_10.length c0_10] 25 (0, 0)) (by (with_reducible repeat (first | refine blk_drewN ?_ _ | refine blk_drew ?_ | refine blk_alloc ?_ _)); exact BK125.out)) : gb133 ≠ gb125)); clear BK125; clear HB; have BK125 := n0_; have HB := n1_; have BK133 := n2_; have GW133 := n3_; have GE133 := n4_; have NB125_133 := n5_; have NB133_125 := n6_; clear n0_ n1_ n2_ n3_ n4_ n5_ n6_; clear hb hbox hg; have hnb8 := NB133_125.out; have hnc8 := NB125_133.out; have hcz9_0 : w7.cell? ⟨gb133, 0, none⟩ = some (.string (⟨#[]⟩ : ByteArray)) := (blk_cell BK133.out 0).trans rfl; have hcz9_1 : w7.cell? ⟨gb133, 1, none⟩ = some (.string (⟨#[]⟩ : ByteArray)) := (blk_cell BK133.out 1).trans rfl; have hcz9_2 : w7.cell? ⟨gb133, 2, none⟩ = some (.int .i64 0) := (blk_cell BK133.out 2).trans rfl; have hcz9_3 : w7.cell? ⟨gb133, 3, none⟩ = some (.int .i64 0) := (blk_cell BK133.out 3).trans rfl; have hcz9_4 : w7.cell? ⟨gb133, 4, none⟩ = some (.int .i64 0) := (blk_cell BK133.out 4).trans rfl; have hcz9_5 : w7.cell? ⟨gb133, 5, none⟩ = some (.string (⟨#[]⟩ : ByteArray)) := (blk_cell BK133.out 5).trans rfl; have hfz9_0 := blk_frozen BK133.out 0; have hfz9_1 := blk_frozen BK133.out 1; have hfz9_2 := blk_frozen BK133.out 2; have hfz9_3 := blk_frozen BK133.out 3; have hfz9_4 := blk_frozen BK133.out 4; have hfz9_5 := blk_frozen BK133.out 5))
  (try simp only [Act.put, List.setIfInBounds_toArray, List.set_cons_zero, List.set_cons_succ])
  go_cut [12] (fun v12 wc => ∃ (kq : Nat) (x12_3 : Bool), v12 = .bool x12_3 ∧ Aside0 (filter_Admits.j0 kq x12_3 a0_0 a0_1 a0_2 a0_3 a0_4 a0_5 a0_6 l0_7 l0_8 a0_9 l0_10 t126 t127 t128 t129 t130 t131 = some r) ∧ Aside0 (kq ≤ k) ∧ Aside0 (wc.heap[gb125]? = some (.cells #[.string a0_0, .bool a0_1, .bool a0_2, .bool a0_3, .bool a0_4, .bool a0_5, .bool a0_6, (.slice A0_7 l0_7.length c0_7), (.slice A0_8 l0_8.length c0_8), .bool a0_9, (.slice A0_10 l0_10.length c0_10)] 25 (0, 0))) ∧ Aside0 (wc.heap[gb133]? = some (.cells #[.string t126, .string t127, .int .i64 t128, .int .i64 t129, .int .i64 t130, .string t131] 52 (0, 0))) ∧ Aside0 (Below w.heap.size w wc))
  case first =>
    have H := HC4.out
    clear HC4
    by_cases c10 : t132 = 0
    · rw [if_pos c10] at H
      have c10b0 : (t132 == 0) = true := beq_iff_eq.mpr c10
      have c10b1 : (t132 != 0) = false := bne_eq_false_iff_eq.mpr c10
      clear c10
      (first | rw [c10b0] | (simp only [i64_w, i32_w]; rw [c10b0]) | skip)
      by_cases c11 : a0_9 = true
      · subst c11
        have H1 : (if t128 ≥ 0 then ((slices_Contains_int_int.f k l0_10 t128).bind fun t134 => (filter_Admits.j0 k (!t134) a0_0 a0_1 a0_2 a0_3 a0_4 a0_5 a0_6 l0_7 l0_8 true l0_10 t126 t127 t128 t129 t130 t131)) else (filter_Admits.j0 k false a0_0 a0_1 a0_2 a0_3 a0_4 a0_5 a0_6 l0_7 l0_8 true l0_10 t126 t127 t128 t129 t130 t131)) = some r := by rw [if_pos rfl] at H; exact H
        clear H
        have H := H1
        clear H1
        by_cases c12 : t128 ≥ 0
        · rw [if_pos c12] at H
          have c12b0 : decide (0 ≤ t128) = true := decide_eq_true c12
          clear c12
          replace H := Option.bind_eq_some_iff.mp H
          obtain ⟨t134, A130, H⟩ := H
          replace H : (filter_Admits.j0 k (!t134) a0_0 a0_1 a0_2 a0_3 a0_4 a0_5 a0_6 l0_7 l0_8 true l0_10 t126 t127 t128 t129 t130 t131) = some r := H
          have A13 := Aside0.mk A130
          clear A130
          have H' := Aside0.mk H
          clear H
          have hnb14 := NB125_133.out
          have hnc14 := NB133_125.out
          have hcz15_0 : w7.cell? ⟨gb125, 0, none⟩ = some (.string a0_0) := (blk_cell BK125.out 0).trans rfl
          have hcz15_1 : w7.cell? ⟨gb125, 1, none⟩ = some (.bool a0_1) := (blk_cell BK125.out 1).trans rfl
          have hcz15_2 : w7.cell? ⟨gb125, 2, none⟩ = some (.bool a0_2) := (blk_cell BK125.out 2).trans rfl
          have hcz15_3 : w7.cell? ⟨gb125, 3, none⟩ = some (.bool a0_3) := (blk_cell BK125.out 3).trans rfl
          have hcz15_4 : w7.cell? ⟨gb125, 4, none⟩ = some (.bool a0_4) := (blk_cell BK125.out 4).trans rfl
          have hcz15_5 : w7.cell? ⟨gb125, 5, none⟩ = some (.bool a0_5) := (blk_cell BK125.out 5).trans rfl
          have hcz15_6 : w7.cell? ⟨gb125, 6, none⟩ = some (.bool a0_6) := (blk_cell BK125.out 6).trans rfl
          have hcz15_7 : w7.cell? ⟨gb125, 7, none⟩ = some (.slice A0_7 l0_7.length c0_7) := (blk_cell BK125.out 7).trans rfl
          have hcz15_8 : w7.cell? ⟨gb125, 8, none⟩ = some (.slice A0_8 l0_8.length c0_8) := (blk_cell BK125.out 8).trans rfl
          have hcz15_9 : w7.cell? ⟨gb125, 9, none⟩ = some (.bool true) := (blk_cell BK125.out 9).trans rfl
          have hcz15_10 : w7.cell? ⟨gb125, 10, none⟩ = some (.slice A0_10 l0_10.length c0_10) := (blk_cell BK125.out 10).trans rfl
          have hfz15_0 := blk_frozen BK125.out 0
          have hfz15_1 := blk_frozen BK125.out 1
          have hfz15_2 := blk_frozen BK125.out 2
          have hfz15_3 := blk_frozen BK125.out 3
          have hfz15_4 := blk_frozen BK125.out 4
          have hfz15_5 := blk_frozen BK125.out 5
          have hfz15_6 := blk_frozen BK125.out 6
          have hfz15_7 := blk_frozen BK125.out 7
          have hfz15_8 := blk_frozen BK125.out 8
          have hfz15_9 := blk_frozen BK125.out 9
          have hfz15_10 := blk_frozen BK125.out 10
          have hcz16_0 : w7.cell? ⟨gb133, 0, none⟩ = some (.string (⟨#[]⟩ : ByteArray)) := (blk_cell BK133.out 0).trans rfl
          have hcz16_1 : w7.cell? ⟨gb133, 1, none⟩ = some (.string (⟨#[]⟩ : ByteArray)) := (blk_cell BK133.out 1).trans rfl
          have hcz16_2 : w7.cell? ⟨gb133, 2, none⟩ = some (.int .i64 0) := (blk_cell BK133.out 2).trans rfl
          have hcz16_3 : w7.cell? ⟨gb133, 3, none⟩ = some (.int .i64 0) := (blk_cell BK133.out 3).trans rfl
          have hcz16_4 : w7.cell? ⟨gb133, 4, none⟩ = some (.int .i64 0) := (blk_cell BK133.out 4).trans rfl
          have hcz16_5 : w7.cell? ⟨gb133, 5, none⟩ = some (.string (⟨#[]⟩ : ByteArray)) := (blk_cell BK133.out 5).trans rfl
          have hfz16_0 := blk_frozen BK133.out 0
          have hfz16_1 := blk_frozen BK133.out 1
          have hfz16_2 := blk_frozen BK133.out 2
          have hfz16_3 := blk_frozen BK133.out 3
          have hfz16_4 := blk_frozen BK133.out 4
          have hfz16_5 := blk_frozen BK133.out 5
          go_wp2_with (first | (go_at_call 29; (with_reducible refine (slices_Contains_int_int.calls k _ _ l0_10 t128 t134 _ ?side1 ?side2 A13.out).mono ?_); (case side1 => exact Kd.C_below HR0_10.out (by repeat (first | (with_reducible first | exact HB.out | apply below_alloc | apply pw_below_drewN | apply below_drew1 | refine below_set ?_ GE125.out | refine below_set ?_ GE133.out) | exact HB.out))); (case side2 => exact HC0_10.out); rintro e w' ⟨rfl, ⟨nd, rfl⟩⟩))
          go_meet
          case rel => exact ⟨_, (!t134), (by first | rfl | (simp; done) | (simp [*]; done)), H', ⟨by first | omega | exact Nat.le_refl _⟩, ⟨by (with_reducible repeat (first | refine blk_drewN ?_ _ | refine blk_drew ?_ | refine blk_alloc ?_ _)); refine blk_far ?_ NB125_133.out _; (with_reducible repeat (first | refine blk_drewN ?_ _ | refine blk_drew ?_ | refine blk_alloc ?_ _)); refine blk_far ?_ NB125_133.out _; (with_reducible repeat (first | refine blk_drewN ?_ _ | refine blk_drew ?_ | refine blk_alloc ?_ _)); refine blk_far ?_ NB125_133.out _; (with_reducible repeat (first | refine blk_drewN ?_ _ | refine blk_drew ?_ | refine blk_alloc ?_ _)); refine blk_far ?_ NB125_133.out _; (with_reducible repeat (first | refine blk_drewN ?_ _ | refine blk_drew ?_ | refine blk_alloc ?_ _)); refine blk_far ?_ NB125_133.out _; (with_reducible repeat (first | refine blk_drewN ?_ _ | refine blk_drew ?_ | refine blk_alloc ?_ _)); refine blk_far ?_ NB125_133.out _; (with_reducible repeat (first | refine blk_drewN ?_ _ | refine blk_drew ?_ | refine blk_alloc ?_ _)); exact BK125.out⟩, ⟨by (with_reducible repeat (first | refine blk_drewN ?_ _ | refine blk_drew ?_ | refine blk_alloc ?_ _)); refine blk_put (cs := #[.string t126, .string t127, .int .i64 t128, .int .i64 t129, .int .i64 t130, .string (⟨#[]⟩ : ByteArray)]) ?_ 5 _ rfl; (with_reducible repeat (first | refine blk_drewN ?_ _ | refine blk_drew ?_ | refine blk_alloc ?_ _)); refine blk_put (cs := #[.string t126, .string t127, .int .i64 t128, .int .i64 t129, .int .i64 0, .string (⟨#[]⟩ : ByteArray)]) ?_ 4 _ rfl; (with_reducible repeat (first | refine blk_drewN ?_ _ | refine blk_drew ?_ | refine blk_alloc ?_ _)); refine blk_put (cs := #[.string t126, .string t127, .int .i64 t128, .int .i64 0, .int .i64 0, .string (⟨#[]⟩ : ByteArray)]) ?_ 3 _ rfl; (with_reducible repeat (first | refine blk_drewN ?_ _ | refine blk_drew ?_ | refine blk_alloc ?_ _)); refine blk_put (cs := #[.string t126, .string t127, .int .i64 0, .int .i64 0, .int .i64 0, .string (⟨#[]⟩ : ByteArray)]) ?_ 2 _ rfl; (with_reducible repeat (first | refine blk_drewN ?_ _ | refine blk_drew ?_ | refine blk_alloc ?_ _)); refine blk_put (cs := #[.string t126, .string (⟨#[]⟩ : ByteArray), .int .i64 0, .int .i64 0, .int .i64 0, .string (⟨#[]⟩ : ByteArray)]) ?_ 1 _ rfl; (with_reducible repeat (first | refine blk_drewN ?_ _ | refine blk_drew ?_ | refine blk_alloc ?_ _)); refine blk_put (cs := #[.string (⟨#[]⟩ : ByteArray), .string (⟨#[]⟩ : ByteArray), .int .i64 0, .int .i64 0, .int .i64 0, .string (⟨#[]⟩ : ByteArray)]) ?_ 0 _ rfl; (with_reducible repeat (first | refine blk_drewN ?_ _ | refine blk_drew ?_ | refine blk_alloc ?_ _)); exact BK133.out⟩, ⟨by repeat (first | (with_reducible first | exact HB.out | apply below_alloc | apply pw_below_drewN | apply below_drew1 | refine below_set ?_ GE125.out | refine below_set ?_ GE133.out) | exact HB.out)⟩⟩
        · rw [if_neg c12] at H
          have c12b0 : decide (0 ≤ t128) = false := decide_eq_false c12
          clear c12
          have H' := Aside0.mk H
          clear H
          have hnb17 := NB125_133.out
          have hnc17 := NB133_125.out
          have hcz18_0 : w7.cell? ⟨gb125, 0, none⟩ = some (.string a0_0) := (blk_cell BK125.out 0).trans rfl
          have hcz18_1 : w7.cell? ⟨gb125, 1, none⟩ = some (.bool a0_1) := (blk_cell BK125.out 1).trans rfl
          have hcz18_2 : w7.cell? ⟨gb125, 2, none⟩ = some (.bool a0_2) := (blk_cell BK125.out 2).trans rfl
          have hcz18_3 : w7.cell? ⟨gb125, 3, none⟩ = some (.bool a0_3) := (blk_cell BK125.out 3).trans rfl
          have hcz18_4 : w7.cell? ⟨gb125, 4, none⟩ = some (.bool a0_4) := (blk_cell BK125.out 4).trans rfl
          have hcz18_5 : w7.cell? ⟨gb125, 5, none⟩ = some (.bool a0_5) := (blk_cell BK125.out 5).trans rfl
          have hcz18_6 : w7.cell? ⟨gb125, 6, none⟩ = some (.bool a0_6) := (blk_cell BK125.out 6).trans rfl
          have hcz18_7 : w7.cell? ⟨gb125, 7, none⟩ = some (.slice A0_7 l0_7.length c0_7) := (blk_cell BK125.out 7).trans rfl
          have hcz18_8 : w7.cell? ⟨gb125, 8, none⟩ = some (.slice A0_8 l0_8.length c0_8) := (blk_cell BK125.out 8).trans rfl
          have hcz18_9 : w7.cell? ⟨gb125, 9, none⟩ = some (.bool true) := (blk_cell BK125.out 9).trans rfl
          have hcz18_10 : w7.cell? ⟨gb125, 10, none⟩ = some (.slice A0_10 l0_10.length c0_10) := (blk_cell BK125.out 10).trans rfl
          have hfz18_0 := blk_frozen BK125.out 0
          have hfz18_1 := blk_frozen BK125.out 1
          have hfz18_2 := blk_frozen BK125.out 2
          have hfz18_3 := blk_frozen BK125.out 3
          have hfz18_4 := blk_frozen BK125.out 4
          have hfz18_5 := blk_frozen BK125.out 5
          have hfz18_6 := blk_frozen BK125.out 6
          have hfz18_7 := blk_frozen BK125.out 7
          have hfz18_8 := blk_frozen BK125.out 8
          have hfz18_9 := blk_frozen BK125.out 9
          have hfz18_10 := blk_frozen BK125.out 10
          have hcz19_0 : w7.cell? ⟨gb133, 0, none⟩ = some (.string (⟨#[]⟩ : ByteArray)) := (blk_cell BK133.out 0).trans rfl
          have hcz19_1 : w7.cell? ⟨gb133, 1, none⟩ = some (.string (⟨#[]⟩ : ByteArray)) := (blk_cell BK133.out 1).trans rfl
          have hcz19_2 : w7.cell? ⟨gb133, 2, none⟩ = some (.int .i64 0) := (blk_cell BK133.out 2).trans rfl
          have hcz19_3 : w7.cell? ⟨gb133, 3, none⟩ = some (.int .i64 0) := (blk_cell BK133.out 3).trans rfl
          have hcz19_4 : w7.cell? ⟨gb133, 4, none⟩ = some (.int .i64 0) := (blk_cell BK133.out 4).trans rfl
          have hcz19_5 : w7.cell? ⟨gb133, 5, none⟩ = some (.string (⟨#[]⟩ : ByteArray)) := (blk_cell BK133.out 5).trans rfl
          have hfz19_0 := blk_frozen BK133.out 0
          have hfz19_1 := blk_frozen BK133.out 1
          have hfz19_2 := blk_frozen BK133.out 2
          have hfz19_3 := blk_frozen BK133.out 3
          have hfz19_4 := blk_frozen BK133.out 4
          have hfz19_5 := blk_frozen BK133.out 5
          go_wp2
          go_meet
          case rel => exact ⟨_, (false), (by first | rfl | (simp; done) | (simp [*]; done)), H', ⟨by first | omega | exact Nat.le_refl _⟩, ⟨by (with_reducible repeat (first | refine blk_drewN ?_ _ | refine blk_drew ?_ | refine blk_alloc ?_ _)); refine blk_far ?_ NB125_133.out _; (with_reducible repeat (first | refine blk_drewN ?_ _ | refine blk_drew ?_ | refine blk_alloc ?_ _)); refine blk_far ?_ NB125_133.out _; (with_reducible repeat (first | refine blk_drewN ?_ _ | refine blk_drew ?_ | refine blk_alloc ?_ _)); refine blk_far ?_ NB125_133.out _; (with_reducible repeat (first | refine blk_drewN ?_ _ | refine blk_drew ?_ | refine blk_alloc ?_ _)); refine blk_far ?_ NB125_133.out _; (with_reducible repeat (first | refine blk_drewN ?_ _ | refine blk_drew ?_ | refine blk_alloc ?_ _)); refine blk_far ?_ NB125_133.out _; (with_reducible repeat (first | refine blk_drewN ?_ _ | refine blk_drew ?_ | refine blk_alloc ?_ _)); refine blk_far ?_ NB125_133.out _; (with_reducible repeat (first | refine blk_drewN ?_ _ | refine blk_drew ?_ | refine blk_alloc ?_ _)); exact BK125.out⟩, ⟨by (with_reducible repeat (first | refine blk_drewN ?_ _ | refine blk_drew ?_ | refine blk_alloc ?_ _)); refine blk_put (cs := #[.string t126, .string t127, .int .i64 t128, .int .i64 t129, .int .i64 t130, .string (⟨#[]⟩ : ByteArray)]) ?_ 5 _ rfl; (with_reducible repeat (first | refine blk_drewN ?_ _ | refine blk_drew ?_ | refine blk_alloc ?_ _)); refine blk_put (cs := #[.string t126, .string t127, .int .i64 t128, .int .i64 t129, .int .i64 0, .string (⟨#[]⟩ : ByteArray)]) ?_ 4 _ rfl; (with_reducible repeat (first | refine blk_drewN ?_ _ | refine blk_drew ?_ | refine blk_alloc ?_ _)); refine blk_put (cs := #[.string t126, .string t127, .int .i64 t128, .int .i64 0, .int .i64 0, .string (⟨#[]⟩ : ByteArray)]) ?_ 3 _ rfl; (with_reducible repeat (first | refine blk_drewN ?_ _ | refine blk_drew ?_ | refine blk_alloc ?_ _)); refine blk_put (cs := #[.string t126, .string t127, .int .i64 0, .int .i64 0, .int .i64 0, .string (⟨#[]⟩ : ByteArray)]) ?_ 2 _ rfl; (with_reducible repeat (first | refine blk_drewN ?_ _ | refine blk_drew ?_ | refine blk_alloc ?_ _)); refine blk_put (cs := #[.string t126, .string (⟨#[]⟩ : ByteArray), .int .i64 0, .int .i64 0, .int .i64 0, .string (⟨#[]⟩ : ByteArray)]) ?_ 1 _ rfl; (with_reducible repeat (first | refine blk_drewN ?_ _ | refine blk_drew ?_ | refine blk_alloc ?_ _)); refine blk_put (cs := #[.string (⟨#[]⟩ : ByteArray), .string (⟨#[]⟩ : ByteArray), .int .i64 0, .int .i64 0, .int .i64 0, .string (⟨#[]⟩ : ByteArray)]) ?_ 0 _ rfl; (with_reducible repeat (first | refine blk_drewN ?_ _ | refine blk_drew ?_ | refine blk_alloc ?_ _)); exact BK133.out⟩, ⟨by repeat (first | (with_reducible first | exact HB.out | apply below_alloc | apply pw_below_drewN | apply below_drew1 | refine below_set ?_ GE125.out | refine below_set ?_ GE133.out) | exact HB.out)⟩⟩
      · replace c11 := Bool.eq_false_iff.mpr c11
        subst c11
        have H1 : (filter_Admits.j0 k false a0_0 a0_1 a0_2 a0_3 a0_4 a0_5 a0_6 l0_7 l0_8 false l0_10 t126 t127 t128 t129 t130 t131) = some r := by rw [if_neg (show ¬ (false = true) by decide)] at H; exact H
        clear H
        have H := H1
        clear H1
        have H' := Aside0.mk H
        clear H
        have hnb20 := NB125_133.out
        have hnc20 := NB133_125.out
        have hcz21_0 : w7.cell? ⟨gb125, 0, none⟩ = some (.string a0_0) := (blk_cell BK125.out 0).trans rfl
        have hcz21_1 : w7.cell? ⟨gb125, 1, none⟩ = some (.bool a0_1) := (blk_cell BK125.out 1).trans rfl
        have hcz21_2 : w7.cell? ⟨gb125, 2, none⟩ = some (.bool a0_2) := (blk_cell BK125.out 2).trans rfl
        have hcz21_3 : w7.cell? ⟨gb125, 3, none⟩ = some (.bool a0_3) := (blk_cell BK125.out 3).trans rfl
        have hcz21_4 : w7.cell? ⟨gb125, 4, none⟩ = some (.bool a0_4) := (blk_cell BK125.out 4).trans rfl
        have hcz21_5 : w7.cell? ⟨gb125, 5, none⟩ = some (.bool a0_5) := (blk_cell BK125.out 5).trans rfl
        have hcz21_6 : w7.cell? ⟨gb125, 6, none⟩ = some (.bool a0_6) := (blk_cell BK125.out 6).trans rfl
        have hcz21_7 : w7.cell? ⟨gb125, 7, none⟩ = some (.slice A0_7 l0_7.length c0_7) := (blk_cell BK125.out 7).trans rfl
        have hcz21_8 : w7.cell? ⟨gb125, 8, none⟩ = some (.slice A0_8 l0_8.length c0_8) := (blk_cell BK125.out 8).trans rfl
        have hcz21_9 : w7.cell? ⟨gb125, 9, none⟩ = some (.bool false) := (blk_cell BK125.out 9).trans rfl
        have hcz21_10 : w7.cell? ⟨gb125, 10, none⟩ = some (.slice A0_10 l0_10.length c0_10) := (blk_cell BK125.out 10).trans rfl
        have hfz21_0 := blk_frozen BK125.out 0
        have hfz21_1 := blk_frozen BK125.out 1
        have hfz21_2 := blk_frozen BK125.out 2
        have hfz21_3 := blk_frozen BK125.out 3
        have hfz21_4 := blk_frozen BK125.out 4
        have hfz21_5 := blk_frozen BK125.out 5
        have hfz21_6 := blk_frozen BK125.out 6
        have hfz21_7 := blk_frozen BK125.out 7
        have hfz21_8 := blk_frozen BK125.out 8
        have hfz21_9 := blk_frozen BK125.out 9
        have hfz21_10 := blk_frozen BK125.out 10
        go_wp2
        go_meet
        case rel => exact ⟨_, (false), (by first | rfl | (simp; done) | (simp [*]; done)), H', ⟨by first | omega | exact Nat.le_refl _⟩, ⟨by (with_reducible repeat (first | refine blk_drewN ?_ _ | refine blk_drew ?_ | refine blk_alloc ?_ _)); refine blk_far ?_ NB125_133.out _; (with_reducible repeat (first | refine blk_drewN ?_ _ | refine blk_drew ?_ | refine blk_alloc ?_ _)); refine blk_far ?_ NB125_133.out _; (with_reducible repeat (first | refine blk_drewN ?_ _ | refine blk_drew ?_ | refine blk_alloc ?_ _)); refine blk_far ?_ NB125_133.out _; (with_reducible repeat (first | refine blk_drewN ?_ _ | refine blk_drew ?_ | refine blk_alloc ?_ _)); refine blk_far ?_ NB125_133.out _; (with_reducible repeat (first | refine blk_drewN ?_ _ | refine blk_drew ?_ | refine blk_alloc ?_ _)); refine blk_far ?_ NB125_133.out _; (with_reducible repeat (first | refine blk_drewN ?_ _ | refine blk_drew ?_ | refine blk_alloc ?_ _)); refine blk_far ?_ NB125_133.out _; (with_reducible repeat (first | refine blk_drewN ?_ _ | refine blk_drew ?_ | refine blk_alloc ?_ _)); exact BK125.out⟩, ⟨by (with_reducible repeat (first | refine blk_drewN ?_ _ | refine blk_drew ?_ | refine blk_alloc ?_ _)); refine blk_put (cs := #[.string t126, .string t127, .int .i64 t128, .int .i64 t129, .int .i64 t130, .string (⟨#[]⟩ : ByteArray)]) ?_ 5 _ rfl; (with_reducible repeat (first | refine blk_drewN ?_ _ | refine blk_drew ?_ | refine blk_alloc ?_ _)); refine blk_put (cs := #[.string t126, .string t127, .int .i64 t128, .int .i64 t129, .int .i64 0, .string (⟨#[]⟩ : ByteArray)]) ?_ 4 _ rfl; (with_reducible repeat (first | refine blk_drewN ?_ _ | refine blk_drew ?_ | refine blk_alloc ?_ _)); refine blk_put (cs := #[.string t126, .string t127, .int .i64 t128, .int .i64 0, .int .i64 0, .string (⟨#[]⟩ : ByteArray)]) ?_ 3 _ rfl; (with_reducible repeat (first | refine blk_drewN ?_ _ | refine blk_drew ?_ | refine blk_alloc ?_ _)); refine blk_put (cs := #[.string t126, .string t127, .int .i64 0, .int .i64 0, .int .i64 0, .string (⟨#[]⟩ : ByteArray)]) ?_ 2 _ rfl; (with_reducible repeat (first | refine blk_drewN ?_ _ | refine blk_drew ?_ | refine blk_alloc ?_ _)); refine blk_put (cs := #[.string t126, .string (⟨#[]⟩ : ByteArray), .int .i64 0, .int .i64 0, .int .i64 0, .string (⟨#[]⟩ : ByteArray)]) ?_ 1 _ rfl; (with_reducible repeat (first | refine blk_drewN ?_ _ | refine blk_drew ?_ | refine blk_alloc ?_ _)); refine blk_put (cs := #[.string (⟨#[]⟩ : ByteArray), .string (⟨#[]⟩ : ByteArray), .int .i64 0, .int .i64 0, .int .i64 0, .string (⟨#[]⟩ : ByteArray)]) ?_ 0 _ rfl; (with_reducible repeat (first | refine blk_drewN ?_ _ | refine blk_drew ?_ | refine blk_alloc ?_ _)); exact BK133.out⟩, ⟨by repeat (first | (with_reducible first | exact HB.out | apply below_alloc | apply pw_below_drewN | apply below_drew1 | refine below_set ?_ GE125.out | refine below_set ?_ GE133.out) | exact HB.out)⟩⟩
    · rw [if_neg c10] at H
      have c10b0 : (t132 == 0) = false := beq_eq_false_iff_ne.mpr c10
      have c10b1 : (t132 != 0) = true := bne_iff_ne.mpr c10
      (first | rw [c10b0] | (simp only [i64_w, i32_w]; rw [c10b0]) | skip)
      have H' := Aside0.mk H
      clear H
      go_wp2
      go_meet
      case rel => exact ⟨_, (true), (by first | rfl | (simp; done) | (simp [*]; done)), H', ⟨by first | omega | exact Nat.le_refl _⟩, ⟨by (with_reducible repeat (first | refine blk_drewN ?_ _ | refine blk_drew ?_ | refine blk_alloc ?_ _)); refine blk_far ?_ NB125_133.out _; (with_reducible repeat (first | refine blk_drewN ?_ _ | refine blk_drew ?_ | refine blk_alloc ?_ _)); refine blk_far ?_ NB125_133.out _; (with_reducible repeat (first | refine blk_drewN ?_ _ | refine blk_drew ?_ | refine blk_alloc ?_ _)); refine blk_far ?_ NB125_133.out _; (with_reducible repeat (first | refine blk_drewN ?_ _ | refine blk_drew ?_ | refine blk_alloc ?_ _)); refine blk_far ?_ NB125_133.out _; (with_reducible repeat (first | refine blk_drewN ?_ _ | refine blk_drew ?_ | refine blk_alloc ?_ _)); refine blk_far ?_ NB125_133.out _; (with_reducible repeat (first | refine blk_drewN ?_ _ | refine blk_drew ?_ | refine blk_alloc ?_ _)); refine blk_far ?_ NB125_133.out _; (with_reducible repeat (first | refine blk_drewN ?_ _ | refine blk_drew ?_ | refine blk_alloc ?_ _)); exact BK125.out⟩, ⟨by (with_reducible repeat (first | refine blk_drewN ?_ _ | refine blk_drew ?_ | refine blk_alloc ?_ _)); refine blk_put (cs := #[.string t126, .string t127, .int .i64 t128, .int .i64 t129, .int .i64 t130, .string (⟨#[]⟩ : ByteArray)]) ?_ 5 _ rfl; (with_reducible repeat (first | refine blk_drewN ?_ _ | refine blk_drew ?_ | refine blk_alloc ?_ _)); refine blk_put (cs := #[.string t126, .string t127, .int .i64 t128, .int .i64 t129, .int .i64 0, .string (⟨#[]⟩ : ByteArray)]) ?_ 4 _ rfl; (with_reducible repeat (first | refine blk_drewN ?_ _ | refine blk_drew ?_ | refine blk_alloc ?_ _)); refine blk_put (cs := #[.string t126, .string t127, .int .i64 t128, .int .i64 0, .int .i64 0, .string (⟨#[]⟩ : ByteArray)]) ?_ 3 _ rfl; (with_reducible repeat (first | refine blk_drewN ?_ _ | refine blk_drew ?_ | refine blk_alloc ?_ _)); refine blk_put (cs := #[.string t126, .string t127, .int .i64 0, .int .i64 0, .int .i64 0, .string (⟨#[]⟩ : ByteArray)]) ?_ 2 _ rfl; (with_reducible repeat (first | refine blk_drewN ?_ _ | refine blk_drew ?_ | refine blk_alloc ?_ _)); refine blk_put (cs := #[.string t126, .string (⟨#[]⟩ : ByteArray), .int .i64 0, .int .i64 0, .int .i64 0, .string (⟨#[]⟩ : ByteArray)]) ?_ 1 _ rfl; (with_reducible repeat (first | refine blk_drewN ?_ _ | refine blk_drew ?_ | refine blk_alloc ?_ _)); refine blk_put (cs := #[.string (⟨#[]⟩ : ByteArray), .string (⟨#[]⟩ : ByteArray), .int .i64 0, .int .i64 0, .int .i64 0, .string (⟨#[]⟩ : ByteArray)]) ?_ 0 _ rfl; (with_reducible repeat (first | refine blk_drewN ?_ _ | refine blk_drew ?_ | refine blk_alloc ?_ _)); exact BK133.out⟩, ⟨by repeat (first | (with_reducible first | exact HB.out | apply below_alloc | apply pw_below_drewN | apply below_drew1 | refine below_set ?_ GE125.out | refine below_set ?_ GE133.out) | exact HB.out)⟩⟩
  case rest =>
    clear HC4
    try clear c1
    try clear c2
    try clear p2
    try clear c8
    try clear c10
    try clear c10b0
    try clear c10b1
    try clear c11
    try clear c12
    try clear c12b0
    try clear c13
    try clear c14
    try clear c17
    try clear c20
    try clear hcz15_0
    try clear hcz15_1
    try clear hcz15_10
    try clear hcz15_2
    try clear hcz15_3
    try clear hcz15_4
    try clear hcz15_5
    try clear hcz15_6
    try clear hcz15_7
    try clear hcz15_8
    try clear hcz15_9
    try clear hcz16_0
    try clear hcz16_1
    try clear hcz16_2
    try clear hcz16_3
    try clear hcz16_4
    try clear hcz16_5
    try clear hcz18_0
    try clear hcz18_1
    try clear hcz18_10
    try clear hcz18_2
    try clear hcz18_3
    try clear hcz18_4
    try clear hcz18_5
    try clear hcz18_6
    try clear hcz18_7
    try clear hcz18_8
    try clear hcz18_9
    try clear hcz19_0
    try clear hcz19_1
    try clear hcz19_2
    try clear hcz19_3
    try clear hcz19_4
    try clear hcz19_5
    try clear hcz21_0
    try clear hcz21_1
    try clear hcz21_10
    try clear hcz21_2
    try clear hcz21_3
    try clear hcz21_4
    try clear hcz21_5
    try clear hcz21_6
    try clear hcz21_7
    try clear hcz21_8
    try clear hcz21_9
    try clear hcz9_0
    try clear hcz9_1
    try clear hcz9_2
    try clear hcz9_3
    try clear hcz9_4
    try clear hcz9_5
    try clear hfz15_0
    try clear hfz15_1
    try clear hfz15_10
    try clear hfz15_2
    try clear hfz15_3
    try clear hfz15_4
    try clear hfz15_5
    try clear hfz15_6
    try clear hfz15_7
    try clear hfz15_8
    try clear hfz15_9
    try clear hfz16_0
    try clear hfz16_1
    try clear hfz16_2
    try clear hfz16_3
    try clear hfz16_4
    try clear hfz16_5
    try clear hfz18_0
    try clear hfz18_1
    try clear hfz18_10
    try clear hfz18_2
    try clear hfz18_3
    try clear hfz18_4
    try clear hfz18_5
    try clear hfz18_6
    try clear hfz18_7
    try clear hfz18_8
    try clear hfz18_9
    try clear hfz19_0
    try clear hfz19_1
    try clear hfz19_2
    try clear hfz19_3
    try clear hfz19_4
    try clear hfz19_5
    try clear hfz21_0
    try clear hfz21_1
    try clear hfz21_10
    try clear hfz21_2
    try clear hfz21_3
    try clear hfz21_4
    try clear hfz21_5
    try clear hfz21_6
    try clear hfz21_7
    try clear hfz21_8
    try clear hfz21_9
    try clear hfz9_0
    try clear hfz9_1
    try clear hfz9_2
    try clear hfz9_3
    try clear hfz9_4
    try clear hfz9_5
    obtain ⟨kq, x12_3, rfl, HA, HJ3, BK125, BK133, HB⟩ := hcut
    cases kq with
    | zero => exact absurd HA.out (by simp [filter_Admits.j0])
    | succ kj3 =>
      have H := HA.out
      clear HA
      simp only [filter_Admits.j0] at H
      by_cases c22 : x12_3 = true
      · subst c22
        have H1 : (some false) = some r := by rw [if_pos rfl] at H; exact H
        clear H
        have H := H1
        clear H1
        obtain rfl := Option.some.inj H
        go_wp2
        go_ret
        exact ⟨by first | rfl | (simp [errW_none, errW_some] <;> rfl) | (simp [*, errW_none, errW_some] <;> rfl), by repeat (first | (with_reducible first | exact HB.out | apply below_alloc | apply pw_below_drewN | apply below_drew1 | refine below_set ?_ GE125.out | refine below_set ?_ GE133.out) | exact HB.out)⟩
      · replace c22 := Bool.eq_false_iff.mpr c22
        subst c22
        have H1 : (if a0_1 = true then (some true) else ((addr_Kind.f t126).bind fun t135 => (if t135 = 3 then (some (!a0_6)) else (if t135 = 2 then (if a0_3 = true then (some true) else (if a0_5 = true then (some false) else ((slices_Contains_string_string.f kj3 l0_8 t126).bind fun t136 => (some t136)))) else (if a0_2 = true then (some true) else (if a0_4 = true then (some false) else (if t126.toList = a0_0.toList then (some true) else ((slices_Contains_string_string.f kj3 l0_7 t126).bind fun t137 => (some t137))))))))) = some r := by rw [if_neg (show ¬ (false = true) by decide)] at H; exact H
        clear H
        have H := H1
        clear H1
        by_cases c23 : a0_1 = true
        · subst c23
          have H1 : (some true) = some r := by rw [if_pos rfl] at H; exact H
          clear H
          have H := H1
          clear H1
          obtain rfl := Option.some.inj H
          have hnb24 := NB125_133.out
          have hnc24 := NB133_125.out
          have hcz25_0 : wc.cell? ⟨gb125, 0, none⟩ = some (.string a0_0) := (blk_cell BK125.out 0).trans rfl
          have hcz25_1 : wc.cell? ⟨gb125, 1, none⟩ = some (.bool true) := (blk_cell BK125.out 1).trans rfl
          have hcz25_2 : wc.cell? ⟨gb125, 2, none⟩ = some (.bool a0_2) := (blk_cell BK125.out 2).trans rfl
          have hcz25_3 : wc.cell? ⟨gb125, 3, none⟩ = some (.bool a0_3) := (blk_cell BK125.out 3).trans rfl
          have hcz25_4 : wc.cell? ⟨gb125, 4, none⟩ = some (.bool a0_4) := (blk_cell BK125.out 4).trans rfl
          have hcz25_5 : wc.cell? ⟨gb125, 5, none⟩ = some (.bool a0_5) := (blk_cell BK125.out 5).trans rfl
          have hcz25_6 : wc.cell? ⟨gb125, 6, none⟩ = some (.bool a0_6) := (blk_cell BK125.out 6).trans rfl
          have hcz25_7 : wc.cell? ⟨gb125, 7, none⟩ = some (.slice A0_7 l0_7.length c0_7) := (blk_cell BK125.out 7).trans rfl
          have hcz25_8 : wc.cell? ⟨gb125, 8, none⟩ = some (.slice A0_8 l0_8.length c0_8) := (blk_cell BK125.out 8).trans rfl
          have hcz25_9 : wc.cell? ⟨gb125, 9, none⟩ = some (.bool a0_9) := (blk_cell BK125.out 9).trans rfl
          have hcz25_10 : wc.cell? ⟨gb125, 10, none⟩ = some (.slice A0_10 l0_10.length c0_10) := (blk_cell BK125.out 10).trans rfl
          have hfz25_0 := blk_frozen BK125.out 0
          have hfz25_1 := blk_frozen BK125.out 1
          have hfz25_2 := blk_frozen BK125.out 2
          have hfz25_3 := blk_frozen BK125.out 3
          have hfz25_4 := blk_frozen BK125.out 4
          have hfz25_5 := blk_frozen BK125.out 5
          have hfz25_6 := blk_frozen BK125.out 6
          have hfz25_7 := blk_frozen BK125.out 7
          have hfz25_8 := blk_frozen BK125.out 8
          have hfz25_9 := blk_frozen BK125.out 9
          have hfz25_10 := blk_frozen BK125.out 10
          go_wp2
          go_ret
          exact ⟨by first | rfl | (simp [errW_none, errW_some] <;> rfl) | (simp [*, errW_none, errW_some] <;> rfl), by repeat (first | (with_reducible first | exact HB.out | apply below_alloc | apply pw_below_drewN | apply below_drew1 | refine below_set ?_ GE125.out | refine below_set ?_ GE133.out) | exact HB.out)⟩
        · replace c23 := Bool.eq_false_iff.mpr c23
          subst c23
          have H1 : ((addr_Kind.f t126).bind fun t135 => (if t135 = 3 then (some (!a0_6)) else (if t135 = 2 then (if a0_3 = true then (some true) else (if a0_5 = true then (some false) else ((slices_Contains_string_string.f kj3 l0_8 t126).bind fun t136 => (some t136)))) else (if a0_2 = true then (some true) else (if a0_4 = true then (some false) else (if t126.toList = a0_0.toList then (some true) else ((slices_Contains_string_string.f kj3 l0_7 t126).bind fun t137 => (some t137)))))))) = some r := by rw [if_neg (show ¬ (false = true) by decide)] at H; exact H
          clear H
          have H := H1
          clear H1
          replace H := Option.bind_eq_some_iff.mp H
          obtain ⟨t135, A260, H⟩ := H
          replace H : (if t135 = 3 then (some (!a0_6)) else (if t135 = 2 then (if a0_3 = true then (some true) else (if a0_5 = true then (some false) else ((slices_Contains_string_string.f kj3 l0_8 t126).bind fun t136 => (some t136)))) else (if a0_2 = true then (some true) else (if a0_4 = true then (some false) else (if t126.toList = a0_0.toList then (some true) else ((slices_Contains_string_string.f kj3 l0_7 t126).bind fun t137 => (some t137))))))) = some r := H
          have A26 := Aside0.mk A260
          clear A260
          by_cases c27 : t135 = 3
          · rw [if_pos c27] at H
            have c27b0 : (t135 == 3) = true := beq_iff_eq.mpr c27
            have c27b1 : (t135 != 3) = false := bne_eq_false_iff_eq.mpr c27
            clear c27
            obtain rfl := Option.some.inj H
            have hnb28 := NB125_133.out
            have hnc28 := NB133_125.out
            have hcz29_0 : wc.cell? ⟨gb125, 0, none⟩ = some (.string a0_0) := (blk_cell BK125.out 0).trans rfl
            have hcz29_1 : wc.cell? ⟨gb125, 1, none⟩ = some (.bool false) := (blk_cell BK125.out 1).trans rfl
            have hcz29_2 : wc.cell? ⟨gb125, 2, none⟩ = some (.bool a0_2) := (blk_cell BK125.out 2).trans rfl
            have hcz29_3 : wc.cell? ⟨gb125, 3, none⟩ = some (.bool a0_3) := (blk_cell BK125.out 3).trans rfl
            have hcz29_4 : wc.cell? ⟨gb125, 4, none⟩ = some (.bool a0_4) := (blk_cell BK125.out 4).trans rfl
            have hcz29_5 : wc.cell? ⟨gb125, 5, none⟩ = some (.bool a0_5) := (blk_cell BK125.out 5).trans rfl
            have hcz29_6 : wc.cell? ⟨gb125, 6, none⟩ = some (.bool a0_6) := (blk_cell BK125.out 6).trans rfl
            have hcz29_7 : wc.cell? ⟨gb125, 7, none⟩ = some (.slice A0_7 l0_7.length c0_7) := (blk_cell BK125.out 7).trans rfl
            have hcz29_8 : wc.cell? ⟨gb125, 8, none⟩ = some (.slice A0_8 l0_8.length c0_8) := (blk_cell BK125.out 8).trans rfl
            have hcz29_9 : wc.cell? ⟨gb125, 9, none⟩ = some (.bool a0_9) := (blk_cell BK125.out 9).trans rfl
            have hcz29_10 : wc.cell? ⟨gb125, 10, none⟩ = some (.slice A0_10 l0_10.length c0_10) := (blk_cell BK125.out 10).trans rfl
            have hfz29_0 := blk_frozen BK125.out 0
            have hfz29_1 := blk_frozen BK125.out 1
            have hfz29_2 := blk_frozen BK125.out 2
            have hfz29_3 := blk_frozen BK125.out 3
            have hfz29_4 := blk_frozen BK125.out 4
            have hfz29_5 := blk_frozen BK125.out 5
            have hfz29_6 := blk_frozen BK125.out 6
            have hfz29_7 := blk_frozen BK125.out 7
            have hfz29_8 := blk_frozen BK125.out 8
            have hfz29_9 := blk_frozen BK125.out 9
            have hfz29_10 := blk_frozen BK125.out 10
            have hcz30_0 : wc.cell? ⟨gb133, 0, none⟩ = some (.string t126) := (blk_cell BK133.out 0).trans rfl
            have hcz30_1 : wc.cell? ⟨gb133, 1, none⟩ = some (.string t127) := (blk_cell BK133.out 1).trans rfl
            have hcz30_2 : wc.cell? ⟨gb133, 2, none⟩ = some (.int .i64 t128) := (blk_cell BK133.out 2).trans rfl
            have hcz30_3 : wc.cell? ⟨gb133, 3, none⟩ = some (.int .i64 t129) := (blk_cell BK133.out 3).trans rfl
            have hcz30_4 : wc.cell? ⟨gb133, 4, none⟩ = some (.int .i64 t130) := (blk_cell BK133.out 4).trans rfl
            have hcz30_5 : wc.cell? ⟨gb133, 5, none⟩ = some (.string t131) := (blk_cell BK133.out 5).trans rfl
            have hfz30_0 := blk_frozen BK133.out 0
            have hfz30_1 := blk_frozen BK133.out 1
            have hfz30_2 := blk_frozen BK133.out 2
            have hfz30_3 := blk_frozen BK133.out 3
            have hfz30_4 := blk_frozen BK133.out 4
            have hfz30_5 := blk_frozen BK133.out 5
            go_wp2_with (first | ((with_reducible refine gate_callee (f := 21) rfl ?_); refine goesL_ (some 37) rfl rfl Try.func21 (by kernel_rfl) rfl #[.string t126] rfl (by (try simp only [List.map_toArray, List.map_cons, List.map_nil]); first | done | rfl | (simp only [List.length_drop, List.length_take]; rfl)) ?_; (with_reducible refine (addr_Kind.calls t126 t135 _ A26.out).mono ?_); rintro e w' ⟨rfl, ⟨nd, rfl⟩⟩; refine ⟨_, rfl, ?_⟩))
            go_ret
            exact ⟨by first | rfl | (simp [errW_none, errW_some] <;> rfl) | (simp [*, errW_none, errW_some] <;> rfl), by repeat (first | (with_reducible first | exact HB.out | apply below_alloc | apply pw_below_drewN | apply below_drew1 | refine below_set ?_ GE125.out | refine below_set ?_ GE133.out) | exact HB.out)⟩
          · rw [if_neg c27] at H
            have c27b0 : (t135 == 3) = false := beq_eq_false_iff_ne.mpr c27
            have c27b1 : (t135 != 3) = true := bne_iff_ne.mpr c27
            by_cases c31 : t135 = 2
            · rw [if_pos c31] at H
              have c31b0 : (t135 == 2) = true := beq_iff_eq.mpr c31
              have c31b1 : (t135 != 2) = false := bne_eq_false_iff_eq.mpr c31
              clear c31
              by_cases c32 : a0_3 = true
              · subst c32
                have H1 : (some true) = some r := by rw [if_pos rfl] at H; exact H
                clear H
                have H := H1
                clear H1
                obtain rfl := Option.some.inj H
                have hnb33 := NB125_133.out
                have hnc33 := NB133_125.out
                have hcz34_0 : wc.cell? ⟨gb125, 0, none⟩ = some (.string a0_0) := (blk_cell BK125.out 0).trans rfl
                have hcz34_1 : wc.cell? ⟨gb125, 1, none⟩ = some (.bool false) := (blk_cell BK125.out 1).trans rfl
                have hcz34_2 : wc.cell? ⟨gb125, 2, none⟩ = some (.bool a0_2) := (blk_cell BK125.out 2).trans rfl
                have hcz34_3 : wc.cell? ⟨gb125, 3, none⟩ = some (.bool true) := (blk_cell BK125.out 3).trans rfl
                have hcz34_4 : wc.cell? ⟨gb125, 4, none⟩ = some (.bool a0_4) := (blk_cell BK125.out 4).trans rfl
                have hcz34_5 : wc.cell? ⟨gb125, 5, none⟩ = some (.bool a0_5) := (blk_cell BK125.out 5).trans rfl
                have hcz34_6 : wc.cell? ⟨gb125, 6, none⟩ = some (.bool a0_6) := (blk_cell BK125.out 6).trans rfl
                have hcz34_7 : wc.cell? ⟨gb125, 7, none⟩ = some (.slice A0_7 l0_7.length c0_7) := (blk_cell BK125.out 7).trans rfl
                have hcz34_8 : wc.cell? ⟨gb125, 8, none⟩ = some (.slice A0_8 l0_8.length c0_8) := (blk_cell BK125.out 8).trans rfl
                have hcz34_9 : wc.cell? ⟨gb125, 9, none⟩ = some (.bool a0_9) := (blk_cell BK125.out 9).trans rfl
                have hcz34_10 : wc.cell? ⟨gb125, 10, none⟩ = some (.slice A0_10 l0_10.length c0_10) := (blk_cell BK125.out 10).trans rfl
                have hfz34_0 := blk_frozen BK125.out 0
                have hfz34_1 := blk_frozen BK125.out 1
                have hfz34_2 := blk_frozen BK125.out 2
                have hfz34_3 := blk_frozen BK125.out 3
                have hfz34_4 := blk_frozen BK125.out 4
                have hfz34_5 := blk_frozen BK125.out 5
                have hfz34_6 := blk_frozen BK125.out 6
                have hfz34_7 := blk_frozen BK125.out 7
                have hfz34_8 := blk_frozen BK125.out 8
                have hfz34_9 := blk_frozen BK125.out 9
                have hfz34_10 := blk_frozen BK125.out 10
                have hcz35_0 : wc.cell? ⟨gb133, 0, none⟩ = some (.string t126) := (blk_cell BK133.out 0).trans rfl
                have hcz35_1 : wc.cell? ⟨gb133, 1, none⟩ = some (.string t127) := (blk_cell BK133.out 1).trans rfl
                have hcz35_2 : wc.cell? ⟨gb133, 2, none⟩ = some (.int .i64 t128) := (blk_cell BK133.out 2).trans rfl
                have hcz35_3 : wc.cell? ⟨gb133, 3, none⟩ = some (.int .i64 t129) := (blk_cell BK133.out 3).trans rfl
                have hcz35_4 : wc.cell? ⟨gb133, 4, none⟩ = some (.int .i64 t130) := (blk_cell BK133.out 4).trans rfl
                have hcz35_5 : wc.cell? ⟨gb133, 5, none⟩ = some (.string t131) := (blk_cell BK133.out 5).trans rfl
                have hfz35_0 := blk_frozen BK133.out 0
                have hfz35_1 := blk_frozen BK133.out 1
                have hfz35_2 := blk_frozen BK133.out 2
                have hfz35_3 := blk_frozen BK133.out 3
                have hfz35_4 := blk_frozen BK133.out 4
                have hfz35_5 := blk_frozen BK133.out 5
                go_wp2_with (first | ((with_reducible refine gate_callee (f := 21) rfl ?_); refine goesL_ (some 37) rfl rfl Try.func21 (by kernel_rfl) rfl #[.string t126] rfl (by (try simp only [List.map_toArray, List.map_cons, List.map_nil]); first | done | rfl | (simp only [List.length_drop, List.length_take]; rfl)) ?_; (with_reducible refine (addr_Kind.calls t126 t135 _ A26.out).mono ?_); rintro e w' ⟨rfl, ⟨nd, rfl⟩⟩; refine ⟨_, rfl, ?_⟩))
                go_ret
                exact ⟨by first | rfl | (simp [errW_none, errW_some] <;> rfl) | (simp [*, errW_none, errW_some] <;> rfl), by repeat (first | (with_reducible first | exact HB.out | apply below_alloc | apply pw_below_drewN | apply below_drew1 | refine below_set ?_ GE125.out | refine below_set ?_ GE133.out) | exact HB.out)⟩
              · replace c32 := Bool.eq_false_iff.mpr c32
                subst c32
                have H1 : (if a0_5 = true then (some false) else ((slices_Contains_string_string.f kj3 l0_8 t126).bind fun t136 => (some t136))) = some r := by rw [if_neg (show ¬ (false = true) by decide)] at H; exact H
                clear H
                have H := H1
                clear H1
                by_cases c36 : a0_5 = true
                · subst c36
                  have H1 : (some false) = some r := by rw [if_pos rfl] at H; exact H
                  clear H
                  have H := H1
                  clear H1
                  obtain rfl := Option.some.inj H
                  have hnb37 := NB125_133.out
                  have hnc37 := NB133_125.out
                  have hcz38_0 : wc.cell? ⟨gb125, 0, none⟩ = some (.string a0_0) := (blk_cell BK125.out 0).trans rfl
                  have hcz38_1 : wc.cell? ⟨gb125, 1, none⟩ = some (.bool false) := (blk_cell BK125.out 1).trans rfl
                  have hcz38_2 : wc.cell? ⟨gb125, 2, none⟩ = some (.bool a0_2) := (blk_cell BK125.out 2).trans rfl
                  have hcz38_3 : wc.cell? ⟨gb125, 3, none⟩ = some (.bool false) := (blk_cell BK125.out 3).trans rfl
                  have hcz38_4 : wc.cell? ⟨gb125, 4, none⟩ = some (.bool a0_4) := (blk_cell BK125.out 4).trans rfl
                  have hcz38_5 : wc.cell? ⟨gb125, 5, none⟩ = some (.bool true) := (blk_cell BK125.out 5).trans rfl
                  have hcz38_6 : wc.cell? ⟨gb125, 6, none⟩ = some (.bool a0_6) := (blk_cell BK125.out 6).trans rfl
                  have hcz38_7 : wc.cell? ⟨gb125, 7, none⟩ = some (.slice A0_7 l0_7.length c0_7) := (blk_cell BK125.out 7).trans rfl
                  have hcz38_8 : wc.cell? ⟨gb125, 8, none⟩ = some (.slice A0_8 l0_8.length c0_8) := (blk_cell BK125.out 8).trans rfl
                  have hcz38_9 : wc.cell? ⟨gb125, 9, none⟩ = some (.bool a0_9) := (blk_cell BK125.out 9).trans rfl
                  have hcz38_10 : wc.cell? ⟨gb125, 10, none⟩ = some (.slice A0_10 l0_10.length c0_10) := (blk_cell BK125.out 10).trans rfl
                  have hfz38_0 := blk_frozen BK125.out 0
                  have hfz38_1 := blk_frozen BK125.out 1
                  have hfz38_2 := blk_frozen BK125.out 2
                  have hfz38_3 := blk_frozen BK125.out 3
                  have hfz38_4 := blk_frozen BK125.out 4
                  have hfz38_5 := blk_frozen BK125.out 5
                  have hfz38_6 := blk_frozen BK125.out 6
                  have hfz38_7 := blk_frozen BK125.out 7
                  have hfz38_8 := blk_frozen BK125.out 8
                  have hfz38_9 := blk_frozen BK125.out 9
                  have hfz38_10 := blk_frozen BK125.out 10
                  have hcz39_0 : wc.cell? ⟨gb133, 0, none⟩ = some (.string t126) := (blk_cell BK133.out 0).trans rfl
                  have hcz39_1 : wc.cell? ⟨gb133, 1, none⟩ = some (.string t127) := (blk_cell BK133.out 1).trans rfl
                  have hcz39_2 : wc.cell? ⟨gb133, 2, none⟩ = some (.int .i64 t128) := (blk_cell BK133.out 2).trans rfl
                  have hcz39_3 : wc.cell? ⟨gb133, 3, none⟩ = some (.int .i64 t129) := (blk_cell BK133.out 3).trans rfl
                  have hcz39_4 : wc.cell? ⟨gb133, 4, none⟩ = some (.int .i64 t130) := (blk_cell BK133.out 4).trans rfl
                  have hcz39_5 : wc.cell? ⟨gb133, 5, none⟩ = some (.string t131) := (blk_cell BK133.out 5).trans rfl
                  have hfz39_0 := blk_frozen BK133.out 0
                  have hfz39_1 := blk_frozen BK133.out 1
                  have hfz39_2 := blk_frozen BK133.out 2
                  have hfz39_3 := blk_frozen BK133.out 3
                  have hfz39_4 := blk_frozen BK133.out 4
                  have hfz39_5 := blk_frozen BK133.out 5
                  go_wp2_with (first | ((with_reducible refine gate_callee (f := 21) rfl ?_); refine goesL_ (some 37) rfl rfl Try.func21 (by kernel_rfl) rfl #[.string t126] rfl (by (try simp only [List.map_toArray, List.map_cons, List.map_nil]); first | done | rfl | (simp only [List.length_drop, List.length_take]; rfl)) ?_; (with_reducible refine (addr_Kind.calls t126 t135 _ A26.out).mono ?_); rintro e w' ⟨rfl, ⟨nd, rfl⟩⟩; refine ⟨_, rfl, ?_⟩))
                  go_ret
                  exact ⟨by first | rfl | (simp [errW_none, errW_some] <;> rfl) | (simp [*, errW_none, errW_some] <;> rfl), by repeat (first | (with_reducible first | exact HB.out | apply below_alloc | apply pw_below_drewN | apply below_drew1 | refine below_set ?_ GE125.out | refine below_set ?_ GE133.out) | exact HB.out)⟩
                · replace c36 := Bool.eq_false_iff.mpr c36
                  subst c36
                  have H1 : ((slices_Contains_string_string.f kj3 l0_8 t126).bind fun t136 => (some t136)) = some r := by rw [if_neg (show ¬ (false = true) by decide)] at H; exact H
                  clear H
                  have H := H1
                  clear H1
                  replace H := Option.bind_eq_some_iff.mp H
                  obtain ⟨t136, A400, H⟩ := H
                  replace H : (some t136) = some r := H
                  have A40 := Aside0.mk A400
                  clear A400
                  obtain rfl := Option.some.inj H
                  have hnb41 := NB125_133.out
                  have hnc41 := NB133_125.out
                  have hcz42_0 : wc.cell? ⟨gb125, 0, none⟩ = some (.string a0_0) := (blk_cell BK125.out 0).trans rfl
                  have hcz42_1 : wc.cell? ⟨gb125, 1, none⟩ = some (.bool false) := (blk_cell BK125.out 1).trans rfl
                  have hcz42_2 : wc.cell? ⟨gb125, 2, none⟩ = some (.bool a0_2) := (blk_cell BK125.out 2).trans rfl
                  have hcz42_3 : wc.cell? ⟨gb125, 3, none⟩ = some (.bool false) := (blk_cell BK125.out 3).trans rfl
                  have hcz42_4 : wc.cell? ⟨gb125, 4, none⟩ = some (.bool a0_4) := (blk_cell BK125.out 4).trans rfl
                  have hcz42_5 : wc.cell? ⟨gb125, 5, none⟩ = some (.bool false) := (blk_cell BK125.out 5).trans rfl
                  have hcz42_6 : wc.cell? ⟨gb125, 6, none⟩ = some (.bool a0_6) := (blk_cell BK125.out 6).trans rfl
                  have hcz42_7 : wc.cell? ⟨gb125, 7, none⟩ = some (.slice A0_7 l0_7.length c0_7) := (blk_cell BK125.out 7).trans rfl
                  have hcz42_8 : wc.cell? ⟨gb125, 8, none⟩ = some (.slice A0_8 l0_8.length c0_8) := (blk_cell BK125.out 8).trans rfl
                  have hcz42_9 : wc.cell? ⟨gb125, 9, none⟩ = some (.bool a0_9) := (blk_cell BK125.out 9).trans rfl
                  have hcz42_10 : wc.cell? ⟨gb125, 10, none⟩ = some (.slice A0_10 l0_10.length c0_10) := (blk_cell BK125.out 10).trans rfl
                  have hfz42_0 := blk_frozen BK125.out 0
                  have hfz42_1 := blk_frozen BK125.out 1
                  have hfz42_2 := blk_frozen BK125.out 2
                  have hfz42_3 := blk_frozen BK125.out 3
                  have hfz42_4 := blk_frozen BK125.out 4
                  have hfz42_5 := blk_frozen BK125.out 5
                  have hfz42_6 := blk_frozen BK125.out 6
                  have hfz42_7 := blk_frozen BK125.out 7
                  have hfz42_8 := blk_frozen BK125.out 8
                  have hfz42_9 := blk_frozen BK125.out 9
                  have hfz42_10 := blk_frozen BK125.out 10
                  have hcz43_0 : wc.cell? ⟨gb133, 0, none⟩ = some (.string t126) := (blk_cell BK133.out 0).trans rfl
                  have hcz43_1 : wc.cell? ⟨gb133, 1, none⟩ = some (.string t127) := (blk_cell BK133.out 1).trans rfl
                  have hcz43_2 : wc.cell? ⟨gb133, 2, none⟩ = some (.int .i64 t128) := (blk_cell BK133.out 2).trans rfl
                  have hcz43_3 : wc.cell? ⟨gb133, 3, none⟩ = some (.int .i64 t129) := (blk_cell BK133.out 3).trans rfl
                  have hcz43_4 : wc.cell? ⟨gb133, 4, none⟩ = some (.int .i64 t130) := (blk_cell BK133.out 4).trans rfl
                  have hcz43_5 : wc.cell? ⟨gb133, 5, none⟩ = some (.string t131) := (blk_cell BK133.out 5).trans rfl
                  have hfz43_0 := blk_frozen BK133.out 0
                  have hfz43_1 := blk_frozen BK133.out 1
                  have hfz43_2 := blk_frozen BK133.out 2
                  have hfz43_3 := blk_frozen BK133.out 3
                  have hfz43_4 := blk_frozen BK133.out 4
                  have hfz43_5 := blk_frozen BK133.out 5
                  go_wp2_with (first | ((with_reducible refine gate_callee (f := 21) rfl ?_); refine goesL_ (some 37) rfl rfl Try.func21 (by kernel_rfl) rfl #[.string t126] rfl (by (try simp only [List.map_toArray, List.map_cons, List.map_nil]); first | done | rfl | (simp only [List.length_drop, List.length_take]; rfl)) ?_; (with_reducible refine (addr_Kind.calls t126 t135 _ A26.out).mono ?_); rintro e w' ⟨rfl, ⟨nd, rfl⟩⟩; refine ⟨_, rfl, ?_⟩) | (go_at_call 30; (with_reducible refine (slices_Contains_string_string.calls kj3 _ _ l0_8 t126 t136 _ ?side1 ?side2 A40.out).mono ?_); (case side1 => repeat (first | exact (Kd.C_below HR0_8.out (by repeat (first | (with_reducible first | exact HB.out | apply below_alloc | apply pw_below_drewN | apply below_drew1 | refine below_set ?_ GE125.out | refine below_set ?_ GE133.out) | exact HB.out))) | (with_reducible refine Kd.C_alloc ?_ _) | (with_reducible refine Kd.C_drewN ?_ _) | (with_reducible refine Kd.C_drew ?_))); (case side2 => exact HC0_8.out); rintro e w' ⟨rfl, ⟨nd, rfl⟩⟩))
                  go_ret
                  exact ⟨by first | rfl | (simp [errW_none, errW_some] <;> rfl) | (simp [*, errW_none, errW_some] <;> rfl), by repeat (first | (with_reducible first | exact HB.out | apply below_alloc | apply pw_below_drewN | apply below_drew1 | refine below_set ?_ GE125.out | refine below_set ?_ GE133.out) | exact HB.out)⟩
            · rw [if_neg c31] at H
              have c31b0 : (t135 == 2) = false := beq_eq_false_iff_ne.mpr c31
              have c31b1 : (t135 != 2) = true := bne_iff_ne.mpr c31
              by_cases c44 : a0_2 = true
              · subst c44
                have H1 : (some true) = some r := by rw [if_pos rfl] at H; exact H
                clear H
                have H := H1
                clear H1
                obtain rfl := Option.some.inj H
                have hnb45 := NB125_133.out
                have hnc45 := NB133_125.out
                have hcz46_0 : wc.cell? ⟨gb125, 0, none⟩ = some (.string a0_0) := (blk_cell BK125.out 0).trans rfl
                have hcz46_1 : wc.cell? ⟨gb125, 1, none⟩ = some (.bool false) := (blk_cell BK125.out 1).trans rfl
                have hcz46_2 : wc.cell? ⟨gb125, 2, none⟩ = some (.bool true) := (blk_cell BK125.out 2).trans rfl
                have hcz46_3 : wc.cell? ⟨gb125, 3, none⟩ = some (.bool a0_3) := (blk_cell BK125.out 3).trans rfl
                have hcz46_4 : wc.cell? ⟨gb125, 4, none⟩ = some (.bool a0_4) := (blk_cell BK125.out 4).trans rfl
                have hcz46_5 : wc.cell? ⟨gb125, 5, none⟩ = some (.bool a0_5) := (blk_cell BK125.out 5).trans rfl
                have hcz46_6 : wc.cell? ⟨gb125, 6, none⟩ = some (.bool a0_6) := (blk_cell BK125.out 6).trans rfl
                have hcz46_7 : wc.cell? ⟨gb125, 7, none⟩ = some (.slice A0_7 l0_7.length c0_7) := (blk_cell BK125.out 7).trans rfl
                have hcz46_8 : wc.cell? ⟨gb125, 8, none⟩ = some (.slice A0_8 l0_8.length c0_8) := (blk_cell BK125.out 8).trans rfl
                have hcz46_9 : wc.cell? ⟨gb125, 9, none⟩ = some (.bool a0_9) := (blk_cell BK125.out 9).trans rfl
                have hcz46_10 : wc.cell? ⟨gb125, 10, none⟩ = some (.slice A0_10 l0_10.length c0_10) := (blk_cell BK125.out 10).trans rfl
                have hfz46_0 := blk_frozen BK125.out 0
                have hfz46_1 := blk_frozen BK125.out 1
                have hfz46_2 := blk_frozen BK125.out 2
                have hfz46_3 := blk_frozen BK125.out 3
                have hfz46_4 := blk_frozen BK125.out 4
                have hfz46_5 := blk_frozen BK125.out 5
                have hfz46_6 := blk_frozen BK125.out 6
                have hfz46_7 := blk_frozen BK125.out 7
                have hfz46_8 := blk_frozen BK125.out 8
                have hfz46_9 := blk_frozen BK125.out 9
                have hfz46_10 := blk_frozen BK125.out 10
                have hcz47_0 : wc.cell? ⟨gb133, 0, none⟩ = some (.string t126) := (blk_cell BK133.out 0).trans rfl
                have hcz47_1 : wc.cell? ⟨gb133, 1, none⟩ = some (.string t127) := (blk_cell BK133.out 1).trans rfl
                have hcz47_2 : wc.cell? ⟨gb133, 2, none⟩ = some (.int .i64 t128) := (blk_cell BK133.out 2).trans rfl
                have hcz47_3 : wc.cell? ⟨gb133, 3, none⟩ = some (.int .i64 t129) := (blk_cell BK133.out 3).trans rfl
                have hcz47_4 : wc.cell? ⟨gb133, 4, none⟩ = some (.int .i64 t130) := (blk_cell BK133.out 4).trans rfl
                have hcz47_5 : wc.cell? ⟨gb133, 5, none⟩ = some (.string t131) := (blk_cell BK133.out 5).trans rfl
                have hfz47_0 := blk_frozen BK133.out 0
                have hfz47_1 := blk_frozen BK133.out 1
                have hfz47_2 := blk_frozen BK133.out 2
                have hfz47_3 := blk_frozen BK133.out 3
                have hfz47_4 := blk_frozen BK133.out 4
                have hfz47_5 := blk_frozen BK133.out 5
                go_wp2_with (first | ((with_reducible refine gate_callee (f := 21) rfl ?_); refine goesL_ (some 37) rfl rfl Try.func21 (by kernel_rfl) rfl #[.string t126] rfl (by (try simp only [List.map_toArray, List.map_cons, List.map_nil]); first | done | rfl | (simp only [List.length_drop, List.length_take]; rfl)) ?_; (with_reducible refine (addr_Kind.calls t126 t135 _ A26.out).mono ?_); rintro e w' ⟨rfl, ⟨nd, rfl⟩⟩; refine ⟨_, rfl, ?_⟩))
                go_ret
                exact ⟨by first | rfl | (simp [errW_none, errW_some] <;> rfl) | (simp [*, errW_none, errW_some] <;> rfl), by repeat (first | (with_reducible first | exact HB.out | apply below_alloc | apply pw_below_drewN | apply below_drew1 | refine below_set ?_ GE125.out | refine below_set ?_ GE133.out) | exact HB.out)⟩
              · replace c44 := Bool.eq_false_iff.mpr c44
                subst c44
                have H1 : (if a0_4 = true then (some false) else (if t126.toList = a0_0.toList then (some true) else ((slices_Contains_string_string.f kj3 l0_7 t126).bind fun t137 => (some t137)))) = some r := by rw [if_neg (show ¬ (false = true) by decide)] at H; exact H
                clear H
                have H := H1
                clear H1
                by_cases c48 : a0_4 = true
                · subst c48
                  have H1 : (some false) = some r := by rw [if_pos rfl] at H; exact H
                  clear H
                  have H := H1
                  clear H1
                  obtain rfl := Option.some.inj H
                  have hnb49 := NB125_133.out
                  have hnc49 := NB133_125.out
                  have hcz50_0 : wc.cell? ⟨gb125, 0, none⟩ = some (.string a0_0) := (blk_cell BK125.out 0).trans rfl
                  have hcz50_1 : wc.cell? ⟨gb125, 1, none⟩ = some (.bool false) := (blk_cell BK125.out 1).trans rfl
                  have hcz50_2 : wc.cell? ⟨gb125, 2, none⟩ = some (.bool false) := (blk_cell BK125.out 2).trans rfl
                  have hcz50_3 : wc.cell? ⟨gb125, 3, none⟩ = some (.bool a0_3) := (blk_cell BK125.out 3).trans rfl
                  have hcz50_4 : wc.cell? ⟨gb125, 4, none⟩ = some (.bool true) := (blk_cell BK125.out 4).trans rfl
                  have hcz50_5 : wc.cell? ⟨gb125, 5, none⟩ = some (.bool a0_5) := (blk_cell BK125.out 5).trans rfl
                  have hcz50_6 : wc.cell? ⟨gb125, 6, none⟩ = some (.bool a0_6) := (blk_cell BK125.out 6).trans rfl
                  have hcz50_7 : wc.cell? ⟨gb125, 7, none⟩ = some (.slice A0_7 l0_7.length c0_7) := (blk_cell BK125.out 7).trans rfl
                  have hcz50_8 : wc.cell? ⟨gb125, 8, none⟩ = some (.slice A0_8 l0_8.length c0_8) := (blk_cell BK125.out 8).trans rfl
                  have hcz50_9 : wc.cell? ⟨gb125, 9, none⟩ = some (.bool a0_9) := (blk_cell BK125.out 9).trans rfl
                  have hcz50_10 : wc.cell? ⟨gb125, 10, none⟩ = some (.slice A0_10 l0_10.length c0_10) := (blk_cell BK125.out 10).trans rfl
                  have hfz50_0 := blk_frozen BK125.out 0
                  have hfz50_1 := blk_frozen BK125.out 1
                  have hfz50_2 := blk_frozen BK125.out 2
                  have hfz50_3 := blk_frozen BK125.out 3
                  have hfz50_4 := blk_frozen BK125.out 4
                  have hfz50_5 := blk_frozen BK125.out 5
                  have hfz50_6 := blk_frozen BK125.out 6
                  have hfz50_7 := blk_frozen BK125.out 7
                  have hfz50_8 := blk_frozen BK125.out 8
                  have hfz50_9 := blk_frozen BK125.out 9
                  have hfz50_10 := blk_frozen BK125.out 10
                  have hcz51_0 : wc.cell? ⟨gb133, 0, none⟩ = some (.string t126) := (blk_cell BK133.out 0).trans rfl
                  have hcz51_1 : wc.cell? ⟨gb133, 1, none⟩ = some (.string t127) := (blk_cell BK133.out 1).trans rfl
                  have hcz51_2 : wc.cell? ⟨gb133, 2, none⟩ = some (.int .i64 t128) := (blk_cell BK133.out 2).trans rfl
                  have hcz51_3 : wc.cell? ⟨gb133, 3, none⟩ = some (.int .i64 t129) := (blk_cell BK133.out 3).trans rfl
                  have hcz51_4 : wc.cell? ⟨gb133, 4, none⟩ = some (.int .i64 t130) := (blk_cell BK133.out 4).trans rfl
                  have hcz51_5 : wc.cell? ⟨gb133, 5, none⟩ = some (.string t131) := (blk_cell BK133.out 5).trans rfl
                  have hfz51_0 := blk_frozen BK133.out 0
                  have hfz51_1 := blk_frozen BK133.out 1
                  have hfz51_2 := blk_frozen BK133.out 2
                  have hfz51_3 := blk_frozen BK133.out 3
                  have hfz51_4 := blk_frozen BK133.out 4
                  have hfz51_5 := blk_frozen BK133.out 5
                  go_wp2_with (first | ((with_reducible refine gate_callee (f := 21) rfl ?_); refine goesL_ (some 37) rfl rfl Try.func21 (by kernel_rfl) rfl #[.string t126] rfl (by (try simp only [List.map_toArray, List.map_cons, List.map_nil]); first | done | rfl | (simp only [List.length_drop, List.length_take]; rfl)) ?_; (with_reducible refine (addr_Kind.calls t126 t135 _ A26.out).mono ?_); rintro e w' ⟨rfl, ⟨nd, rfl⟩⟩; refine ⟨_, rfl, ?_⟩))
                  go_ret
                  exact ⟨by first | rfl | (simp [errW_none, errW_some] <;> rfl) | (simp [*, errW_none, errW_some] <;> rfl), by repeat (first | (with_reducible first | exact HB.out | apply below_alloc | apply pw_below_drewN | apply below_drew1 | refine below_set ?_ GE125.out | refine below_set ?_ GE133.out) | exact HB.out)⟩
                · replace c48 := Bool.eq_false_iff.mpr c48
                  subst c48
                  have H1 : (if t126.toList = a0_0.toList then (some true) else ((slices_Contains_string_string.f kj3 l0_7 t126).bind fun t137 => (some t137))) = some r := by rw [if_neg (show ¬ (false = true) by decide)] at H; exact H
                  clear H
                  have H := H1
                  clear H1
                  by_cases c52 : t126.toList = a0_0.toList
                  · rw [if_pos c52] at H
                    have c52b0 : (t126.toList == a0_0.toList) = true := beq_iff_eq.mpr c52
                    have c52b1 : (t126.toList != a0_0.toList) = false := bne_eq_false_iff_eq.mpr c52
                    clear c52
                    obtain rfl := Option.some.inj H
                    have hnb53 := NB125_133.out
                    have hnc53 := NB133_125.out
                    have hcz54_0 : wc.cell? ⟨gb125, 0, none⟩ = some (.string a0_0) := (blk_cell BK125.out 0).trans rfl
                    have hcz54_1 : wc.cell? ⟨gb125, 1, none⟩ = some (.bool false) := (blk_cell BK125.out 1).trans rfl
                    have hcz54_2 : wc.cell? ⟨gb125, 2, none⟩ = some (.bool false) := (blk_cell BK125.out 2).trans rfl
                    have hcz54_3 : wc.cell? ⟨gb125, 3, none⟩ = some (.bool a0_3) := (blk_cell BK125.out 3).trans rfl
                    have hcz54_4 : wc.cell? ⟨gb125, 4, none⟩ = some (.bool false) := (blk_cell BK125.out 4).trans rfl
                    have hcz54_5 : wc.cell? ⟨gb125, 5, none⟩ = some (.bool a0_5) := (blk_cell BK125.out 5).trans rfl
                    have hcz54_6 : wc.cell? ⟨gb125, 6, none⟩ = some (.bool a0_6) := (blk_cell BK125.out 6).trans rfl
                    have hcz54_7 : wc.cell? ⟨gb125, 7, none⟩ = some (.slice A0_7 l0_7.length c0_7) := (blk_cell BK125.out 7).trans rfl
                    have hcz54_8 : wc.cell? ⟨gb125, 8, none⟩ = some (.slice A0_8 l0_8.length c0_8) := (blk_cell BK125.out 8).trans rfl
                    have hcz54_9 : wc.cell? ⟨gb125, 9, none⟩ = some (.bool a0_9) := (blk_cell BK125.out 9).trans rfl
                    have hcz54_10 : wc.cell? ⟨gb125, 10, none⟩ = some (.slice A0_10 l0_10.length c0_10) := (blk_cell BK125.out 10).trans rfl
                    have hfz54_0 := blk_frozen BK125.out 0
                    have hfz54_1 := blk_frozen BK125.out 1
                    have hfz54_2 := blk_frozen BK125.out 2
                    have hfz54_3 := blk_frozen BK125.out 3
                    have hfz54_4 := blk_frozen BK125.out 4
                    have hfz54_5 := blk_frozen BK125.out 5
                    have hfz54_6 := blk_frozen BK125.out 6
                    have hfz54_7 := blk_frozen BK125.out 7
                    have hfz54_8 := blk_frozen BK125.out 8
                    have hfz54_9 := blk_frozen BK125.out 9
                    have hfz54_10 := blk_frozen BK125.out 10
                    have hcz55_0 : wc.cell? ⟨gb133, 0, none⟩ = some (.string t126) := (blk_cell BK133.out 0).trans rfl
                    have hcz55_1 : wc.cell? ⟨gb133, 1, none⟩ = some (.string t127) := (blk_cell BK133.out 1).trans rfl
                    have hcz55_2 : wc.cell? ⟨gb133, 2, none⟩ = some (.int .i64 t128) := (blk_cell BK133.out 2).trans rfl
                    have hcz55_3 : wc.cell? ⟨gb133, 3, none⟩ = some (.int .i64 t129) := (blk_cell BK133.out 3).trans rfl
                    have hcz55_4 : wc.cell? ⟨gb133, 4, none⟩ = some (.int .i64 t130) := (blk_cell BK133.out 4).trans rfl
                    have hcz55_5 : wc.cell? ⟨gb133, 5, none⟩ = some (.string t131) := (blk_cell BK133.out 5).trans rfl
                    have hfz55_0 := blk_frozen BK133.out 0
                    have hfz55_1 := blk_frozen BK133.out 1
                    have hfz55_2 := blk_frozen BK133.out 2
                    have hfz55_3 := blk_frozen BK133.out 3
                    have hfz55_4 := blk_frozen BK133.out 4
                    have hfz55_5 := blk_frozen BK133.out 5
                    go_wp2_with (first | ((with_reducible refine gate_callee (f := 21) rfl ?_); refine goesL_ (some 37) rfl rfl Try.func21 (by kernel_rfl) rfl #[.string t126] rfl (by (try simp only [List.map_toArray, List.map_cons, List.map_nil]); first | done | rfl | (simp only [List.length_drop, List.length_take]; rfl)) ?_; (with_reducible refine (addr_Kind.calls t126 t135 _ A26.out).mono ?_); rintro e w' ⟨rfl, ⟨nd, rfl⟩⟩; refine ⟨_, rfl, ?_⟩))
                    go_ret
                    exact ⟨by first | rfl | (simp [errW_none, errW_some] <;> rfl) | (simp [*, errW_none, errW_some] <;> rfl), by repeat (first | (with_reducible first | exact HB.out | apply below_alloc | apply pw_below_drewN | apply below_drew1 | refine below_set ?_ GE125.out | refine below_set ?_ GE133.out) | exact HB.out)⟩
                  · rw [if_neg c52] at H
                    have c52b0 : (t126.toList == a0_0.toList) = false := beq_eq_false_iff_ne.mpr c52
                    have c52b1 : (t126.toList != a0_0.toList) = true := bne_iff_ne.mpr c52
                    replace H := Option.bind_eq_some_iff.mp H
                    obtain ⟨t137, A560, H⟩ := H
                    replace H : (some t137) = some r := H
                    have A56 := Aside0.mk A560
                    clear A560
                    obtain rfl := Option.some.inj H
                    have hnb57 := NB125_133.out
                    have hnc57 := NB133_125.out
                    have hcz58_0 : wc.cell? ⟨gb125, 0, none⟩ = some (.string a0_0) := (blk_cell BK125.out 0).trans rfl
                    have hcz58_1 : wc.cell? ⟨gb125, 1, none⟩ = some (.bool false) := (blk_cell BK125.out 1).trans rfl
                    have hcz58_2 : wc.cell? ⟨gb125, 2, none⟩ = some (.bool false) := (blk_cell BK125.out 2).trans rfl
                    have hcz58_3 : wc.cell? ⟨gb125, 3, none⟩ = some (.bool a0_3) := (blk_cell BK125.out 3).trans rfl
                    have hcz58_4 : wc.cell? ⟨gb125, 4, none⟩ = some (.bool false) := (blk_cell BK125.out 4).trans rfl
                    have hcz58_5 : wc.cell? ⟨gb125, 5, none⟩ = some (.bool a0_5) := (blk_cell BK125.out 5).trans rfl
                    have hcz58_6 : wc.cell? ⟨gb125, 6, none⟩ = some (.bool a0_6) := (blk_cell BK125.out 6).trans rfl
                    have hcz58_7 : wc.cell? ⟨gb125, 7, none⟩ = some (.slice A0_7 l0_7.length c0_7) := (blk_cell BK125.out 7).trans rfl
                    have hcz58_8 : wc.cell? ⟨gb125, 8, none⟩ = some (.slice A0_8 l0_8.length c0_8) := (blk_cell BK125.out 8).trans rfl
                    have hcz58_9 : wc.cell? ⟨gb125, 9, none⟩ = some (.bool a0_9) := (blk_cell BK125.out 9).trans rfl
                    have hcz58_10 : wc.cell? ⟨gb125, 10, none⟩ = some (.slice A0_10 l0_10.length c0_10) := (blk_cell BK125.out 10).trans rfl
                    have hfz58_0 := blk_frozen BK125.out 0
                    have hfz58_1 := blk_frozen BK125.out 1
                    have hfz58_2 := blk_frozen BK125.out 2
                    have hfz58_3 := blk_frozen BK125.out 3
                    have hfz58_4 := blk_frozen BK125.out 4
                    have hfz58_5 := blk_frozen BK125.out 5
                    have hfz58_6 := blk_frozen BK125.out 6
                    have hfz58_7 := blk_frozen BK125.out 7
                    have hfz58_8 := blk_frozen BK125.out 8
                    have hfz58_9 := blk_frozen BK125.out 9
                    have hfz58_10 := blk_frozen BK125.out 10
                    have hcz59_0 : wc.cell? ⟨gb133, 0, none⟩ = some (.string t126) := (blk_cell BK133.out 0).trans rfl
                    have hcz59_1 : wc.cell? ⟨gb133, 1, none⟩ = some (.string t127) := (blk_cell BK133.out 1).trans rfl
                    have hcz59_2 : wc.cell? ⟨gb133, 2, none⟩ = some (.int .i64 t128) := (blk_cell BK133.out 2).trans rfl
                    have hcz59_3 : wc.cell? ⟨gb133, 3, none⟩ = some (.int .i64 t129) := (blk_cell BK133.out 3).trans rfl
                    have hcz59_4 : wc.cell? ⟨gb133, 4, none⟩ = some (.int .i64 t130) := (blk_cell BK133.out 4).trans rfl
                    have hcz59_5 : wc.cell? ⟨gb133, 5, none⟩ = some (.string t131) := (blk_cell BK133.out 5).trans rfl
                    have hfz59_0 := blk_frozen BK133.out 0
                    have hfz59_1 := blk_frozen BK133.out 1
                    have hfz59_2 := blk_frozen BK133.out 2
                    have hfz59_3 := blk_frozen BK133.out 3
                    have hfz59_4 := blk_frozen BK133.out 4
                    have hfz59_5 := blk_frozen BK133.out 5
                    go_wp2_with (first | ((with_reducible refine gate_callee (f := 21) rfl ?_); refine goesL_ (some 37) rfl rfl Try.func21 (by kernel_rfl) rfl #[.string t126] rfl (by (try simp only [List.map_toArray, List.map_cons, List.map_nil]); first | done | rfl | (simp only [List.length_drop, List.length_take]; rfl)) ?_; (with_reducible refine (addr_Kind.calls t126 t135 _ A26.out).mono ?_); rintro e w' ⟨rfl, ⟨nd, rfl⟩⟩; refine ⟨_, rfl, ?_⟩) | (go_at_call 30; (with_reducible refine (slices_Contains_string_string.calls kj3 _ _ l0_7 t126 t137 _ ?side1 ?side2 A56.out).mono ?_); (case side1 => repeat (first | exact (Kd.C_below HR0_7.out (by repeat (first | (with_reducible first | exact HB.out | apply below_alloc | apply pw_below_drewN | apply below_drew1 | refine below_set ?_ GE125.out | refine below_set ?_ GE133.out) | exact HB.out))) | (with_reducible refine Kd.C_alloc ?_ _) | (with_reducible refine Kd.C_drewN ?_ _) | (with_reducible refine Kd.C_drew ?_))); (case side2 => exact HC0_7.out); rintro e w' ⟨rfl, ⟨nd, rfl⟩⟩))
                    go_ret
                    exact ⟨by first | rfl | (simp [errW_none, errW_some] <;> rfl) | (simp [*, errW_none, errW_some] <;> rfl), by repeat (first | (with_reducible first | exact HB.out | apply below_alloc | apply pw_below_drewN | apply below_drew1 | refine below_set ?_ GE125.out | refine below_set ?_ GE133.out) | exact HB.out)⟩

end Go.Proofs.Ytnckogdplcijiaa.P
