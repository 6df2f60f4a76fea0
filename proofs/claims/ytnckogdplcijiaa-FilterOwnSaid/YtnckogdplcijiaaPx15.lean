/- What functions of the program compute, each with the walk that shows it: by a program (a turned copy of the kit's print; wip/myprint.py). -/
import Derived.Test.YtnckogdplcijiaaPx0
import Derived.Test.YtnckogdplcijiaaPx9
import Derived.Test.YtnckogdplcijiaaPx11
import Derived.Test.YtnckogdplcijiaaPx13
import Derived.Test.YtnckogdplcijiaaPx14
namespace Go.Proofs.Ytnckogdplcijiaa.P
open Go.RowKit Go.Proofs.YtnckogdplcijiaaW.PrintWords Go.Proofs.YtnckogdplcijiaaW.PrintLast Go.Proofs.YtnckogdplcijiaaW.PrintMore
attribute [local go_sem] max2_int min2_int max_two min_two max_three min_three max_four min_four   -- for this text's walks alone
set_option linter.unusedVariables false
set_option linter.unusedSimpArgs false

/-! ### aqueductref16_Admits: function 14 -/
def aqueductref16_Admits.j0 : Nat → Bool → ByteArray → Bool → Bool → Bool → Bool → Bool → Bool → List ByteArray → List ByteArray → Bool → List Int → ByteArray → ByteArray → Int → Int → Int → ByteArray → Option (Bool)
  | 0, _, _, _, _, _, _, _, _, _, _, _, _, _, _, _, _, _, _ => none
  | k + 1, x31, x188000, x188001, x188002, x188003, x188004, x188005, x188006, x188007, x188008, x188009, x188010, x196000, x196001, x196002, x196003, x196004, x196005 => if x31 = true then (some false) else ((aqueductref05_Kind.f k x196000).bind fun t197 => (if t197 = 3 then (if x188001 = true then (some true) else (some (!x188006))) else (if t197 = 2 then (if x188001 = true then (some true) else (if x188003 = true then (some true) else (if x188005 = true then (some false) else ((aqueductref16_Has.f k x188008 x196000).bind fun t198 => (some t198))))) else (if x188001 = true then (some true) else (if x188002 = true then (some true) else (if x188004 = true then (some false) else (if x196000.toList = x188000.toList then (some true) else ((aqueductref16_Has.f k x188007 x196000).bind fun t199 => (some t199)))))))))
def aqueductref16_Admits.f (k : Nat) (a0_0 : ByteArray) (a0_1 : Bool) (a0_2 : Bool) (a0_3 : Bool) (a0_4 : Bool) (a0_5 : Bool) (a0_6 : Bool) (l0_7 : List ByteArray) (l0_8 : List ByteArray) (a0_9 : Bool) (l0_10 : List Int) (a1 : ByteArray) : Option (Bool) := (aqueductref06_Parse.f k a1).bind fun bt188 => (if bt188.2.2.2.2.2.2 = 0 then (if a0_9 = true then (if bt188.2.2.1 ≥ 0 then ((aqueductref16_Net.f k l0_10 bt188.2.2.1).bind fun t196 => (aqueductref16_Admits.j0 k (!t196) a0_0 a0_1 a0_2 a0_3 a0_4 a0_5 a0_6 l0_7 l0_8 a0_9 l0_10 bt188.1 bt188.2.1 bt188.2.2.1 bt188.2.2.2.1 bt188.2.2.2.2.1 bt188.2.2.2.2.2.1)) else (aqueductref16_Admits.j0 k false a0_0 a0_1 a0_2 a0_3 a0_4 a0_5 a0_6 l0_7 l0_8 a0_9 l0_10 bt188.1 bt188.2.1 bt188.2.2.1 bt188.2.2.2.1 bt188.2.2.2.2.1 bt188.2.2.2.2.2.1)) else (aqueductref16_Admits.j0 k false a0_0 a0_1 a0_2 a0_3 a0_4 a0_5 a0_6 l0_7 l0_8 a0_9 l0_10 bt188.1 bt188.2.1 bt188.2.2.1 bt188.2.2.2.1 bt188.2.2.2.2.1 bt188.2.2.2.2.2.1)) else (aqueductref16_Admits.j0 k true a0_0 a0_1 a0_2 a0_3 a0_4 a0_5 a0_6 l0_7 l0_8 a0_9 l0_10 bt188.1 bt188.2.1 bt188.2.2.1 bt188.2.2.2.1 bt188.2.2.2.2.1 bt188.2.2.2.2.2.1))
theorem aqueductref16_Admits.mono_l : ∀ k, (∀ y0 y1 y2 y3 y4 y5 y6 y7 y8 y9 y10 y11 y12 y13 y14 y15 y16 y17, LeO (aqueductref16_Admits.j0 k y0 y1 y2 y3 y4 y5 y6 y7 y8 y9 y10 y11 y12 y13 y14 y15 y16 y17) (aqueductref16_Admits.j0 (k + 1) y0 y1 y2 y3 y4 y5 y6 y7 y8 y9 y10 y11 y12 y13 y14 y15 y16 y17))
  | 0 => fun _ _ _ _ _ _ _ _ _ _ _ _ _ _ _ _ _ _ r h => by simp [aqueductref16_Admits.j0] at h
  | k + 1 => by
    have ih0 := aqueductref16_Admits.mono_l k
    · intro y0 y1 y2 y3 y4 y5 y6 y7 y8 y9 y10 y11 y12 y13 y14 y15 y16 y17
      unfold aqueductref16_Admits.j0
      repeat' first
      | (with_reducible exact ih0 _ _ _ _ _ _ _ _ _ _ _ _ _ _ _ _ _ _)
      | (with_reducible exact aqueductref05_Kind.mono _ _)
      | (with_reducible exact aqueductref06_Parse.mono _ _)
      | (with_reducible exact aqueductref16_Has.mono _ _ _)
      | (with_reducible exact aqueductref16_Net.mono _ _ _)
      | (with_reducible exact LeO.refl _)
      | (with_reducible exact LeO.none _)
      | (with_reducible refine LeO.ite ?_ ?_)
      | (with_reducible refine LeO.bind ?_ (fun _ => ?_))
      | exact ih0 _ _ _ _ _ _ _ _ _ _ _ _ _ _ _ _ _ _
      | exact aqueductref05_Kind.mono _ _
      | exact aqueductref06_Parse.mono _ _
      | exact aqueductref16_Has.mono _ _ _
      | exact aqueductref16_Net.mono _ _ _
      | exact LeO.none _
      | refine LeO.ite ?_ ?_
      | refine LeO.bind ?_ (fun _ => ?_)
theorem aqueductref16_Admits.mono : ∀ a0 a1 a2 a3 a4 a5 a6 a7 a8 a9 a10 a11 k, LeO (aqueductref16_Admits.f k a0 a1 a2 a3 a4 a5 a6 a7 a8 a9 a10 a11) (aqueductref16_Admits.f (k + 1) a0 a1 a2 a3 a4 a5 a6 a7 a8 a9 a10 a11) := by
  intro a0 a1 a2 a3 a4 a5 a6 a7 a8 a9 a10 a11 k
  have ih0 := aqueductref16_Admits.mono_l k
  unfold aqueductref16_Admits.f
  repeat' first
      | (with_reducible exact ih0 _ _ _ _ _ _ _ _ _ _ _ _ _ _ _ _ _ _)
      | (with_reducible exact aqueductref05_Kind.mono _ _)
      | (with_reducible exact aqueductref06_Parse.mono _ _)
      | (with_reducible exact aqueductref16_Has.mono _ _ _)
      | (with_reducible exact aqueductref16_Net.mono _ _ _)
      | (with_reducible exact LeO.refl _)
      | (with_reducible exact LeO.none _)
      | (with_reducible refine LeO.ite ?_ ?_)
      | (with_reducible refine LeO.bind ?_ (fun _ => ?_))
      | exact ih0 _ _ _ _ _ _ _ _ _ _ _ _ _ _ _ _ _ _
      | exact aqueductref05_Kind.mono _ _
      | exact aqueductref06_Parse.mono _ _
      | exact aqueductref16_Has.mono _ _ _
      | exact aqueductref16_Net.mono _ _ _
      | exact LeO.none _
      | refine LeO.ite ?_ ?_
      | refine LeO.bind ?_ (fun _ => ?_)
set_option maxHeartbeats 8000000 in
set_option maxRecDepth 100000 in
theorem aqueductref16_Admits.calls (k : Nat) (a0_0 : ByteArray) (a0_1 : Bool) (a0_2 : Bool) (a0_3 : Bool) (a0_4 : Bool) (a0_5 : Bool) (a0_6 : Bool) (A0_7 : Option Addr) (c0_7 : Nat) (l0_7 : List ByteArray) (A0_8 : Option Addr) (c0_8 : Nat) (l0_8 : List ByteArray) (a0_9 : Bool) (A0_10 : Option Addr) (c0_10 : Nat) (l0_10 : List Int) (a1 : ByteArray) (r : Bool) (w : World) (hr0_7 : Kd.C Kd.string w A0_7 l0_7.length l0_7) (hc0_7 : l0_7.length ≤ c0_7) (hr0_8 : Kd.C Kd.string w A0_8 l0_8.length l0_8) (hc0_8 : l0_8.length ≤ c0_8) (hr0_10 : Kd.C (Kd.int .i64) w A0_10 l0_10.length l0_10) (hc0_10 : l0_10.length ≤ c0_10) (h : aqueductref16_Admits.f k a0_0 a0_1 a0_2 a0_3 a0_4 a0_5 a0_6 l0_7 l0_8 a0_9 l0_10 a1 = some r) :
    Calls Try.prog 14 #[.agg #[.string a0_0, .bool a0_1, .bool a0_2, .bool a0_3, .bool a0_4, .bool a0_5, .bool a0_6, .slice A0_7 l0_7.length c0_7, .slice A0_8 l0_8.length c0_8, .bool a0_9, .slice A0_10 l0_10.length c0_10], .string a1] w fun e w' => e = .returned (.bool r) ∧ Below w.heap.size w w' := by
  have hu25 := Try.underlying25
  have hu52 := Try.underlying52
  have HR0_7 := Aside0.mk hr0_7
  have HC0_7 := Aside0.mk hc0_7
  clear hr0_7 hc0_7
  have HR0_8 := Aside0.mk hr0_8
  have HC0_8 := Aside0.mk hc0_8
  clear hr0_8 hc0_8
  have HR0_10 := Aside0.mk hr0_10
  have HC0_10 := Aside0.mk hc0_10
  clear hr0_10 hc0_10
  have HB := Aside0.mk (Below.refl w.heap.size w)
  have H : ((aqueductref06_Parse.f k a1).bind fun bt188 => (if bt188.2.2.2.2.2.2 = 0 then (if a0_9 = true then (if bt188.2.2.1 ≥ 0 then ((aqueductref16_Net.f k l0_10 bt188.2.2.1).bind fun t196 => (aqueductref16_Admits.j0 k (!t196) a0_0 a0_1 a0_2 a0_3 a0_4 a0_5 a0_6 l0_7 l0_8 a0_9 l0_10 bt188.1 bt188.2.1 bt188.2.2.1 bt188.2.2.2.1 bt188.2.2.2.2.1 bt188.2.2.2.2.2.1)) else (aqueductref16_Admits.j0 k false a0_0 a0_1 a0_2 a0_3 a0_4 a0_5 a0_6 l0_7 l0_8 a0_9 l0_10 bt188.1 bt188.2.1 bt188.2.2.1 bt188.2.2.2.1 bt188.2.2.2.2.1 bt188.2.2.2.2.2.1)) else (aqueductref16_Admits.j0 k false a0_0 a0_1 a0_2 a0_3 a0_4 a0_5 a0_6 l0_7 l0_8 a0_9 l0_10 bt188.1 bt188.2.1 bt188.2.2.1 bt188.2.2.2.1 bt188.2.2.2.2.1 bt188.2.2.2.2.2.1)) else (aqueductref16_Admits.j0 k true a0_0 a0_1 a0_2 a0_3 a0_4 a0_5 a0_6 l0_7 l0_8 a0_9 l0_10 bt188.1 bt188.2.1 bt188.2.2.1 bt188.2.2.2.1 bt188.2.2.2.2.1 bt188.2.2.2.2.2.1))) = some r := h
  clear h
  replace H := Option.bind_eq_some_iff.mp H
  obtain ⟨⟨t188, t189, t190, t191, t192, t193, t194⟩, A30, H⟩ := H
  replace H : (if t194 = 0 then (if a0_9 = true then (if t190 ≥ 0 then ((aqueductref16_Net.f k l0_10 t190).bind fun t196 => (aqueductref16_Admits.j0 k (!t196) a0_0 a0_1 a0_2 a0_3 a0_4 a0_5 a0_6 l0_7 l0_8 a0_9 l0_10 t188 t189 t190 t191 t192 t193)) else (aqueductref16_Admits.j0 k false a0_0 a0_1 a0_2 a0_3 a0_4 a0_5 a0_6 l0_7 l0_8 a0_9 l0_10 t188 t189 t190 t191 t192 t193)) else (aqueductref16_Admits.j0 k false a0_0 a0_1 a0_2 a0_3 a0_4 a0_5 a0_6 l0_7 l0_8 a0_9 l0_10 t188 t189 t190 t191 t192 t193)) else (aqueductref16_Admits.j0 k true a0_0 a0_1 a0_2 a0_3 a0_4 a0_5 a0_6 l0_7 l0_8 a0_9 l0_10 t188 t189 t190 t191 t192 t193)) = some r := H
  have A3 := Aside0.mk A30
  clear A30
  have HC4 := Aside0.mk H
  clear H
  go_enter Try.func14, Try.ntmps14
  go_upto_region 2 with (first | ((with_reducible refine gate_dst (N := 2) rfl ?_); refine box_event ?hg (N := 2) ?hd (cs := #[.string a0_0, .bool a0_1, .bool a0_2, .bool a0_3, .bool a0_4, .bool a0_5, .bool a0_6, .slice A0_7 l0_7.length c0_7, .slice A0_8 l0_8.length c0_8, .bool a0_9, .slice A0_10 l0_10.length c0_10]) (t := 25) ?hr ?_; (case hd => rfl); (case hg => rfl); (case hr => first | (go_simp; done) | (go_simp; rfl)); intro gb187 hg w5 hbox hb; have n0_ := Aside0.mk (below_step (by repeat (first | (with_reducible first | exact HB.out | apply below_alloc | apply pw_below_drewN | apply below_drew1) | exact HB.out)) hb); have n1_ := Aside0.mk (hbox); have n2_ := Aside0.mk ((by rw [hg]; exact (below_size (by repeat (first | (with_reducible first | exact HB.out | apply below_alloc | apply pw_below_drewN | apply below_drew1) | exact HB.out))) : w.heap.size ≤ gb187)); have n3_ := Aside0.mk ((by rw [hg]; exact (below_size (by repeat (first | (with_reducible first | exact HB.out | apply below_alloc | apply pw_below_drewN | apply below_drew1) | exact HB.out))) : w.heap.size ≤ gb187)); clear HB; have HB := n0_; have BK187 := n1_; have GW187 := n2_; have GE187 := n3_; clear n0_ n1_ n2_ n3_; clear hb hbox hg) | ((with_reducible refine gate_callee (f := 31) rfl ?_); refine goesL_ (some 10) rfl rfl Try.func31 (by kernel_rfl) rfl #[.string a1] rfl (by (try simp only [List.map_toArray, List.map_cons, List.map_nil]); first | done | rfl | (simp only [List.length_drop, List.length_take]; rfl)) ?_; (with_reducible refine (aqueductref06_Parse.calls k a1 t188 t189 t190 t191 t192 t193 t194 _ A3.out).mono ?_); rintro e w6 ⟨rfl, hb⟩; refine ⟨_, rfl, ?_⟩; have n0_ := Aside0.mk (blk_below (g := gb187) (o := .cells #[.string a0_0, .bool a0_1, .bool a0_2, .bool a0_3, .bool a0_4, .bool a0_5, .bool a0_6, .slice A0_7 l0_7.length c0_7, .slice A0_8 l0_8.length c0_8, .bool a0_9, .slice A0_10 l0_10.length c0_10] 25 (0, 0)) (by (with_reducible repeat (first | refine blk_drewN ?_ _ | refine blk_drew ?_ | refine blk_alloc ?_ _)); exact BK187.out) hb); have n1_ := Aside0.mk (below_step (by repeat (first | (with_reducible first | exact HB.out | apply below_alloc | apply pw_below_drewN | apply below_drew1 | refine below_set ?_ GE187.out) | exact HB.out)) hb); clear BK187; clear HB; have BK187 := n0_; have HB := n1_; clear n0_ n1_; (try clear hb); (try clear hb2); (try clear hk); (try clear hi)) | ((with_reducible refine gate_dst (N := 5) rfl ?_); refine box_event ?hg (N := 5) ?hd (cs := #[.string (⟨#[]⟩ : ByteArray), .string (⟨#[]⟩ : ByteArray), .int .i64 0, .int .i64 0, .int .i64 0, .string (⟨#[]⟩ : ByteArray)]) (t := 52) ?hr ?_; (case hd => rfl); (case hg => rfl); (case hr => first | (go_simp; done) | (go_simp; rfl)); intro gb195 hg w7 hbox hb; have n0_ := Aside0.mk (blk_below (g := gb187) (o := .cells #[.string a0_0, .bool a0_1, .bool a0_2, .bool a0_3, .bool a0_4, .bool a0_5, .bool a0_6, .slice A0_7 l0_7.length c0_7, .slice A0_8 l0_8.length c0_8, .bool a0_9, .slice A0_10 l0_10.length c0_10] 25 (0, 0)) (by (with_reducible repeat (first | refine blk_drewN ?_ _ | refine blk_drew ?_ | refine blk_alloc ?_ _)); exact BK187.out) hb); have n1_ := Aside0.mk (below_step (by repeat (first | (with_reducible first | exact HB.out | apply below_alloc | apply pw_below_drewN | apply below_drew1 | refine below_set ?_ GE187.out) | exact HB.out)) hb); have n2_ := Aside0.mk (hbox); have n3_ := Aside0.mk ((by rw [hg]; exact (below_size (by repeat (first | (with_reducible first | exact HB.out | apply below_alloc | apply pw_below_drewN | apply below_drew1 | refine below_set ?_ GE187.out) | exact HB.out))) : w.heap.size ≤ gb195)); have n4_ := Aside0.mk ((by rw [hg]; exact (below_size (by repeat (first | (with_reducible first | exact HB.out | apply below_alloc | apply pw_below_drewN | apply below_drew1 | refine below_set ?_ GE187.out) | exact HB.out))) : w.heap.size ≤ gb195)); have n5_ := Aside0.mk ((by rw [hg]; exact Nat.ne_of_lt (blk_lt (g := gb187) (o := .cells #[.string a0_0, .bool a0_1, .bool a0_2, .bool a0_3, .bool a0_4, .bool a0_5, .bool a0_6, .slice A0_7 l0_7.length c0_7, .slice A0_8 l0_8.length c0_8, .bool a0_9, .slice A0_10 l0_10.length c0_10] 25 (0, 0)) (by (with_reducible repeat (first | refine blk_drewN ?_ _ | refine blk_drew ?_ | refine blk_alloc ?_ _)); exact BK187.out)) : gb187 ≠ gb195)); have n6_ := Aside0.mk ((by rw [hg]; exact Nat.ne_of_gt (blk_lt (g := gb187) (o := .cells #[.string a0_0, .bool a0_1, .bool a0_2, .bool a0_3, .bool a0_4, .bool a0_5, .bool a0_6, .slice A0_7 l0_7.length c0_7, .slice A0_8 l0_8.length c0_8, .bool a0_9, .slice A0_10 l0_10.length c0_10] 25 (0, 0)) (by (with_reducible repeat (first | refine blk_drewN ?_ _ | refine blk_drew ?_ | refine blk_alloc ?_ _)); exact BK187.out)) : gb195 ≠ gb187)); clear BK187; clear HB; have BK187 := n0_; have HB := n1_; have BK195 := n2_; have GW195 := n3_; have GE195 := n4_; have NB187_195 := n5_; have NB195_187 := n6_; clear n0_ n1_ n2_ n3_ n4_ n5_ n6_; clear hb hbox hg; have hnb8 := NB195_187.out; have hnc8 := NB187_195.out; have hcz9_0 : w7.cell? ⟨gb195, 0, none⟩ = some (.string (⟨#[]⟩ : ByteArray)) := (blk_cell BK195.out 0).trans rfl; have hcz9_1 : w7.cell? ⟨gb195, 1, none⟩ = some (.string (⟨#[]⟩ : ByteArray)) := (blk_cell BK195.out 1).trans rfl; have hcz9_2 : w7.cell? ⟨gb195, 2, none⟩ = some (.int .i64 0) := (blk_cell BK195.out 2).trans rfl; have hcz9_3 : w7.cell? ⟨gb195, 3, none⟩ = some (.int .i64 0) := (blk_cell BK195.out 3).trans rfl; have hcz9_4 : w7.cell? ⟨gb195, 4, none⟩ = some (.int .i64 0) := (blk_cell BK195.out 4).trans rfl; have hcz9_5 : w7.cell? ⟨gb195, 5, none⟩ = some (.string (⟨#[]⟩ : ByteArray)) := (blk_cell BK195.out 5).trans rfl; have hfz9_0 := blk_frozen BK195.out 0; have hfz9_1 := blk_frozen BK195.out 1; have hfz9_2 := blk_frozen BK195.out 2; have hfz9_3 := blk_frozen BK195.out 3; have hfz9_4 := blk_frozen BK195.out 4; have hfz9_5 := blk_frozen BK195.out 5))
  (try simp only [Act.put, List.setIfInBounds_toArray, List.set_cons_zero, List.set_cons_succ])
  go_cut [31] (fun v31 wc => ∃ (kq : Nat) (x31_3 : Bool), v31 = .bool x31_3 ∧ Aside0 (aqueductref16_Admits.j0 kq x31_3 a0_0 a0_1 a0_2 a0_3 a0_4 a0_5 a0_6 l0_7 l0_8 a0_9 l0_10 t188 t189 t190 t191 t192 t193 = some r) ∧ Aside0 (kq ≤ k) ∧ Aside0 (wc.heap[gb187]? = some (.cells #[.string a0_0, .bool a0_1, .bool a0_2, .bool a0_3, .bool a0_4, .bool a0_5, .bool a0_6, (.slice A0_7 l0_7.length c0_7), (.slice A0_8 l0_8.length c0_8), .bool a0_9, (.slice A0_10 l0_10.length c0_10)] 25 (0, 0))) ∧ Aside0 (wc.heap[gb195]? = some (.cells #[.string t188, .string t189, .int .i64 t190, .int .i64 t191, .int .i64 t192, .string t193] 52 (0, 0))) ∧ Aside0 (Below w.heap.size w wc))
  case first =>
    have H := HC4.out
    clear HC4
    by_cases c10 : t194 = 0
    · rw [if_pos c10] at H
      have c10b0 : (t194 == 0) = true := beq_iff_eq.mpr c10
      have c10b1 : (t194 != 0) = false := bne_eq_false_iff_eq.mpr c10
      clear c10
      (first | rw [c10b0] | (simp only [i64_w, i32_w]; rw [c10b0]) | skip)
      by_cases c11 : a0_9 = true
      · subst c11
        have H1 : (if t190 ≥ 0 then ((aqueductref16_Net.f k l0_10 t190).bind fun t196 => (aqueductref16_Admits.j0 k (!t196) a0_0 a0_1 a0_2 a0_3 a0_4 a0_5 a0_6 l0_7 l0_8 true l0_10 t188 t189 t190 t191 t192 t193)) else (aqueductref16_Admits.j0 k false a0_0 a0_1 a0_2 a0_3 a0_4 a0_5 a0_6 l0_7 l0_8 true l0_10 t188 t189 t190 t191 t192 t193)) = some r := by rw [if_pos rfl] at H; exact H
        clear H
        have H := H1
        clear H1
        by_cases c12 : t190 ≥ 0
        · rw [if_pos c12] at H
          have c12b0 : decide (0 ≤ t190) = true := decide_eq_true c12
          clear c12
          replace H := Option.bind_eq_some_iff.mp H
          obtain ⟨t196, A130, H⟩ := H
          replace H : (aqueductref16_Admits.j0 k (!t196) a0_0 a0_1 a0_2 a0_3 a0_4 a0_5 a0_6 l0_7 l0_8 true l0_10 t188 t189 t190 t191 t192 t193) = some r := H
          have A13 := Aside0.mk A130
          clear A130
          have H' := Aside0.mk H
          clear H
          have hnb14 := NB187_195.out
          have hnc14 := NB195_187.out
          have hcz15_0 : w7.cell? ⟨gb187, 0, none⟩ = some (.string a0_0) := (blk_cell BK187.out 0).trans rfl
          have hcz15_1 : w7.cell? ⟨gb187, 1, none⟩ = some (.bool a0_1) := (blk_cell BK187.out 1).trans rfl
          have hcz15_2 : w7.cell? ⟨gb187, 2, none⟩ = some (.bool a0_2) := (blk_cell BK187.out 2).trans rfl
          have hcz15_3 : w7.cell? ⟨gb187, 3, none⟩ = some (.bool a0_3) := (blk_cell BK187.out 3).trans rfl
          have hcz15_4 : w7.cell? ⟨gb187, 4, none⟩ = some (.bool a0_4) := (blk_cell BK187.out 4).trans rfl
          have hcz15_5 : w7.cell? ⟨gb187, 5, none⟩ = some (.bool a0_5) := (blk_cell BK187.out 5).trans rfl
          have hcz15_6 : w7.cell? ⟨gb187, 6, none⟩ = some (.bool a0_6) := (blk_cell BK187.out 6).trans rfl
          have hcz15_7 : w7.cell? ⟨gb187, 7, none⟩ = some (.slice A0_7 l0_7.length c0_7) := (blk_cell BK187.out 7).trans rfl
          have hcz15_8 : w7.cell? ⟨gb187, 8, none⟩ = some (.slice A0_8 l0_8.length c0_8) := (blk_cell BK187.out 8).trans rfl
          have hcz15_9 : w7.cell? ⟨gb187, 9, none⟩ = some (.bool true) := (blk_cell BK187.out 9).trans rfl
          have hcz15_10 : w7.cell? ⟨gb187, 10, none⟩ = some (.slice A0_10 l0_10.length c0_10) := (blk_cell BK187.out 10).trans rfl
          have hfz15_0 := blk_frozen BK187.out 0
          have hfz15_1 := blk_frozen BK187.out 1
          have hfz15_2 := blk_frozen BK187.out 2
          have hfz15_3 := blk_frozen BK187.out 3
          have hfz15_4 := blk_frozen BK187.out 4
          have hfz15_5 := blk_frozen BK187.out 5
          have hfz15_6 := blk_frozen BK187.out 6
          have hfz15_7 := blk_frozen BK187.out 7
          have hfz15_8 := blk_frozen BK187.out 8
          have hfz15_9 := blk_frozen BK187.out 9
          have hfz15_10 := blk_frozen BK187.out 10
          have hcz16_0 : w7.cell? ⟨gb195, 0, none⟩ = some (.string (⟨#[]⟩ : ByteArray)) := (blk_cell BK195.out 0).trans rfl
          have hcz16_1 : w7.cell? ⟨gb195, 1, none⟩ = some (.string (⟨#[]⟩ : ByteArray)) := (blk_cell BK195.out 1).trans rfl
          have hcz16_2 : w7.cell? ⟨gb195, 2, none⟩ = some (.int .i64 0) := (blk_cell BK195.out 2).trans rfl
          have hcz16_3 : w7.cell? ⟨gb195, 3, none⟩ = some (.int .i64 0) := (blk_cell BK195.out 3).trans rfl
          have hcz16_4 : w7.cell? ⟨gb195, 4, none⟩ = some (.int .i64 0) := (blk_cell BK195.out 4).trans rfl
          have hcz16_5 : w7.cell? ⟨gb195, 5, none⟩ = some (.string (⟨#[]⟩ : ByteArray)) := (blk_cell BK195.out 5).trans rfl
          have hfz16_0 := blk_frozen BK195.out 0
          have hfz16_1 := blk_frozen BK195.out 1
          have hfz16_2 := blk_frozen BK195.out 2
          have hfz16_3 := blk_frozen BK195.out 3
          have hfz16_4 := blk_frozen BK195.out 4
          have hfz16_5 := blk_frozen BK195.out 5
          go_wp2_with (first | (go_at_call 20; (with_reducible refine (aqueductref16_Net.calls k _ _ l0_10 t190 t196 _ ?side1 ?side2 A13.out).mono ?_); (case side1 => exact Kd.C_below HR0_10.out (by repeat (first | (with_reducible first | exact HB.out | apply below_alloc | apply pw_below_drewN | apply below_drew1 | refine below_set ?_ GE187.out | refine below_set ?_ GE195.out) | exact HB.out))); (case side2 => exact HC0_10.out); rintro e w' ⟨rfl, ⟨nd, rfl⟩⟩))
          go_meet
          case rel => exact ⟨_, (!t196), (by first | rfl | (simp; done) | (simp [*]; done)), H', ⟨by first | omega | exact Nat.le_refl _⟩, ⟨by (with_reducible repeat (first | refine blk_drewN ?_ _ | refine blk_drew ?_ | refine blk_alloc ?_ _)); refine blk_far ?_ NB187_195.out _; (with_reducible repeat (first | refine blk_drewN ?_ _ | refine blk_drew ?_ | refine blk_alloc ?_ _)); refine blk_far ?_ NB187_195.out _; (with_reducible repeat (first | refine blk_drewN ?_ _ | refine blk_drew ?_ | refine blk_alloc ?_ _)); refine blk_far ?_ NB187_195.out _; (with_reducible repeat (first | refine blk_drewN ?_ _ | refine blk_drew ?_ | refine blk_alloc ?_ _)); refine blk_far ?_ NB187_195.out _; (with_reducible repeat (first | refine blk_drewN ?_ _ | refine blk_drew ?_ | refine blk_alloc ?_ _)); refine blk_far ?_ NB187_195.out _; (with_reducible repeat (first | refine blk_drewN ?_ _ | refine blk_drew ?_ | refine blk_alloc ?_ _)); refine blk_far ?_ NB187_195.out _; (with_reducible repeat (first | refine blk_drewN ?_ _ | refine blk_drew ?_ | refine blk_alloc ?_ _)); exact BK187.out⟩, ⟨by (with_reducible repeat (first | refine blk_drewN ?_ _ | refine blk_drew ?_ | refine blk_alloc ?_ _)); refine blk_put (cs := #[.string t188, .string t189, .int .i64 t190, .int .i64 t191, .int .i64 t192, .string (⟨#[]⟩ : ByteArray)]) ?_ 5 _ rfl; (with_reducible repeat (first | refine blk_drewN ?_ _ | refine blk_drew ?_ | refine blk_alloc ?_ _)); refine blk_put (cs := #[.string t188, .string t189, .int .i64 t190, .int .i64 t191, .int .i64 0, .string (⟨#[]⟩ : ByteArray)]) ?_ 4 _ rfl; (with_reducible repeat (first | refine blk_drewN ?_ _ | refine blk_drew ?_ | refine blk_alloc ?_ _)); refine blk_put (cs := #[.string t188, .string t189, .int .i64 t190, .int .i64 0, .int .i64 0, .string (⟨#[]⟩ : ByteArray)]) ?_ 3 _ rfl; (with_reducible repeat (first | refine blk_drewN ?_ _ | refine blk_drew ?_ | refine blk_alloc ?_ _)); refine blk_put (cs := #[.string t188, .string t189, .int .i64 0, .int .i64 0, .int .i64 0, .string (⟨#[]⟩ : ByteArray)]) ?_ 2 _ rfl; (with_reducible repeat (first | refine blk_drewN ?_ _ | refine blk_drew ?_ | refine blk_alloc ?_ _)); refine blk_put (cs := #[.string t188, .string (⟨#[]⟩ : ByteArray), .int .i64 0, .int .i64 0, .int .i64 0, .string (⟨#[]⟩ : ByteArray)]) ?_ 1 _ rfl; (with_reducible repeat (first | refine blk_drewN ?_ _ | refine blk_drew ?_ | refine blk_alloc ?_ _)); refine blk_put (cs := #[.string (⟨#[]⟩ : ByteArray), .string (⟨#[]⟩ : ByteArray), .int .i64 0, .int .i64 0, .int .i64 0, .string (⟨#[]⟩ : ByteArray)]) ?_ 0 _ rfl; (with_reducible repeat (first | refine blk_drewN ?_ _ | refine blk_drew ?_ | refine blk_alloc ?_ _)); exact BK195.out⟩, ⟨by repeat (first | (with_reducible first | exact HB.out | apply below_alloc | apply pw_below_drewN | apply below_drew1 | refine below_set ?_ GE187.out | refine below_set ?_ GE195.out) | exact HB.out)⟩⟩
        · rw [if_neg c12] at H
          have c12b0 : decide (0 ≤ t190) = false := decide_eq_false c12
          clear c12
          have H' := Aside0.mk H
          clear H
          have hnb17 := NB187_195.out
          have hnc17 := NB195_187.out
          have hcz18_0 : w7.cell? ⟨gb187, 0, none⟩ = some (.string a0_0) := (blk_cell BK187.out 0).trans rfl
          have hcz18_1 : w7.cell? ⟨gb187, 1, none⟩ = some (.bool a0_1) := (blk_cell BK187.out 1).trans rfl
          have hcz18_2 : w7.cell? ⟨gb187, 2, none⟩ = some (.bool a0_2) := (blk_cell BK187.out 2).trans rfl
          have hcz18_3 : w7.cell? ⟨gb187, 3, none⟩ = some (.bool a0_3) := (blk_cell BK187.out 3).trans rfl
          have hcz18_4 : w7.cell? ⟨gb187, 4, none⟩ = some (.bool a0_4) := (blk_cell BK187.out 4).trans rfl
          have hcz18_5 : w7.cell? ⟨gb187, 5, none⟩ = some (.bool a0_5) := (blk_cell BK187.out 5).trans rfl
          have hcz18_6 : w7.cell? ⟨gb187, 6, none⟩ = some (.bool a0_6) := (blk_cell BK187.out 6).trans rfl
          have hcz18_7 : w7.cell? ⟨gb187, 7, none⟩ = some (.slice A0_7 l0_7.length c0_7) := (blk_cell BK187.out 7).trans rfl
          have hcz18_8 : w7.cell? ⟨gb187, 8, none⟩ = some (.slice A0_8 l0_8.length c0_8) := (blk_cell BK187.out 8).trans rfl
          have hcz18_9 : w7.cell? ⟨gb187, 9, none⟩ = some (.bool true) := (blk_cell BK187.out 9).trans rfl
          have hcz18_10 : w7.cell? ⟨gb187, 10, none⟩ = some (.slice A0_10 l0_10.length c0_10) := (blk_cell BK187.out 10).trans rfl
          have hfz18_0 := blk_frozen BK187.out 0
          have hfz18_1 := blk_frozen BK187.out 1
          have hfz18_2 := blk_frozen BK187.out 2
          have hfz18_3 := blk_frozen BK187.out 3
          have hfz18_4 := blk_frozen BK187.out 4
          have hfz18_5 := blk_frozen BK187.out 5
          have hfz18_6 := blk_frozen BK187.out 6
          have hfz18_7 := blk_frozen BK187.out 7
          have hfz18_8 := blk_frozen BK187.out 8
          have hfz18_9 := blk_frozen BK187.out 9
          have hfz18_10 := blk_frozen BK187.out 10
          have hcz19_0 : w7.cell? ⟨gb195, 0, none⟩ = some (.string (⟨#[]⟩ : ByteArray)) := (blk_cell BK195.out 0).trans rfl
          have hcz19_1 : w7.cell? ⟨gb195, 1, none⟩ = some (.string (⟨#[]⟩ : ByteArray)) := (blk_cell BK195.out 1).trans rfl
          have hcz19_2 : w7.cell? ⟨gb195, 2, none⟩ = some (.int .i64 0) := (blk_cell BK195.out 2).trans rfl
          have hcz19_3 : w7.cell? ⟨gb195, 3, none⟩ = some (.int .i64 0) := (blk_cell BK195.out 3).trans rfl
          have hcz19_4 : w7.cell? ⟨gb195, 4, none⟩ = some (.int .i64 0) := (blk_cell BK195.out 4).trans rfl
          have hcz19_5 : w7.cell? ⟨gb195, 5, none⟩ = some (.string (⟨#[]⟩ : ByteArray)) := (blk_cell BK195.out 5).trans rfl
          have hfz19_0 := blk_frozen BK195.out 0
          have hfz19_1 := blk_frozen BK195.out 1
          have hfz19_2 := blk_frozen BK195.out 2
          have hfz19_3 := blk_frozen BK195.out 3
          have hfz19_4 := blk_frozen BK195.out 4
          have hfz19_5 := blk_frozen BK195.out 5
          go_wp2
          go_meet
          case rel => exact ⟨_, (false), (by first | rfl | (simp; done) | (simp [*]; done)), H', ⟨by first | omega | exact Nat.le_refl _⟩, ⟨by (with_reducible repeat (first | refine blk_drewN ?_ _ | refine blk_drew ?_ | refine blk_alloc ?_ _)); refine blk_far ?_ NB187_195.out _; (with_reducible repeat (first | refine blk_drewN ?_ _ | refine blk_drew ?_ | refine blk_alloc ?_ _)); refine blk_far ?_ NB187_195.out _; (with_reducible repeat (first | refine blk_drewN ?_ _ | refine blk_drew ?_ | refine blk_alloc ?_ _)); refine blk_far ?_ NB187_195.out _; (with_reducible repeat (first | refine blk_drewN ?_ _ | refine blk_drew ?_ | refine blk_alloc ?_ _)); refine blk_far ?_ NB187_195.out _; (with_reducible repeat (first | refine blk_drewN ?_ _ | refine blk_drew ?_ | refine blk_alloc ?_ _)); refine blk_far ?_ NB187_195.out _; (with_reducible repeat (first | refine blk_drewN ?_ _ | refine blk_drew ?_ | refine blk_alloc ?_ _)); refine blk_far ?_ NB187_195.out _; (with_reducible repeat (first | refine blk_drewN ?_ _ | refine blk_drew ?_ | refine blk_alloc ?_ _)); exact BK187.out⟩, ⟨by (with_reducible repeat (first | refine blk_drewN ?_ _ | refine blk_drew ?_ | refine blk_alloc ?_ _)); refine blk_put (cs := #[.string t188, .string t189, .int .i64 t190, .int .i64 t191, .int .i64 t192, .string (⟨#[]⟩ : ByteArray)]) ?_ 5 _ rfl; (with_reducible repeat (first | refine blk_drewN ?_ _ | refine blk_drew ?_ | refine blk_alloc ?_ _)); refine blk_put (cs := #[.string t188, .string t189, .int .i64 t190, .int .i64 t191, .int .i64 0, .string (⟨#[]⟩ : ByteArray)]) ?_ 4 _ rfl; (with_reducible repeat (first | refine blk_drewN ?_ _ | refine blk_drew ?_ | refine blk_alloc ?_ _)); refine blk_put (cs := #[.string t188, .string t189, .int .i64 t190, .int .i64 0, .int .i64 0, .string (⟨#[]⟩ : ByteArray)]) ?_ 3 _ rfl; (with_reducible repeat (first | refine blk_drewN ?_ _ | refine blk_drew ?_ | refine blk_alloc ?_ _)); refine blk_put (cs := #[.string t188, .string t189, .int .i64 0, .int .i64 0, .int .i64 0, .string (⟨#[]⟩ : ByteArray)]) ?_ 2 _ rfl; (with_reducible repeat (first | refine blk_drewN ?_ _ | refine blk_drew ?_ | refine blk_alloc ?_ _)); refine blk_put (cs := #[.string t188, .string (⟨#[]⟩ : ByteArray), .int .i64 0, .int .i64 0, .int .i64 0, .string (⟨#[]⟩ : ByteArray)]) ?_ 1 _ rfl; (with_reducible repeat (first | refine blk_drewN ?_ _ | refine blk_drew ?_ | refine blk_alloc ?_ _)); refine blk_put (cs := #[.string (⟨#[]⟩ : ByteArray), .string (⟨#[]⟩ : ByteArray), .int .i64 0, .int .i64 0, .int .i64 0, .string (⟨#[]⟩ : ByteArray)]) ?_ 0 _ rfl; (with_reducible repeat (first | refine blk_drewN ?_ _ | refine blk_drew ?_ | refine blk_alloc ?_ _)); exact BK195.out⟩, ⟨by repeat (first | (with_reducible first | exact HB.out | apply below_alloc | apply pw_below_drewN | apply below_drew1 | refine below_set ?_ GE187.out | refine below_set ?_ GE195.out) | exact HB.out)⟩⟩
      · replace c11 := Bool.eq_false_iff.mpr c11
        subst c11
        have H1 : (aqueductref16_Admits.j0 k false a0_0 a0_1 a0_2 a0_3 a0_4 a0_5 a0_6 l0_7 l0_8 false l0_10 t188 t189 t190 t191 t192 t193) = some r := by rw [if_neg (show ¬ (false = true) by decide)] at H; exact H
        clear H
        have H := H1
        clear H1
        have H' := Aside0.mk H
        clear H
        have hnb20 := NB187_195.out
        have hnc20 := NB195_187.out
        have hcz21_0 : w7.cell? ⟨gb187, 0, none⟩ = some (.string a0_0) := (blk_cell BK187.out 0).trans rfl
        have hcz21_1 : w7.cell? ⟨gb187, 1, none⟩ = some (.bool a0_1) := (blk_cell BK187.out 1).trans rfl
        have hcz21_2 : w7.cell? ⟨gb187, 2, none⟩ = some (.bool a0_2) := (blk_cell BK187.out 2).trans rfl
        have hcz21_3 : w7.cell? ⟨gb187, 3, none⟩ = some (.bool a0_3) := (blk_cell BK187.out 3).trans rfl
        have hcz21_4 : w7.cell? ⟨gb187, 4, none⟩ = some (.bool a0_4) := (blk_cell BK187.out 4).trans rfl
        have hcz21_5 : w7.cell? ⟨gb187, 5, none⟩ = some (.bool a0_5) := (blk_cell BK187.out 5).trans rfl
        have hcz21_6 : w7.cell? ⟨gb187, 6, none⟩ = some (.bool a0_6) := (blk_cell BK187.out 6).trans rfl
        have hcz21_7 : w7.cell? ⟨gb187, 7, none⟩ = some (.slice A0_7 l0_7.length c0_7) := (blk_cell BK187.out 7).trans rfl
        have hcz21_8 : w7.cell? ⟨gb187, 8, none⟩ = some (.slice A0_8 l0_8.length c0_8) := (blk_cell BK187.out 8).trans rfl
        have hcz21_9 : w7.cell? ⟨gb187, 9, none⟩ = some (.bool false) := (blk_cell BK187.out 9).trans rfl
        have hcz21_10 : w7.cell? ⟨gb187, 10, none⟩ = some (.slice A0_10 l0_10.length c0_10) := (blk_cell BK187.out 10).trans rfl
        have hfz21_0 := blk_frozen BK187.out 0
        have hfz21_1 := blk_frozen BK187.out 1
        have hfz21_2 := blk_frozen BK187.out 2
        have hfz21_3 := blk_frozen BK187.out 3
        have hfz21_4 := blk_frozen BK187.out 4
        have hfz21_5 := blk_frozen BK187.out 5
        have hfz21_6 := blk_frozen BK187.out 6
        have hfz21_7 := blk_frozen BK187.out 7
        have hfz21_8 := blk_frozen BK187.out 8
        have hfz21_9 := blk_frozen BK187.out 9
        have hfz21_10 := blk_frozen BK187.out 10
        go_wp2
        go_meet
        case rel => exact ⟨_, (false), (by first | rfl | (simp; done) | (simp [*]; done)), H', ⟨by first | omega | exact Nat.le_refl _⟩, ⟨by (with_reducible repeat (first | refine blk_drewN ?_ _ | refine blk_drew ?_ | refine blk_alloc ?_ _)); refine blk_far ?_ NB187_195.out _; (with_reducible repeat (first | refine blk_drewN ?_ _ | refine blk_drew ?_ | refine blk_alloc ?_ _)); refine blk_far ?_ NB187_195.out _; (with_reducible repeat (first | refine blk_drewN ?_ _ | refine blk_drew ?_ | refine blk_alloc ?_ _)); refine blk_far ?_ NB187_195.out _; (with_reducible repeat (first | refine blk_drewN ?_ _ | refine blk_drew ?_ | refine blk_alloc ?_ _)); refine blk_far ?_ NB187_195.out _; (with_reducible repeat (first | refine blk_drewN ?_ _ | refine blk_drew ?_ | refine blk_alloc ?_ _)); refine blk_far ?_ NB187_195.out _; (with_reducible repeat (first | refine blk_drewN ?_ _ | refine blk_drew ?_ | refine blk_alloc ?_ _)); refine blk_far ?_ NB187_195.out _; (with_reducible repeat (first | refine blk_drewN ?_ _ | refine blk_drew ?_ | refine blk_alloc ?_ _)); exact BK187.out⟩, ⟨by (with_reducible repeat (first | refine blk_drewN ?_ _ | refine blk_drew ?_ | refine blk_alloc ?_ _)); refine blk_put (cs := #[.string t188, .string t189, .int .i64 t190, .int .i64 t191, .int .i64 t192, .string (⟨#[]⟩ : ByteArray)]) ?_ 5 _ rfl; (with_reducible repeat (first | refine blk_drewN ?_ _ | refine blk_drew ?_ | refine blk_alloc ?_ _)); refine blk_put (cs := #[.string t188, .string t189, .int .i64 t190, .int .i64 t191, .int .i64 0, .string (⟨#[]⟩ : ByteArray)]) ?_ 4 _ rfl; (with_reducible repeat (first | refine blk_drewN ?_ _ | refine blk_drew ?_ | refine blk_alloc ?_ _)); refine blk_put (cs := #[.string t188, .string t189, .int .i64 t190, .int .i64 0, .int .i64 0, .string (⟨#[]⟩ : ByteArray)]) ?_ 3 _ rfl; (with_reducible repeat (first | refine blk_drewN ?_ _ | refine blk_drew ?_ | refine blk_alloc ?_ _)); refine blk_put (cs := #[.string t188, .string t189, .int .i64 0, .int .i64 0, .int .i64 0, .string (⟨#[]⟩ : ByteArray)]) ?_ 2 _ rfl; (with_reducible repeat (first | refine blk_drewN ?_ _ | refine blk_drew ?_ | refine blk_alloc ?_ _)); refine blk_put (cs := #[.string t188, .string (⟨#[]⟩ : ByteArray), .int .i64 0, .int .i64 0, .int .i64 0, .string (⟨#[]⟩ : ByteArray)]) ?_ 1 _ rfl; (with_reducible repeat (first | refine blk_drewN ?_ _ | refine blk_drew ?_ | refine blk_alloc ?_ _)); refine blk_put (cs := #[.string (⟨#[]⟩ : ByteArray), .string (⟨#[]⟩ : ByteArray), .int .i64 0, .int .i64 0, .int .i64 0, .string (⟨#[]⟩ : ByteArray)]) ?_ 0 _ rfl; (with_reducible repeat (first | refine blk_drewN ?_ _ | refine blk_drew ?_ | refine blk_alloc ?_ _)); exact BK195.out⟩, ⟨by repeat (first | (with_reducible first | exact HB.out | apply below_alloc | apply pw_below_drewN | apply below_drew1 | refine below_set ?_ GE187.out | refine below_set ?_ GE195.out) | exact HB.out)⟩⟩
    · rw [if_neg c10] at H
      have c10b0 : (t194 == 0) = false := beq_eq_false_iff_ne.mpr c10
      have c10b1 : (t194 != 0) = true := bne_iff_ne.mpr c10
      (first | rw [c10b0] | (simp only [i64_w, i32_w]; rw [c10b0]) | skip)
      have H' := Aside0.mk H
      clear H
      go_wp2
      go_meet
      case rel => exact ⟨_, (true), (by first | rfl | (simp; done) | (simp [*]; done)), H', ⟨by first | omega | exact Nat.le_refl _⟩, ⟨by (with_reducible repeat (first | refine blk_drewN ?_ _ | refine blk_drew ?_ | refine blk_alloc ?_ _)); refine blk_far ?_ NB187_195.out _; (with_reducible repeat (first | refine blk_drewN ?_ _ | refine blk_drew ?_ | refine blk_alloc ?_ _)); refine blk_far ?_ NB187_195.out _; (with_reducible repeat (first | refine blk_drewN ?_ _ | refine blk_drew ?_ | refine blk_alloc ?_ _)); refine blk_far ?_ NB187_195.out _; (with_reducible repeat (first | refine blk_drewN ?_ _ | refine blk_drew ?_ | refine blk_alloc ?_ _)); refine blk_far ?_ NB187_195.out _; (with_reducible repeat (first | refine blk_drewN ?_ _ | refine blk_drew ?_ | refine blk_alloc ?_ _)); refine blk_far ?_ NB187_195.out _; (with_reducible repeat (first | refine blk_drewN ?_ _ | refine blk_drew ?_ | refine blk_alloc ?_ _)); refine blk_far ?_ NB187_195.out _; (with_reducible repeat (first | refine blk_drewN ?_ _ | refine blk_drew ?_ | refine blk_alloc ?_ _)); exact BK187.out⟩, ⟨by (with_reducible repeat (first | refine blk_drewN ?_ _ | refine blk_drew ?_ | refine blk_alloc ?_ _)); refine blk_put (cs := #[.string t188, .string t189, .int .i64 t190, .int .i64 t191, .int .i64 t192, .string (⟨#[]⟩ : ByteArray)]) ?_ 5 _ rfl; (with_reducible repeat (first | refine blk_drewN ?_ _ | refine blk_drew ?_ | refine blk_alloc ?_ _)); refine blk_put (cs := #[.string t188, .string t189, .int .i64 t190, .int .i64 t191, .int .i64 0, .string (⟨#[]⟩ : ByteArray)]) ?_ 4 _ rfl; (with_reducible repeat (first | refine blk_drewN ?_ _ | refine blk_drew ?_ | refine blk_alloc ?_ _)); refine blk_put (cs := #[.string t188, .string t189, .int .i64 t190, .int .i64 0, .int .i64 0, .string (⟨#[]⟩ : ByteArray)]) ?_ 3 _ rfl; (with_reducible repeat (first | refine blk_drewN ?_ _ | refine blk_drew ?_ | refine blk_alloc ?_ _)); refine blk_put (cs := #[.string t188, .string t189, .int .i64 0, .int .i64 0, .int .i64 0, .string (⟨#[]⟩ : ByteArray)]) ?_ 2 _ rfl; (with_reducible repeat (first | refine blk_drewN ?_ _ | refine blk_drew ?_ | refine blk_alloc ?_ _)); refine blk_put (cs := #[.string t188, .string (⟨#[]⟩ : ByteArray), .int .i64 0, .int .i64 0, .int .i64 0, .string (⟨#[]⟩ : ByteArray)]) ?_ 1 _ rfl; (with_reducible repeat (first | refine blk_drewN ?_ _ | refine blk_drew ?_ | refine blk_alloc ?_ _)); refine blk_put (cs := #[.string (⟨#[]⟩ : ByteArray), .string (⟨#[]⟩ : ByteArray), .int .i64 0, .int .i64 0, .int .i64 0, .string (⟨#[]⟩ : ByteArray)]) ?_ 0 _ rfl; (with_reducible repeat (first | refine blk_drewN ?_ _ | refine blk_drew ?_ | refine blk_alloc ?_ _)); exact BK195.out⟩, ⟨by repeat (first | (with_reducible first | exact HB.out | apply below_alloc | apply pw_below_drewN | apply below_drew1 | refine below_set ?_ GE187.out | refine below_set ?_ GE195.out) | exact HB.out)⟩⟩
  case rest =>
    clear HC4
    try clear c1
    try clear c2
    try clear p2
    try clear c3
    try clear c8
    try clear c10
    try clear c10b0
    try clear c10b1
    try clear c11
    try clear c12
    try clear c12b0
    try clear c14
    try clear c17
    try clear c20
    try clear hcz15_0
    try clear hcz15_1
    try clear hcz15_10
    try clear hcz15_2
    try clear hcz15_3
    try clear hcz15_4
    try clear hcz15_5
    try clear hcz15_6
    try clear hcz15_7
    try clear hcz15_8
    try clear hcz15_9
    try clear hcz16_0
    try clear hcz16_1
    try clear hcz16_2
    try clear hcz16_3
    try clear hcz16_4
    try clear hcz16_5
    try clear hcz18_0
    try clear hcz18_1
    try clear hcz18_10
    try clear hcz18_2
    try clear hcz18_3
    try clear hcz18_4
    try clear hcz18_5
    try clear hcz18_6
    try clear hcz18_7
    try clear hcz18_8
    try clear hcz18_9
    try clear hcz19_0
    try clear hcz19_1
    try clear hcz19_2
    try clear hcz19_3
    try clear hcz19_4
    try clear hcz19_5
    try clear hcz21_0
    try clear hcz21_1
    try clear hcz21_10
    try clear hcz21_2
    try clear hcz21_3
    try clear hcz21_4
    try clear hcz21_5
    try clear hcz21_6
    try clear hcz21_7
    try clear hcz21_8
    try clear hcz21_9
    try clear hcz9_0
    try clear hcz9_1
    try clear hcz9_2
    try clear hcz9_3
    try clear hcz9_4
    try clear hcz9_5
    try clear hfz15_0
    try clear hfz15_1
    try clear hfz15_10
    try clear hfz15_2
    try clear hfz15_3
    try clear hfz15_4
    try clear hfz15_5
    try clear hfz15_6
    try clear hfz15_7
    try clear hfz15_8
    try clear hfz15_9
    try clear hfz16_0
    try clear hfz16_1
    try clear hfz16_2
    try clear hfz16_3
    try clear hfz16_4
    try clear hfz16_5
    try clear hfz18_0
    try clear hfz18_1
    try clear hfz18_10
    try clear hfz18_2
    try clear hfz18_3
    try clear hfz18_4
    try clear hfz18_5
    try clear hfz18_6
    try clear hfz18_7
    try clear hfz18_8
    try clear hfz18_9
    try clear hfz19_0
    try clear hfz19_1
    try clear hfz19_2
    try clear hfz19_3
    try clear hfz19_4
    try clear hfz19_5
    try clear hfz21_0
    try clear hfz21_1
    try clear hfz21_10
    try clear hfz21_2
    try clear hfz21_3
    try clear hfz21_4
    try clear hfz21_5
    try clear hfz21_6
    try clear hfz21_7
    try clear hfz21_8
    try clear hfz21_9
    try clear hfz9_0
    try clear hfz9_1
    try clear hfz9_2
    try clear hfz9_3
    try clear hfz9_4
    try clear hfz9_5
    obtain ⟨kq, x31_3, rfl, HA, HJ3, BK187, BK195, HB⟩ := hcut
    cases kq with
    | zero => exact absurd HA.out (by simp [aqueductref16_Admits.j0])
    | succ kj3 =>
      have H := HA.out
      clear HA
      simp only [aqueductref16_Admits.j0] at H
      by_cases c22 : x31_3 = true
      · subst c22
        have H1 : (some false) = some r := by rw [if_pos rfl] at H; exact H
        clear H
        have H := H1
        clear H1
        obtain rfl := Option.some.inj H
        go_wp2
        go_ret
        exact ⟨by first | rfl | (simp [errW_none, errW_some] <;> rfl) | (simp [*, errW_none, errW_some] <;> rfl), by repeat (first | (with_reducible first | exact HB.out | apply below_alloc | apply pw_below_drewN | apply below_drew1 | refine below_set ?_ GE187.out | refine below_set ?_ GE195.out) | exact HB.out)⟩
      · replace c22 := Bool.eq_false_iff.mpr c22
        subst c22
        have H1 : ((aqueductref05_Kind.f kj3 t188).bind fun t197 => (if t197 = 3 then (if a0_1 = true then (some true) else (some (!a0_6))) else (if t197 = 2 then (if a0_1 = true then (some true) else (if a0_3 = true then (some true) else (if a0_5 = true then (some false) else ((aqueductref16_Has.f kj3 l0_8 t188).bind fun t198 => (some t198))))) else (if a0_1 = true then (some true) else (if a0_2 = true then (some true) else (if a0_4 = true then (some false) else (if t188.toList = a0_0.toList then (some true) else ((aqueductref16_Has.f kj3 l0_7 t188).bind fun t199 => (some t199))))))))) = some r := by rw [if_neg (show ¬ (false = true) by decide)] at H; exact H
        clear H
        have H := H1
        clear H1
        replace H := Option.bind_eq_some_iff.mp H
        obtain ⟨t197, A230, H⟩ := H
        replace H : (if t197 = 3 then (if a0_1 = true then (some true) else (some (!a0_6))) else (if t197 = 2 then (if a0_1 = true then (some true) else (if a0_3 = true then (some true) else (if a0_5 = true then (some false) else ((aqueductref16_Has.f kj3 l0_8 t188).bind fun t198 => (some t198))))) else (if a0_1 = true then (some true) else (if a0_2 = true then (some true) else (if a0_4 = true then (some false) else (if t188.toList = a0_0.toList then (some true) else ((aqueductref16_Has.f kj3 l0_7 t188).bind fun t199 => (some t199)))))))) = some r := H
        have A23 := Aside0.mk A230
        clear A230
        by_cases c24 : t197 = 3
        · rw [if_pos c24] at H
          have c24b0 : (t197 == 3) = true := beq_iff_eq.mpr c24
          have c24b1 : (t197 != 3) = false := bne_eq_false_iff_eq.mpr c24
          clear c24
          by_cases c25 : a0_1 = true
          · subst c25
            have H1 : (some true) = some r := by rw [if_pos rfl] at H; exact H
            clear H
            have H := H1
            clear H1
            obtain rfl := Option.some.inj H
            have hnb26 := NB195_187.out
            have hnc26 := NB187_195.out
            have hcz27_0 : wc.cell? ⟨gb195, 0, none⟩ = some (.string t188) := (blk_cell BK195.out 0).trans rfl
            have hcz27_1 : wc.cell? ⟨gb195, 1, none⟩ = some (.string t189) := (blk_cell BK195.out 1).trans rfl
            have hcz27_2 : wc.cell? ⟨gb195, 2, none⟩ = some (.int .i64 t190) := (blk_cell BK195.out 2).trans rfl
            have hcz27_3 : wc.cell? ⟨gb195, 3, none⟩ = some (.int .i64 t191) := (blk_cell BK195.out 3).trans rfl
            have hcz27_4 : wc.cell? ⟨gb195, 4, none⟩ = some (.int .i64 t192) := (blk_cell BK195.out 4).trans rfl
            have hcz27_5 : wc.cell? ⟨gb195, 5, none⟩ = some (.string t193) := (blk_cell BK195.out 5).trans rfl
            have hfz27_0 := blk_frozen BK195.out 0
            have hfz27_1 := blk_frozen BK195.out 1
            have hfz27_2 := blk_frozen BK195.out 2
            have hfz27_3 := blk_frozen BK195.out 3
            have hfz27_4 := blk_frozen BK195.out 4
            have hfz27_5 := blk_frozen BK195.out 5
            go_wp2_with (first | ((with_reducible refine gate_callee (f := 25) rfl ?_); refine goesL_ (some 34) rfl rfl Try.func25 (by kernel_rfl) rfl #[.string t188] rfl (by (try simp only [List.map_toArray, List.map_cons, List.map_nil]); first | done | rfl | (simp only [List.length_drop, List.length_take]; rfl)) ?_; (with_reducible refine (aqueductref05_Kind.calls kj3 t188 t197 _ A23.out).mono ?_); rintro e w' ⟨rfl, ⟨nd, rfl⟩⟩; refine ⟨_, rfl, ?_⟩; have hcz28_0 : wc.cell? ⟨gb187, 0, none⟩ = some (.string a0_0) := (blk_cell BK187.out 0).trans rfl; have hcz28_1 : wc.cell? ⟨gb187, 1, none⟩ = some (.bool true) := (blk_cell BK187.out 1).trans rfl; have hcz28_2 : wc.cell? ⟨gb187, 2, none⟩ = some (.bool a0_2) := (blk_cell BK187.out 2).trans rfl; have hcz28_3 : wc.cell? ⟨gb187, 3, none⟩ = some (.bool a0_3) := (blk_cell BK187.out 3).trans rfl; have hcz28_4 : wc.cell? ⟨gb187, 4, none⟩ = some (.bool a0_4) := (blk_cell BK187.out 4).trans rfl; have hcz28_5 : wc.cell? ⟨gb187, 5, none⟩ = some (.bool a0_5) := (blk_cell BK187.out 5).trans rfl; have hcz28_6 : wc.cell? ⟨gb187, 6, none⟩ = some (.bool a0_6) := (blk_cell BK187.out 6).trans rfl; have hcz28_7 : wc.cell? ⟨gb187, 7, none⟩ = some (.slice A0_7 l0_7.length c0_7) := (blk_cell BK187.out 7).trans rfl; have hcz28_8 : wc.cell? ⟨gb187, 8, none⟩ = some (.slice A0_8 l0_8.length c0_8) := (blk_cell BK187.out 8).trans rfl; have hcz28_9 : wc.cell? ⟨gb187, 9, none⟩ = some (.bool a0_9) := (blk_cell BK187.out 9).trans rfl; have hcz28_10 : wc.cell? ⟨gb187, 10, none⟩ = some (.slice A0_10 l0_10.length c0_10) := (blk_cell BK187.out 10).trans rfl; have hfz28_0 := blk_frozen BK187.out 0; have hfz28_1 := blk_frozen BK187.out 1; have hfz28_2 := blk_frozen BK187.out 2; have hfz28_3 := blk_frozen BK187.out 3; have hfz28_4 := blk_frozen BK187.out 4; have hfz28_5 := blk_frozen BK187.out 5; have hfz28_6 := blk_frozen BK187.out 6; have hfz28_7 := blk_frozen BK187.out 7; have hfz28_8 := blk_frozen BK187.out 8; have hfz28_9 := blk_frozen BK187.out 9; have hfz28_10 := blk_frozen BK187.out 10))
            go_ret
            exact ⟨by first | rfl | (simp [errW_none, errW_some] <;> rfl) | (simp [*, errW_none, errW_some] <;> rfl), by repeat (first | (with_reducible first | exact HB.out | apply below_alloc | apply pw_below_drewN | apply below_drew1 | refine below_set ?_ GE187.out | refine below_set ?_ GE195.out) | exact HB.out)⟩
          · replace c25 := Bool.eq_false_iff.mpr c25
            subst c25
            have H1 : (some (!a0_6)) = some r := by rw [if_neg (show ¬ (false = true) by decide)] at H; exact H
            clear H
            have H := H1
            clear H1
            obtain rfl := Option.some.inj H
            have hnb29 := NB195_187.out
            have hnc29 := NB187_195.out
            have hcz30_0 : wc.cell? ⟨gb195, 0, none⟩ = some (.string t188) := (blk_cell BK195.out 0).trans rfl
            have hcz30_1 : wc.cell? ⟨gb195, 1, none⟩ = some (.string t189) := (blk_cell BK195.out 1).trans rfl
            have hcz30_2 : wc.cell? ⟨gb195, 2, none⟩ = some (.int .i64 t190) := (blk_cell BK195.out 2).trans rfl
            have hcz30_3 : wc.cell? ⟨gb195, 3, none⟩ = some (.int .i64 t191) := (blk_cell BK195.out 3).trans rfl
            have hcz30_4 : wc.cell? ⟨gb195, 4, none⟩ = some (.int .i64 t192) := (blk_cell BK195.out 4).trans rfl
            have hcz30_5 : wc.cell? ⟨gb195, 5, none⟩ = some (.string t193) := (blk_cell BK195.out 5).trans rfl
            have hfz30_0 := blk_frozen BK195.out 0
            have hfz30_1 := blk_frozen BK195.out 1
            have hfz30_2 := blk_frozen BK195.out 2
            have hfz30_3 := blk_frozen BK195.out 3
            have hfz30_4 := blk_frozen BK195.out 4
            have hfz30_5 := blk_frozen BK195.out 5
            go_wp2_with (first | ((with_reducible refine gate_callee (f := 25) rfl ?_); refine goesL_ (some 34) rfl rfl Try.func25 (by kernel_rfl) rfl #[.string t188] rfl (by (try simp only [List.map_toArray, List.map_cons, List.map_nil]); first | done | rfl | (simp only [List.length_drop, List.length_take]; rfl)) ?_; (with_reducible refine (aqueductref05_Kind.calls kj3 t188 t197 _ A23.out).mono ?_); rintro e w' ⟨rfl, ⟨nd, rfl⟩⟩; refine ⟨_, rfl, ?_⟩; have hcz31_0 : wc.cell? ⟨gb187, 0, none⟩ = some (.string a0_0) := (blk_cell BK187.out 0).trans rfl; have hcz31_1 : wc.cell? ⟨gb187, 1, none⟩ = some (.bool false) := (blk_cell BK187.out 1).trans rfl; have hcz31_2 : wc.cell? ⟨gb187, 2, none⟩ = some (.bool a0_2) := (blk_cell BK187.out 2).trans rfl; have hcz31_3 : wc.cell? ⟨gb187, 3, none⟩ = some (.bool a0_3) := (blk_cell BK187.out 3).trans rfl; have hcz31_4 : wc.cell? ⟨gb187, 4, none⟩ = some (.bool a0_4) := (blk_cell BK187.out 4).trans rfl; have hcz31_5 : wc.cell? ⟨gb187, 5, none⟩ = some (.bool a0_5) := (blk_cell BK187.out 5).trans rfl; have hcz31_6 : wc.cell? ⟨gb187, 6, none⟩ = some (.bool a0_6) := (blk_cell BK187.out 6).trans rfl; have hcz31_7 : wc.cell? ⟨gb187, 7, none⟩ = some (.slice A0_7 l0_7.length c0_7) := (blk_cell BK187.out 7).trans rfl; have hcz31_8 : wc.cell? ⟨gb187, 8, none⟩ = some (.slice A0_8 l0_8.length c0_8) := (blk_cell BK187.out 8).trans rfl; have hcz31_9 : wc.cell? ⟨gb187, 9, none⟩ = some (.bool a0_9) := (blk_cell BK187.out 9).trans rfl; have hcz31_10 : wc.cell? ⟨gb187, 10, none⟩ = some (.slice A0_10 l0_10.length c0_10) := (blk_cell BK187.out 10).trans rfl; have hfz31_0 := blk_frozen BK187.out 0; have hfz31_1 := blk_frozen BK187.out 1; have hfz31_2 := blk_frozen BK187.out 2; have hfz31_3 := blk_frozen BK187.out 3; have hfz31_4 := blk_frozen BK187.out 4; have hfz31_5 := blk_frozen BK187.out 5; have hfz31_6 := blk_frozen BK187.out 6; have hfz31_7 := blk_frozen BK187.out 7; have hfz31_8 := blk_frozen BK187.out 8; have hfz31_9 := blk_frozen BK187.out 9; have hfz31_10 := blk_frozen BK187.out 10))
            go_ret
            exact ⟨by first | rfl | (simp [errW_none, errW_some] <;> rfl) | (simp [*, errW_none, errW_some] <;> rfl), by repeat (first | (with_reducible first | exact HB.out | apply below_alloc | apply pw_below_drewN | apply below_drew1 | refine below_set ?_ GE187.out | refine below_set ?_ GE195.out) | exact HB.out)⟩
        · rw [if_neg c24] at H
          have c24b0 : (t197 == 3) = false := beq_eq_false_iff_ne.mpr c24
          have c24b1 : (t197 != 3) = true := bne_iff_ne.mpr c24
          by_cases c32 : t197 = 2
          · rw [if_pos c32] at H
            have c32b0 : (t197 == 2) = true := beq_iff_eq.mpr c32
            have c32b1 : (t197 != 2) = false := bne_eq_false_iff_eq.mpr c32
            clear c32
            by_cases c33 : a0_1 = true
            · subst c33
              have H1 : (some true) = some r := by rw [if_pos rfl] at H; exact H
              clear H
              have H := H1
              clear H1
              obtain rfl := Option.some.inj H
              have hnb34 := NB195_187.out
              have hnc34 := NB187_195.out
              have hcz35_0 : wc.cell? ⟨gb195, 0, none⟩ = some (.string t188) := (blk_cell BK195.out 0).trans rfl
              have hcz35_1 : wc.cell? ⟨gb195, 1, none⟩ = some (.string t189) := (blk_cell BK195.out 1).trans rfl
              have hcz35_2 : wc.cell? ⟨gb195, 2, none⟩ = some (.int .i64 t190) := (blk_cell BK195.out 2).trans rfl
              have hcz35_3 : wc.cell? ⟨gb195, 3, none⟩ = some (.int .i64 t191) := (blk_cell BK195.out 3).trans rfl
              have hcz35_4 : wc.cell? ⟨gb195, 4, none⟩ = some (.int .i64 t192) := (blk_cell BK195.out 4).trans rfl
              have hcz35_5 : wc.cell? ⟨gb195, 5, none⟩ = some (.string t193) := (blk_cell BK195.out 5).trans rfl
              have hfz35_0 := blk_frozen BK195.out 0
              have hfz35_1 := blk_frozen BK195.out 1
              have hfz35_2 := blk_frozen BK195.out 2
              have hfz35_3 := blk_frozen BK195.out 3
              have hfz35_4 := blk_frozen BK195.out 4
              have hfz35_5 := blk_frozen BK195.out 5
              go_wp2_with (first | ((with_reducible refine gate_callee (f := 25) rfl ?_); refine goesL_ (some 34) rfl rfl Try.func25 (by kernel_rfl) rfl #[.string t188] rfl (by (try simp only [List.map_toArray, List.map_cons, List.map_nil]); first | done | rfl | (simp only [List.length_drop, List.length_take]; rfl)) ?_; (with_reducible refine (aqueductref05_Kind.calls kj3 t188 t197 _ A23.out).mono ?_); rintro e w' ⟨rfl, ⟨nd, rfl⟩⟩; refine ⟨_, rfl, ?_⟩; have hcz36_0 : wc.cell? ⟨gb187, 0, none⟩ = some (.string a0_0) := (blk_cell BK187.out 0).trans rfl; have hcz36_1 : wc.cell? ⟨gb187, 1, none⟩ = some (.bool true) := (blk_cell BK187.out 1).trans rfl; have hcz36_2 : wc.cell? ⟨gb187, 2, none⟩ = some (.bool a0_2) := (blk_cell BK187.out 2).trans rfl; have hcz36_3 : wc.cell? ⟨gb187, 3, none⟩ = some (.bool a0_3) := (blk_cell BK187.out 3).trans rfl; have hcz36_4 : wc.cell? ⟨gb187, 4, none⟩ = some (.bool a0_4) := (blk_cell BK187.out 4).trans rfl; have hcz36_5 : wc.cell? ⟨gb187, 5, none⟩ = some (.bool a0_5) := (blk_cell BK187.out 5).trans rfl; have hcz36_6 : wc.cell? ⟨gb187, 6, none⟩ = some (.bool a0_6) := (blk_cell BK187.out 6).trans rfl; have hcz36_7 : wc.cell? ⟨gb187, 7, none⟩ = some (.slice A0_7 l0_7.length c0_7) := (blk_cell BK187.out 7).trans rfl; have hcz36_8 : wc.cell? ⟨gb187, 8, none⟩ = some (.slice A0_8 l0_8.length c0_8) := (blk_cell BK187.out 8).trans rfl; have hcz36_9 : wc.cell? ⟨gb187, 9, none⟩ = some (.bool a0_9) := (blk_cell BK187.out 9).trans rfl; have hcz36_10 : wc.cell? ⟨gb187, 10, none⟩ = some (.slice A0_10 l0_10.length c0_10) := (blk_cell BK187.out 10).trans rfl; have hfz36_0 := blk_frozen BK187.out 0; have hfz36_1 := blk_frozen BK187.out 1; have hfz36_2 := blk_frozen BK187.out 2; have hfz36_3 := blk_frozen BK187.out 3; have hfz36_4 := blk_frozen BK187.out 4; have hfz36_5 := blk_frozen BK187.out 5; have hfz36_6 := blk_frozen BK187.out 6; have hfz36_7 := blk_frozen BK187.out 7; have hfz36_8 := blk_frozen BK187.out 8; have hfz36_9 := blk_frozen BK187.out 9; have hfz36_10 := blk_frozen BK187.out 10))
              go_ret
              exact ⟨by first | rfl | (simp [errW_none, errW_some] <;> rfl) | (simp [*, errW_none, errW_some] <;> rfl), by repeat (first | (with_reducible first | exact HB.out | apply below_alloc | apply pw_below_drewN | apply below_drew1 | refine below_set ?_ GE187.out | refine below_set ?_ GE195.out) | exact HB.out)⟩
            · replace c33 := Bool.eq_false_iff.mpr c33
              subst c33
              have H1 : (if a0_3 = true then (some true) else (if a0_5 = true then (some false) else ((aqueductref16_Has.f kj3 l0_8 t188).bind fun t198 => (some t198)))) = some r := by rw [if_neg (show ¬ (false = true) by decide)] at H; exact H
              clear H
              have H := H1
              clear H1
              by_cases c37 : a0_3 = true
              · subst c37
                have H1 : (some true) = some r := by rw [if_pos rfl] at H; exact H
                clear H
                have H := H1
                clear H1
                obtain rfl := Option.some.inj H
                have hnb38 := NB195_187.out
                have hnc38 := NB187_195.out
                have hcz39_0 : wc.cell? ⟨gb195, 0, none⟩ = some (.string t188) := (blk_cell BK195.out 0).trans rfl
                have hcz39_1 : wc.cell? ⟨gb195, 1, none⟩ = some (.string t189) := (blk_cell BK195.out 1).trans rfl
                have hcz39_2 : wc.cell? ⟨gb195, 2, none⟩ = some (.int .i64 t190) := (blk_cell BK195.out 2).trans rfl
                have hcz39_3 : wc.cell? ⟨gb195, 3, none⟩ = some (.int .i64 t191) := (blk_cell BK195.out 3).trans rfl
                have hcz39_4 : wc.cell? ⟨gb195, 4, none⟩ = some (.int .i64 t192) := (blk_cell BK195.out 4).trans rfl
                have hcz39_5 : wc.cell? ⟨gb195, 5, none⟩ = some (.string t193) := (blk_cell BK195.out 5).trans rfl
                have hfz39_0 := blk_frozen BK195.out 0
                have hfz39_1 := blk_frozen BK195.out 1
                have hfz39_2 := blk_frozen BK195.out 2
                have hfz39_3 := blk_frozen BK195.out 3
                have hfz39_4 := blk_frozen BK195.out 4
                have hfz39_5 := blk_frozen BK195.out 5
                go_wp2_with (first | ((with_reducible refine gate_callee (f := 25) rfl ?_); refine goesL_ (some 34) rfl rfl Try.func25 (by kernel_rfl) rfl #[.string t188] rfl (by (try simp only [List.map_toArray, List.map_cons, List.map_nil]); first | done | rfl | (simp only [List.length_drop, List.length_take]; rfl)) ?_; (with_reducible refine (aqueductref05_Kind.calls kj3 t188 t197 _ A23.out).mono ?_); rintro e w' ⟨rfl, ⟨nd, rfl⟩⟩; refine ⟨_, rfl, ?_⟩; have hcz40_0 : wc.cell? ⟨gb187, 0, none⟩ = some (.string a0_0) := (blk_cell BK187.out 0).trans rfl; have hcz40_1 : wc.cell? ⟨gb187, 1, none⟩ = some (.bool false) := (blk_cell BK187.out 1).trans rfl; have hcz40_2 : wc.cell? ⟨gb187, 2, none⟩ = some (.bool a0_2) := (blk_cell BK187.out 2).trans rfl; have hcz40_3 : wc.cell? ⟨gb187, 3, none⟩ = some (.bool true) := (blk_cell BK187.out 3).trans rfl; have hcz40_4 : wc.cell? ⟨gb187, 4, none⟩ = some (.bool a0_4) := (blk_cell BK187.out 4).trans rfl; have hcz40_5 : wc.cell? ⟨gb187, 5, none⟩ = some (.bool a0_5) := (blk_cell BK187.out 5).trans rfl; have hcz40_6 : wc.cell? ⟨gb187, 6, none⟩ = some (.bool a0_6) := (blk_cell BK187.out 6).trans rfl; have hcz40_7 : wc.cell? ⟨gb187, 7, none⟩ = some (.slice A0_7 l0_7.length c0_7) := (blk_cell BK187.out 7).trans rfl; have hcz40_8 : wc.cell? ⟨gb187, 8, none⟩ = some (.slice A0_8 l0_8.length c0_8) := (blk_cell BK187.out 8).trans rfl; have hcz40_9 : wc.cell? ⟨gb187, 9, none⟩ = some (.bool a0_9) := (blk_cell BK187.out 9).trans rfl; have hcz40_10 : wc.cell? ⟨gb187, 10, none⟩ = some (.slice A0_10 l0_10.length c0_10) := (blk_cell BK187.out 10).trans rfl; have hfz40_0 := blk_frozen BK187.out 0; have hfz40_1 := blk_frozen BK187.out 1; have hfz40_2 := blk_frozen BK187.out 2; have hfz40_3 := blk_frozen BK187.out 3; have hfz40_4 := blk_frozen BK187.out 4; have hfz40_5 := blk_frozen BK187.out 5; have hfz40_6 := blk_frozen BK187.out 6; have hfz40_7 := blk_frozen BK187.out 7; have hfz40_8 := blk_frozen BK187.out 8; have hfz40_9 := blk_frozen BK187.out 9; have hfz40_10 := blk_frozen BK187.out 10))
                go_ret
                exact ⟨by first | rfl | (simp [errW_none, errW_some] <;> rfl) | (simp [*, errW_none, errW_some] <;> rfl), by repeat (first | (with_reducible first | exact HB.out | apply below_alloc | apply pw_below_drewN | apply below_drew1 | refine below_set ?_ GE187.out | refine below_set ?_ GE195.out) | exact HB.out)⟩
              · replace c37 := Bool.eq_false_iff.mpr c37
                subst c37
                have H1 : (if a0_5 = true then (some false) else ((aqueductref16_Has.f kj3 l0_8 t188).bind fun t198 => (some t198))) = some r := by rw [if_neg (show ¬ (false = true) by decide)] at H; exact H
                clear H
                have H := H1
                clear H1
                by_cases c41 : a0_5 = true
                · subst c41
                  have H1 : (some false) = some r := by rw [if_pos rfl] at H; exact H
                  clear H
                  have H := H1
                  clear H1
                  obtain rfl := Option.some.inj H
                  have hnb42 := NB195_187.out
                  have hnc42 := NB187_195.out
                  have hcz43_0 : wc.cell? ⟨gb195, 0, none⟩ = some (.string t188) := (blk_cell BK195.out 0).trans rfl
                  have hcz43_1 : wc.cell? ⟨gb195, 1, none⟩ = some (.string t189) := (blk_cell BK195.out 1).trans rfl
                  have hcz43_2 : wc.cell? ⟨gb195, 2, none⟩ = some (.int .i64 t190) := (blk_cell BK195.out 2).trans rfl
                  have hcz43_3 : wc.cell? ⟨gb195, 3, none⟩ = some (.int .i64 t191) := (blk_cell BK195.out 3).trans rfl
                  have hcz43_4 : wc.cell? ⟨gb195, 4, none⟩ = some (.int .i64 t192) := (blk_cell BK195.out 4).trans rfl
                  have hcz43_5 : wc.cell? ⟨gb195, 5, none⟩ = some (.string t193) := (blk_cell BK195.out 5).trans rfl
                  have hfz43_0 := blk_frozen BK195.out 0
                  have hfz43_1 := blk_frozen BK195.out 1
                  have hfz43_2 := blk_frozen BK195.out 2
                  have hfz43_3 := blk_frozen BK195.out 3
                  have hfz43_4 := blk_frozen BK195.out 4
                  have hfz43_5 := blk_frozen BK195.out 5
                  go_wp2_with (first | ((with_reducible refine gate_callee (f := 25) rfl ?_); refine goesL_ (some 34) rfl rfl Try.func25 (by kernel_rfl) rfl #[.string t188] rfl (by (try simp only [List.map_toArray, List.map_cons, List.map_nil]); first | done | rfl | (simp only [List.length_drop, List.length_take]; rfl)) ?_; (with_reducible refine (aqueductref05_Kind.calls kj3 t188 t197 _ A23.out).mono ?_); rintro e w' ⟨rfl, ⟨nd, rfl⟩⟩; refine ⟨_, rfl, ?_⟩; have hcz44_0 : wc.cell? ⟨gb187, 0, none⟩ = some (.string a0_0) := (blk_cell BK187.out 0).trans rfl; have hcz44_1 : wc.cell? ⟨gb187, 1, none⟩ = some (.bool false) := (blk_cell BK187.out 1).trans rfl; have hcz44_2 : wc.cell? ⟨gb187, 2, none⟩ = some (.bool a0_2) := (blk_cell BK187.out 2).trans rfl; have hcz44_3 : wc.cell? ⟨gb187, 3, none⟩ = some (.bool false) := (blk_cell BK187.out 3).trans rfl; have hcz44_4 : wc.cell? ⟨gb187, 4, none⟩ = some (.bool a0_4) := (blk_cell BK187.out 4).trans rfl; have hcz44_5 : wc.cell? ⟨gb187, 5, none⟩ = some (.bool true) := (blk_cell BK187.out 5).trans rfl; have hcz44_6 : wc.cell? ⟨gb187, 6, none⟩ = some (.bool a0_6) := (blk_cell BK187.out 6).trans rfl; have hcz44_7 : wc.cell? ⟨gb187, 7, none⟩ = some (.slice A0_7 l0_7.length c0_7) := (blk_cell BK187.out 7).trans rfl; have hcz44_8 : wc.cell? ⟨gb187, 8, none⟩ = some (.slice A0_8 l0_8.length c0_8) := (blk_cell BK187.out 8).trans rfl; have hcz44_9 : wc.cell? ⟨gb187, 9, none⟩ = some (.bool a0_9) := (blk_cell BK187.out 9).trans rfl; have hcz44_10 : wc.cell? ⟨gb187, 10, none⟩ = some (.slice A0_10 l0_10.length c0_10) := (blk_cell BK187.out 10).trans rfl; have hfz44_0 := blk_frozen BK187.out 0; have hfz44_1 := blk_frozen BK187.out 1; have hfz44_2 := blk_frozen BK187.out 2; have hfz44_3 := blk_frozen BK187.out 3; have hfz44_4 := blk_frozen BK187.out 4; have hfz44_5 := blk_frozen BK187.out 5; have hfz44_6 := blk_frozen BK187.out 6; have hfz44_7 := blk_frozen BK187.out 7; have hfz44_8 := blk_frozen BK187.out 8; have hfz44_9 := blk_frozen BK187.out 9; have hfz44_10 := blk_frozen BK187.out 10))
                  go_ret
                  exact ⟨by first | rfl | (simp [errW_none, errW_some] <;> rfl) | (simp [*, errW_none, errW_some] <;> rfl), by repeat (first | (with_reducible first | exact HB.out | apply below_alloc | apply pw_below_drewN | apply below_drew1 | refine below_set ?_ GE187.out | refine below_set ?_ GE195.out) | exact HB.out)⟩
                · replace c41 := Bool.eq_false_iff.mpr c41
                  subst c41
                  have H1 : ((aqueductref16_Has.f kj3 l0_8 t188).bind fun t198 => (some t198)) = some r := by rw [if_neg (show ¬ (false = true) by decide)] at H; exact H
                  clear H
                  have H := H1
                  clear H1
                  replace H := Option.bind_eq_some_iff.mp H
                  obtain ⟨t198, A450, H⟩ := H
                  replace H : (some t198) = some r := H
                  have A45 := Aside0.mk A450
                  clear A450
                  obtain rfl := Option.some.inj H
                  have hnb46 := NB195_187.out
                  have hnc46 := NB187_195.out
                  have hcz47_0 : wc.cell? ⟨gb195, 0, none⟩ = some (.string t188) := (blk_cell BK195.out 0).trans rfl
                  have hcz47_1 : wc.cell? ⟨gb195, 1, none⟩ = some (.string t189) := (blk_cell BK195.out 1).trans rfl
                  have hcz47_2 : wc.cell? ⟨gb195, 2, none⟩ = some (.int .i64 t190) := (blk_cell BK195.out 2).trans rfl
                  have hcz47_3 : wc.cell? ⟨gb195, 3, none⟩ = some (.int .i64 t191) := (blk_cell BK195.out 3).trans rfl
                  have hcz47_4 : wc.cell? ⟨gb195, 4, none⟩ = some (.int .i64 t192) := (blk_cell BK195.out 4).trans rfl
                  have hcz47_5 : wc.cell? ⟨gb195, 5, none⟩ = some (.string t193) := (blk_cell BK195.out 5).trans rfl
                  have hfz47_0 := blk_frozen BK195.out 0
                  have hfz47_1 := blk_frozen BK195.out 1
                  have hfz47_2 := blk_frozen BK195.out 2
                  have hfz47_3 := blk_frozen BK195.out 3
                  have hfz47_4 := blk_frozen BK195.out 4
                  have hfz47_5 := blk_frozen BK195.out 5
                  go_wp2_with (first | ((with_reducible refine gate_callee (f := 25) rfl ?_); refine goesL_ (some 34) rfl rfl Try.func25 (by kernel_rfl) rfl #[.string t188] rfl (by (try simp only [List.map_toArray, List.map_cons, List.map_nil]); first | done | rfl | (simp only [List.length_drop, List.length_take]; rfl)) ?_; (with_reducible refine (aqueductref05_Kind.calls kj3 t188 t197 _ A23.out).mono ?_); rintro e w' ⟨rfl, ⟨nd, rfl⟩⟩; refine ⟨_, rfl, ?_⟩; have hcz48_0 : wc.cell? ⟨gb187, 0, none⟩ = some (.string a0_0) := (blk_cell BK187.out 0).trans rfl; have hcz48_1 : wc.cell? ⟨gb187, 1, none⟩ = some (.bool false) := (blk_cell BK187.out 1).trans rfl; have hcz48_2 : wc.cell? ⟨gb187, 2, none⟩ = some (.bool a0_2) := (blk_cell BK187.out 2).trans rfl; have hcz48_3 : wc.cell? ⟨gb187, 3, none⟩ = some (.bool false) := (blk_cell BK187.out 3).trans rfl; have hcz48_4 : wc.cell? ⟨gb187, 4, none⟩ = some (.bool a0_4) := (blk_cell BK187.out 4).trans rfl; have hcz48_5 : wc.cell? ⟨gb187, 5, none⟩ = some (.bool false) := (blk_cell BK187.out 5).trans rfl; have hcz48_6 : wc.cell? ⟨gb187, 6, none⟩ = some (.bool a0_6) := (blk_cell BK187.out 6).trans rfl; have hcz48_7 : wc.cell? ⟨gb187, 7, none⟩ = some (.slice A0_7 l0_7.length c0_7) := (blk_cell BK187.out 7).trans rfl; have hcz48_8 : wc.cell? ⟨gb187, 8, none⟩ = some (.slice A0_8 l0_8.length c0_8) := (blk_cell BK187.out 8).trans rfl; have hcz48_9 : wc.cell? ⟨gb187, 9, none⟩ = some (.bool a0_9) := (blk_cell BK187.out 9).trans rfl; have hcz48_10 : wc.cell? ⟨gb187, 10, none⟩ = some (.slice A0_10 l0_10.length c0_10) := (blk_cell BK187.out 10).trans rfl; have hfz48_0 := blk_frozen BK187.out 0; have hfz48_1 := blk_frozen BK187.out 1; have hfz48_2 := blk_frozen BK187.out 2; have hfz48_3 := blk_frozen BK187.out 3; have hfz48_4 := blk_frozen BK187.out 4; have hfz48_5 := blk_frozen BK187.out 5; have hfz48_6 := blk_frozen BK187.out 6; have hfz48_7 := blk_frozen BK187.out 7; have hfz48_8 := blk_frozen BK187.out 8; have hfz48_9 := blk_frozen BK187.out 9; have hfz48_10 := blk_frozen BK187.out 10) | (go_at_call 32; (with_reducible refine (aqueductref16_Has.calls kj3 _ _ l0_8 t188 t198 _ ?side1 ?side2 A45.out).mono ?_); (case side1 => repeat (first | exact (Kd.C_below HR0_8.out (by repeat (first | (with_reducible first | exact HB.out | apply below_alloc | apply pw_below_drewN | apply below_drew1 | refine below_set ?_ GE187.out | refine below_set ?_ GE195.out) | exact HB.out))) | (with_reducible refine Kd.C_alloc ?_ _) | (with_reducible refine Kd.C_drewN ?_ _) | (with_reducible refine Kd.C_drew ?_))); (case side2 => exact HC0_8.out); rintro e w' ⟨rfl, ⟨nd, rfl⟩⟩))
                  go_ret
                  exact ⟨by first | rfl | (simp [errW_none, errW_some] <;> rfl) | (simp [*, errW_none, errW_some] <;> rfl), by repeat (first | (with_reducible first | exact HB.out | apply below_alloc | apply pw_below_drewN | apply below_drew1 | refine below_set ?_ GE187.out | refine below_set ?_ GE195.out) | exact HB.out)⟩
          · rw [if_neg c32] at H
            have c32b0 : (t197 == 2) = false := beq_eq_false_iff_ne.mpr c32
            have c32b1 : (t197 != 2) = true := bne_iff_ne.mpr c32
            by_cases c49 : a0_1 = true
            · subst c49
              have H1 : (some true) = some r := by rw [if_pos rfl] at H; exact H
              clear H
              have H := H1
              clear H1
              obtain rfl := Option.some.inj H
              have hnb50 := NB195_187.out
              have hnc50 := NB187_195.out
              have hcz51_0 : wc.cell? ⟨gb195, 0, none⟩ = some (.string t188) := (blk_cell BK195.out 0).trans rfl
              have hcz51_1 : wc.cell? ⟨gb195, 1, none⟩ = some (.string t189) := (blk_cell BK195.out 1).trans rfl
              have hcz51_2 : wc.cell? ⟨gb195, 2, none⟩ = some (.int .i64 t190) := (blk_cell BK195.out 2).trans rfl
              have hcz51_3 : wc.cell? ⟨gb195, 3, none⟩ = some (.int .i64 t191) := (blk_cell BK195.out 3).trans rfl
              have hcz51_4 : wc.cell? ⟨gb195, 4, none⟩ = some (.int .i64 t192) := (blk_cell BK195.out 4).trans rfl
              have hcz51_5 : wc.cell? ⟨gb195, 5, none⟩ = some (.string t193) := (blk_cell BK195.out 5).trans rfl
              have hfz51_0 := blk_frozen BK195.out 0
              have hfz51_1 := blk_frozen BK195.out 1
              have hfz51_2 := blk_frozen BK195.out 2
              have hfz51_3 := blk_frozen BK195.out 3
              have hfz51_4 := blk_frozen BK195.out 4
              have hfz51_5 := blk_frozen BK195.out 5
              go_wp2_with (first | ((with_reducible refine gate_callee (f := 25) rfl ?_); refine goesL_ (some 34) rfl rfl Try.func25 (by kernel_rfl) rfl #[.string t188] rfl (by (try simp only [List.map_toArray, List.map_cons, List.map_nil]); first | done | rfl | (simp only [List.length_drop, List.length_take]; rfl)) ?_; (with_reducible refine (aqueductref05_Kind.calls kj3 t188 t197 _ A23.out).mono ?_); rintro e w' ⟨rfl, ⟨nd, rfl⟩⟩; refine ⟨_, rfl, ?_⟩; have hcz52_0 : wc.cell? ⟨gb187, 0, none⟩ = some (.string a0_0) := (blk_cell BK187.out 0).trans rfl; have hcz52_1 : wc.cell? ⟨gb187, 1, none⟩ = some (.bool true) := (blk_cell BK187.out 1).trans rfl; have hcz52_2 : wc.cell? ⟨gb187, 2, none⟩ = some (.bool a0_2) := (blk_cell BK187.out 2).trans rfl; have hcz52_3 : wc.cell? ⟨gb187, 3, none⟩ = some (.bool a0_3) := (blk_cell BK187.out 3).trans rfl; have hcz52_4 : wc.cell? ⟨gb187, 4, none⟩ = some (.bool a0_4) := (blk_cell BK187.out 4).trans rfl; have hcz52_5 : wc.cell? ⟨gb187, 5, none⟩ = some (.bool a0_5) := (blk_cell BK187.out 5).trans rfl; have hcz52_6 : wc.cell? ⟨gb187, 6, none⟩ = some (.bool a0_6) := (blk_cell BK187.out 6).trans rfl; have hcz52_7 : wc.cell? ⟨gb187, 7, none⟩ = some (.slice A0_7 l0_7.length c0_7) := (blk_cell BK187.out 7).trans rfl; have hcz52_8 : wc.cell? ⟨gb187, 8, none⟩ = some (.slice A0_8 l0_8.length c0_8) := (blk_cell BK187.out 8).trans rfl; have hcz52_9 : wc.cell? ⟨gb187, 9, none⟩ = some (.bool a0_9) := (blk_cell BK187.out 9).trans rfl; have hcz52_10 : wc.cell? ⟨gb187, 10, none⟩ = some (.slice A0_10 l0_10.length c0_10) := (blk_cell BK187.out 10).trans rfl; have hfz52_0 := blk_frozen BK187.out 0; have hfz52_1 := blk_frozen BK187.out 1; have hfz52_2 := blk_frozen BK187.out 2; have hfz52_3 := blk_frozen BK187.out 3; have hfz52_4 := blk_frozen BK187.out 4; have hfz52_5 := blk_frozen BK187.out 5; have hfz52_6 := blk_frozen BK187.out 6; have hfz52_7 := blk_frozen BK187.out 7; have hfz52_8 := blk_frozen BK187.out 8; have hfz52_9 := blk_frozen BK187.out 9; have hfz52_10 := blk_frozen BK187.out 10))
              go_ret
              exact ⟨by first | rfl | (simp [errW_none, errW_some] <;> rfl) | (simp [*, errW_none, errW_some] <;> rfl), by repeat (first | (with_reducible first | exact HB.out | apply below_alloc | apply pw_below_drewN | apply below_drew1 | refine below_set ?_ GE187.out | refine below_set ?_ GE195.out) | exact HB.out)⟩
            · replace c49 := Bool.eq_false_iff.mpr c49
              subst c49
              have H1 : (if a0_2 = true then (some true) else (if a0_4 = true then (some false) else (if t188.toList = a0_0.toList then (some true) else ((aqueductref16_Has.f kj3 l0_7 t188).bind fun t199 => (some t199))))) = some r := by rw [if_neg (show ¬ (false = true) by decide)] at H; exact H
              clear H
              have H := H1
              clear H1
              by_cases c53 : a0_2 = true
              · subst c53
                have H1 : (some true) = some r := by rw [if_pos rfl] at H; exact H
                clear H
                have H := H1
                clear H1
                obtain rfl := Option.some.inj H
                have hnb54 := NB195_187.out
                have hnc54 := NB187_195.out
                have hcz55_0 : wc.cell? ⟨gb195, 0, none⟩ = some (.string t188) := (blk_cell BK195.out 0).trans rfl
                have hcz55_1 : wc.cell? ⟨gb195, 1, none⟩ = some (.string t189) := (blk_cell BK195.out 1).trans rfl
                have hcz55_2 : wc.cell? ⟨gb195, 2, none⟩ = some (.int .i64 t190) := (blk_cell BK195.out 2).trans rfl
                have hcz55_3 : wc.cell? ⟨gb195, 3, none⟩ = some (.int .i64 t191) := (blk_cell BK195.out 3).trans rfl
                have hcz55_4 : wc.cell? ⟨gb195, 4, none⟩ = some (.int .i64 t192) := (blk_cell BK195.out 4).trans rfl
                have hcz55_5 : wc.cell? ⟨gb195, 5, none⟩ = some (.string t193) := (blk_cell BK195.out 5).trans rfl
                have hfz55_0 := blk_frozen BK195.out 0
                have hfz55_1 := blk_frozen BK195.out 1
                have hfz55_2 := blk_frozen BK195.out 2
                have hfz55_3 := blk_frozen BK195.out 3
                have hfz55_4 := blk_frozen BK195.out 4
                have hfz55_5 := blk_frozen BK195.out 5
                go_wp2_with (first | ((with_reducible refine gate_callee (f := 25) rfl ?_); refine goesL_ (some 34) rfl rfl Try.func25 (by kernel_rfl) rfl #[.string t188] rfl (by (try simp only [List.map_toArray, List.map_cons, List.map_nil]); first | done | rfl | (simp only [List.length_drop, List.length_take]; rfl)) ?_; (with_reducible refine (aqueductref05_Kind.calls kj3 t188 t197 _ A23.out).mono ?_); rintro e w' ⟨rfl, ⟨nd, rfl⟩⟩; refine ⟨_, rfl, ?_⟩; have hcz56_0 : wc.cell? ⟨gb187, 0, none⟩ = some (.string a0_0) := (blk_cell BK187.out 0).trans rfl; have hcz56_1 : wc.cell? ⟨gb187, 1, none⟩ = some (.bool false) := (blk_cell BK187.out 1).trans rfl; have hcz56_2 : wc.cell? ⟨gb187, 2, none⟩ = some (.bool true) := (blk_cell BK187.out 2).trans rfl; have hcz56_3 : wc.cell? ⟨gb187, 3, none⟩ = some (.bool a0_3) := (blk_cell BK187.out 3).trans rfl; have hcz56_4 : wc.cell? ⟨gb187, 4, none⟩ = some (.bool a0_4) := (blk_cell BK187.out 4).trans rfl; have hcz56_5 : wc.cell? ⟨gb187, 5, none⟩ = some (.bool a0_5) := (blk_cell BK187.out 5).trans rfl; have hcz56_6 : wc.cell? ⟨gb187, 6, none⟩ = some (.bool a0_6) := (blk_cell BK187.out 6).trans rfl; have hcz56_7 : wc.cell? ⟨gb187, 7, none⟩ = some (.slice A0_7 l0_7.length c0_7) := (blk_cell BK187.out 7).trans rfl; have hcz56_8 : wc.cell? ⟨gb187, 8, none⟩ = some (.slice A0_8 l0_8.length c0_8) := (blk_cell BK187.out 8).trans rfl; have hcz56_9 : wc.cell? ⟨gb187, 9, none⟩ = some (.bool a0_9) := (blk_cell BK187.out 9).trans rfl; have hcz56_10 : wc.cell? ⟨gb187, 10, none⟩ = some (.slice A0_10 l0_10.length c0_10) := (blk_cell BK187.out 10).trans rfl; have hfz56_0 := blk_frozen BK187.out 0; have hfz56_1 := blk_frozen BK187.out 1; have hfz56_2 := blk_frozen BK187.out 2; have hfz56_3 := blk_frozen BK187.out 3; have hfz56_4 := blk_frozen BK187.out 4; have hfz56_5 := blk_frozen BK187.out 5; have hfz56_6 := blk_frozen BK187.out 6; have hfz56_7 := blk_frozen BK187.out 7; have hfz56_8 := blk_frozen BK187.out 8; have hfz56_9 := blk_frozen BK187.out 9; have hfz56_10 := blk_frozen BK187.out 10))
                go_ret
                exact ⟨by first | rfl | (simp [errW_none, errW_some] <;> rfl) | (simp [*, errW_none, errW_some] <;> rfl), by repeat (first | (with_reducible first | exact HB.out | apply below_alloc | apply pw_below_drewN | apply below_drew1 | refine below_set ?_ GE187.out | refine below_set ?_ GE195.out) | exact HB.out)⟩
              · replace c53 := Bool.eq_false_iff.mpr c53
                subst c53
                have H1 : (if a0_4 = true then (some false) else (if t188.toList = a0_0.toList then (some true) else ((aqueductref16_Has.f kj3 l0_7 t188).bind fun t199 => (some t199)))) = some r := by rw [if_neg (show ¬ (false = true) by decide)] at H; exact H
                clear H
                have H := H1
                clear H1
                by_cases c57 : a0_4 = true
                · subst c57
                  have H1 : (some false) = some r := by rw [if_pos rfl] at H; exact H
                  clear H
                  have H := H1
                  clear H1
                  obtain rfl := Option.some.inj H
                  have hnb58 := NB195_187.out
                  have hnc58 := NB187_195.out
                  have hcz59_0 : wc.cell? ⟨gb195, 0, none⟩ = some (.string t188) := (blk_cell BK195.out 0).trans rfl
                  have hcz59_1 : wc.cell? ⟨gb195, 1, none⟩ = some (.string t189) := (blk_cell BK195.out 1).trans rfl
                  have hcz59_2 : wc.cell? ⟨gb195, 2, none⟩ = some (.int .i64 t190) := (blk_cell BK195.out 2).trans rfl
                  have hcz59_3 : wc.cell? ⟨gb195, 3, none⟩ = some (.int .i64 t191) := (blk_cell BK195.out 3).trans rfl
                  have hcz59_4 : wc.cell? ⟨gb195, 4, none⟩ = some (.int .i64 t192) := (blk_cell BK195.out 4).trans rfl
                  have hcz59_5 : wc.cell? ⟨gb195, 5, none⟩ = some (.string t193) := (blk_cell BK195.out 5).trans rfl
                  have hfz59_0 := blk_frozen BK195.out 0
                  have hfz59_1 := blk_frozen BK195.out 1
                  have hfz59_2 := blk_frozen BK195.out 2
                  have hfz59_3 := blk_frozen BK195.out 3
                  have hfz59_4 := blk_frozen BK195.out 4
                  have hfz59_5 := blk_frozen BK195.out 5
                  go_wp2_with (first | ((with_reducible refine gate_callee (f := 25) rfl ?_); refine goesL_ (some 34) rfl rfl Try.func25 (by kernel_rfl) rfl #[.string t188] rfl (by (try simp only [List.map_toArray, List.map_cons, List.map_nil]); first | done | rfl | (simp only [List.length_drop, List.length_take]; rfl)) ?_; (with_reducible refine (aqueductref05_Kind.calls kj3 t188 t197 _ A23.out).mono ?_); rintro e w' ⟨rfl, ⟨nd, rfl⟩⟩; refine ⟨_, rfl, ?_⟩; have hcz60_0 : wc.cell? ⟨gb187, 0, none⟩ = some (.string a0_0) := (blk_cell BK187.out 0).trans rfl; have hcz60_1 : wc.cell? ⟨gb187, 1, none⟩ = some (.bool false) := (blk_cell BK187.out 1).trans rfl; have hcz60_2 : wc.cell? ⟨gb187, 2, none⟩ = some (.bool false) := (blk_cell BK187.out 2).trans rfl; have hcz60_3 : wc.cell? ⟨gb187, 3, none⟩ = some (.bool a0_3) := (blk_cell BK187.out 3).trans rfl; have hcz60_4 : wc.cell? ⟨gb187, 4, none⟩ = some (.bool true) := (blk_cell BK187.out 4).trans rfl; have hcz60_5 : wc.cell? ⟨gb187, 5, none⟩ = some (.bool a0_5) := (blk_cell BK187.out 5).trans rfl; have hcz60_6 : wc.cell? ⟨gb187, 6, none⟩ = some (.bool a0_6) := (blk_cell BK187.out 6).trans rfl; have hcz60_7 : wc.cell? ⟨gb187, 7, none⟩ = some (.slice A0_7 l0_7.length c0_7) := (blk_cell BK187.out 7).trans rfl; have hcz60_8 : wc.cell? ⟨gb187, 8, none⟩ = some (.slice A0_8 l0_8.length c0_8) := (blk_cell BK187.out 8).trans rfl; have hcz60_9 : wc.cell? ⟨gb187, 9, none⟩ = some (.bool a0_9) := (blk_cell BK187.out 9).trans rfl; have hcz60_10 : wc.cell? ⟨gb187, 10, none⟩ = some (.slice A0_10 l0_10.length c0_10) := (blk_cell BK187.out 10).trans rfl; have hfz60_0 := blk_frozen BK187.out 0; have hfz60_1 := blk_frozen BK187.out 1; have hfz60_2 := blk_frozen BK187.out 2; have hfz60_3 := blk_frozen BK187.out 3; have hfz60_4 := blk_frozen BK187.out 4; have hfz60_5 := blk_frozen BK187.out 5; have hfz60_6 := blk_frozen BK187.out 6; have hfz60_7 := blk_frozen BK187.out 7; have hfz60_8 := blk_frozen BK187.out 8; have hfz60_9 := blk_frozen BK187.out 9; have hfz60_10 := blk_frozen BK187.out 10))
                  go_ret
                  exact ⟨by first | rfl | (simp [errW_none, errW_some] <;> rfl) | (simp [*, errW_none, errW_some] <;> rfl), by repeat (first | (with_reducible first | exact HB.out | apply below_alloc | apply pw_below_drewN | apply below_drew1 | refine below_set ?_ GE187.out | refine below_set ?_ GE195.out) | exact HB.out)⟩
                · replace c57 := Bool.eq_false_iff.mpr c57
                  subst c57
                  have H1 : (if t188.toList = a0_0.toList then (some true) else ((aqueductref16_Has.f kj3 l0_7 t188).bind fun t199 => (some t199))) = some r := by rw [if_neg (show ¬ (false = true) by decide)] at H; exact H
                  clear H
                  have H := H1
                  clear H1
                  by_cases c61 : t188.toList = a0_0.toList
                  · rw [if_pos c61] at H
                    have c61b0 : (t188.toList == a0_0.toList) = true := beq_iff_eq.mpr c61
                    have c61b1 : (t188.toList != a0_0.toList) = false := bne_eq_false_iff_eq.mpr c61
                    clear c61
                    obtain rfl := Option.some.inj H
                    have hnb62 := NB195_187.out
                    have hnc62 := NB187_195.out
                    have hcz63_0 : wc.cell? ⟨gb195, 0, none⟩ = some (.string t188) := (blk_cell BK195.out 0).trans rfl
                    have hcz63_1 : wc.cell? ⟨gb195, 1, none⟩ = some (.string t189) := (blk_cell BK195.out 1).trans rfl
                    have hcz63_2 : wc.cell? ⟨gb195, 2, none⟩ = some (.int .i64 t190) := (blk_cell BK195.out 2).trans rfl
                    have hcz63_3 : wc.cell? ⟨gb195, 3, none⟩ = some (.int .i64 t191) := (blk_cell BK195.out 3).trans rfl
                    have hcz63_4 : wc.cell? ⟨gb195, 4, none⟩ = some (.int .i64 t192) := (blk_cell BK195.out 4).trans rfl
                    have hcz63_5 : wc.cell? ⟨gb195, 5, none⟩ = some (.string t193) := (blk_cell BK195.out 5).trans rfl
                    have hfz63_0 := blk_frozen BK195.out 0
                    have hfz63_1 := blk_frozen BK195.out 1
                    have hfz63_2 := blk_frozen BK195.out 2
                    have hfz63_3 := blk_frozen BK195.out 3
                    have hfz63_4 := blk_frozen BK195.out 4
                    have hfz63_5 := blk_frozen BK195.out 5
                    go_wp2_with (first | ((with_reducible refine gate_callee (f := 25) rfl ?_); refine goesL_ (some 34) rfl rfl Try.func25 (by kernel_rfl) rfl #[.string t188] rfl (by (try simp only [List.map_toArray, List.map_cons, List.map_nil]); first | done | rfl | (simp only [List.length_drop, List.length_take]; rfl)) ?_; (with_reducible refine (aqueductref05_Kind.calls kj3 t188 t197 _ A23.out).mono ?_); rintro e w' ⟨rfl, ⟨nd, rfl⟩⟩; refine ⟨_, rfl, ?_⟩; have hcz64_0 : wc.cell? ⟨gb187, 0, none⟩ = some (.string a0_0) := (blk_cell BK187.out 0).trans rfl; have hcz64_1 : wc.cell? ⟨gb187, 1, none⟩ = some (.bool false) := (blk_cell BK187.out 1).trans rfl; have hcz64_2 : wc.cell? ⟨gb187, 2, none⟩ = some (.bool false) := (blk_cell BK187.out 2).trans rfl; have hcz64_3 : wc.cell? ⟨gb187, 3, none⟩ = some (.bool a0_3) := (blk_cell BK187.out 3).trans rfl; have hcz64_4 : wc.cell? ⟨gb187, 4, none⟩ = some (.bool false) := (blk_cell BK187.out 4).trans rfl; have hcz64_5 : wc.cell? ⟨gb187, 5, none⟩ = some (.bool a0_5) := (blk_cell BK187.out 5).trans rfl; have hcz64_6 : wc.cell? ⟨gb187, 6, none⟩ = some (.bool a0_6) := (blk_cell BK187.out 6).trans rfl; have hcz64_7 : wc.cell? ⟨gb187, 7, none⟩ = some (.slice A0_7 l0_7.length c0_7) := (blk_cell BK187.out 7).trans rfl; have hcz64_8 : wc.cell? ⟨gb187, 8, none⟩ = some (.slice A0_8 l0_8.length c0_8) := (blk_cell BK187.out 8).trans rfl; have hcz64_9 : wc.cell? ⟨gb187, 9, none⟩ = some (.bool a0_9) := (blk_cell BK187.out 9).trans rfl; have hcz64_10 : wc.cell? ⟨gb187, 10, none⟩ = some (.slice A0_10 l0_10.length c0_10) := (blk_cell BK187.out 10).trans rfl; have hfz64_0 := blk_frozen BK187.out 0; have hfz64_1 := blk_frozen BK187.out 1; have hfz64_2 := blk_frozen BK187.out 2; have hfz64_3 := blk_frozen BK187.out 3; have hfz64_4 := blk_frozen BK187.out 4; have hfz64_5 := blk_frozen BK187.out 5; have hfz64_6 := blk_frozen BK187.out 6; have hfz64_7 := blk_frozen BK187.out 7; have hfz64_8 := blk_frozen BK187.out 8; have hfz64_9 := blk_frozen BK187.out 9; have hfz64_10 := blk_frozen BK187.out 10))
                    go_ret
                    exact ⟨by first | rfl | (simp [errW_none, errW_some] <;> rfl) | (simp [*, errW_none, errW_some] <;> rfl), by repeat (first | (with_reducible first | exact HB.out | apply below_alloc | apply pw_below_drewN | apply below_drew1 | refine below_set ?_ GE187.out | refine below_set ?_ GE195.out) | exact HB.out)⟩
                  · rw [if_neg c61] at H
                    have c61b0 : (t188.toList == a0_0.toList) = false := beq_eq_false_iff_ne.mpr c61
                    have c61b1 : (t188.toList != a0_0.toList) = true := bne_iff_ne.mpr c61
                    replace H := Option.bind_eq_some_iff.mp H
                    obtain ⟨t199, A650, H⟩ := H
                    replace H : (some t199) = some r := H
                    have A65 := Aside0.mk A650
                    clear A650
                    obtain rfl := Option.some.inj H
                    have hnb66 := NB195_187.out
                    have hnc66 := NB187_195.out
                    have hcz67_0 : wc.cell? ⟨gb195, 0, none⟩ = some (.string t188) := (blk_cell BK195.out 0).trans rfl
                    have hcz67_1 : wc.cell? ⟨gb195, 1, none⟩ = some (.string t189) := (blk_cell BK195.out 1).trans rfl
                    have hcz67_2 : wc.cell? ⟨gb195, 2, none⟩ = some (.int .i64 t190) := (blk_cell BK195.out 2).trans rfl
                    have hcz67_3 : wc.cell? ⟨gb195, 3, none⟩ = some (.int .i64 t191) := (blk_cell BK195.out 3).trans rfl
                    have hcz67_4 : wc.cell? ⟨gb195, 4, none⟩ = some (.int .i64 t192) := (blk_cell BK195.out 4).trans rfl
                    have hcz67_5 : wc.cell? ⟨gb195, 5, none⟩ = some (.string t193) := (blk_cell BK195.out 5).trans rfl
                    have hfz67_0 := blk_frozen BK195.out 0
                    have hfz67_1 := blk_frozen BK195.out 1
                    have hfz67_2 := blk_frozen BK195.out 2
                    have hfz67_3 := blk_frozen BK195.out 3
                    have hfz67_4 := blk_frozen BK195.out 4
                    have hfz67_5 := blk_frozen BK195.out 5
                    go_wp2_with (first | ((with_reducible refine gate_callee (f := 25) rfl ?_); refine goesL_ (some 34) rfl rfl Try.func25 (by kernel_rfl) rfl #[.string t188] rfl (by (try simp only [List.map_toArray, List.map_cons, List.map_nil]); first | done | rfl | (simp only [List.length_drop, List.length_take]; rfl)) ?_; (with_reducible refine (aqueductref05_Kind.calls kj3 t188 t197 _ A23.out).mono ?_); rintro e w' ⟨rfl, ⟨nd, rfl⟩⟩; refine ⟨_, rfl, ?_⟩; have hcz68_0 : wc.cell? ⟨gb187, 0, none⟩ = some (.string a0_0) := (blk_cell BK187.out 0).trans rfl; have hcz68_1 : wc.cell? ⟨gb187, 1, none⟩ = some (.bool false) := (blk_cell BK187.out 1).trans rfl; have hcz68_2 : wc.cell? ⟨gb187, 2, none⟩ = some (.bool false) := (blk_cell BK187.out 2).trans rfl; have hcz68_3 : wc.cell? ⟨gb187, 3, none⟩ = some (.bool a0_3) := (blk_cell BK187.out 3).trans rfl; have hcz68_4 : wc.cell? ⟨gb187, 4, none⟩ = some (.bool false) := (blk_cell BK187.out 4).trans rfl; have hcz68_5 : wc.cell? ⟨gb187, 5, none⟩ = some (.bool a0_5) := (blk_cell BK187.out 5).trans rfl; have hcz68_6 : wc.cell? ⟨gb187, 6, none⟩ = some (.bool a0_6) := (blk_cell BK187.out 6).trans rfl; have hcz68_7 : wc.cell? ⟨gb187, 7, none⟩ = some (.slice A0_7 l0_7.length c0_7) := (blk_cell BK187.out 7).trans rfl; have hcz68_8 : wc.cell? ⟨gb187, 8, none⟩ = some (.slice A0_8 l0_8.length c0_8) := (blk_cell BK187.out 8).trans rfl; have hcz68_9 : wc.cell? ⟨gb187, 9, none⟩ = some (.bool a0_9) := (blk_cell BK187.out 9).trans rfl; have hcz68_10 : wc.cell? ⟨gb187, 10, none⟩ = some (.slice A0_10 l0_10.length c0_10) := (blk_cell BK187.out 10).trans rfl; have hfz68_0 := blk_frozen BK187.out 0; have hfz68_1 := blk_frozen BK187.out 1; have hfz68_2 := blk_frozen BK187.out 2; have hfz68_3 := blk_frozen BK187.out 3; have hfz68_4 := blk_frozen BK187.out 4; have hfz68_5 := blk_frozen BK187.out 5; have hfz68_6 := blk_frozen BK187.out 6; have hfz68_7 := blk_frozen BK187.out 7; have hfz68_8 := blk_frozen BK187.out 8; have hfz68_9 := blk_frozen BK187.out 9; have hfz68_10 := blk_frozen BK187.out 10) | (go_at_call 32; (with_reducible refine (aqueductref16_Has.calls kj3 _ _ l0_7 t188 t199 _ ?side1 ?side2 A65.out).mono ?_); (case side1 => repeat (first | exact (Kd.C_below HR0_7.out (by repeat (first | (with_reducible first | exact HB.out | apply below_alloc | apply pw_below_drewN | apply below_drew1 | refine below_set ?_ GE187.out | refine below_set ?_ GE195.out) | exact HB.out))) | (with_reducible refine Kd.C_alloc ?_ _) | (with_reducible refine Kd.C_drewN ?_ _) | (with_reducible refine Kd.C_drew ?_))); (case side2 => exact HC0_7.out); rintro e w' ⟨rfl, ⟨nd, rfl⟩⟩))
                    go_ret
                    exact ⟨by first | rfl | (simp [errW_none, errW_some] <;> rfl) | (simp [*, errW_none, errW_some] <;> rfl), by repeat (first | (with_reducible first | exact HB.out | apply below_alloc | apply pw_below_drewN | apply below_drew1 | refine below_set ?_ GE187.out | refine below_set ?_ GE195.out) | exact HB.out)⟩

end Go.Proofs.Ytnckogdplcijiaa.P
