/- What functions of the program compute, each with the walk that shows it: by a program (a turned copy of the kit's print; wip/myprint.py). -/
import Derived.Test.YtnckogdplcijiaaPx0
import Derived.Test.YtnckogdplcijiaaPx9
import Derived.Test.YtnckogdplcijiaaPx10
namespace Go.Proofs.Ytnckogdplcijiaa.P
open Go.RowKit Go.Proofs.YtnckogdplcijiaaW.PrintWords Go.Proofs.YtnckogdplcijiaaW.PrintLast Go.Proofs.YtnckogdplcijiaaW.PrintMore
attribute [local go_sem] max2_int min2_int max_two min_two max_three min_three max_four min_four   -- for this text's walks alone
set_option linter.unusedVariables false
set_option linter.unusedSimpArgs false

/-! ### aqueductref16_Check: function 12 -/
def aqueductref16_Check.f (k : Nat) (a0_0 : ByteArray) (a0_1 : Bool) (a0_2 : Bool) (a0_3 : Bool) (a0_4 : Bool) (a0_5 : Bool) (a0_6 : Bool) (l0_7 : List ByteArray) (l0_8 : List ByteArray) (a0_9 : Bool) (l0_10 : List Int) : Option (Int) := (aqueductref05_Kind.f k a0_0).bind fun t174 => (if t174 = 1 then ((aqueductref16_kinds.f k l0_7 1).bind fun t175 => (if t175 = true then ((aqueductref16_kinds.f k l0_8 2).bind fun t176 => (if t176 = true then ((aqueductref16_Nets.f k l0_10).bind fun t177 => (if t177 = true then (some 0) else (some 160))) else (some 160))) else (some 160))) else (some 160))
theorem aqueductref16_Check.mono : ∀ a0 a1 a2 a3 a4 a5 a6 a7 a8 a9 a10 k, LeO (aqueductref16_Check.f k a0 a1 a2 a3 a4 a5 a6 a7 a8 a9 a10) (aqueductref16_Check.f (k + 1) a0 a1 a2 a3 a4 a5 a6 a7 a8 a9 a10) := by
  intro a0 a1 a2 a3 a4 a5 a6 a7 a8 a9 a10 k
  unfold aqueductref16_Check.f
  repeat' first
      | (with_reducible exact aqueductref05_Kind.mono _ _)
      | (with_reducible exact aqueductref16_Nets.mono _ _)
      | (with_reducible exact aqueductref16_kinds.mono _ _ _)
      | (with_reducible exact LeO.refl _)
      | (with_reducible exact LeO.none _)
      | (with_reducible refine LeO.ite ?_ ?_)
      | (with_reducible refine LeO.bind ?_ (fun _ => ?_))
      | exact aqueductref05_Kind.mono _ _
      | exact aqueductref16_Nets.mono _ _
      | exact aqueductref16_kinds.mono _ _ _
      | exact LeO.none _
      | refine LeO.ite ?_ ?_
      | refine LeO.bind ?_ (fun _ => ?_)
set_option maxHeartbeats 8000000 in
set_option maxRecDepth 100000 in
theorem aqueductref16_Check.calls (k : Nat) (a0_0 : ByteArray) (a0_1 : Bool) (a0_2 : Bool) (a0_3 : Bool) (a0_4 : Bool) (a0_5 : Bool) (a0_6 : Bool) (A0_7 : Option Addr) (c0_7 : Nat) (l0_7 : List ByteArray) (A0_8 : Option Addr) (c0_8 : Nat) (l0_8 : List ByteArray) (a0_9 : Bool) (A0_10 : Option Addr) (c0_10 : Nat) (l0_10 : List Int) (r : Int) (w : World) (hr0_7 : Kd.C Kd.string w A0_7 l0_7.length l0_7) (hc0_7 : l0_7.length ≤ c0_7) (hr0_8 : Kd.C Kd.string w A0_8 l0_8.length l0_8) (hc0_8 : l0_8.length ≤ c0_8) (hr0_10 : Kd.C (Kd.int .i64) w A0_10 l0_10.length l0_10) (hc0_10 : l0_10.length ≤ c0_10) (h : aqueductref16_Check.f k a0_0 a0_1 a0_2 a0_3 a0_4 a0_5 a0_6 l0_7 l0_8 a0_9 l0_10 = some r) :
    Calls Try.prog 12 #[.agg #[.string a0_0, .bool a0_1, .bool a0_2, .bool a0_3, .bool a0_4, .bool a0_5, .bool a0_6, .slice A0_7 l0_7.length c0_7, .slice A0_8 l0_8.length c0_8, .bool a0_9, .slice A0_10 l0_10.length c0_10]] w fun e w' => e = .returned (.int .i64 r) ∧ Below w.heap.size w w' := by
  have hu25 := Try.underlying25
  have HR0_7 := Aside0.mk hr0_7
  have HC0_7 := Aside0.mk hc0_7
  clear hr0_7 hc0_7
  have HR0_8 := Aside0.mk hr0_8
  have HC0_8 := Aside0.mk hc0_8
  clear hr0_8 hc0_8
  have HR0_10 := Aside0.mk hr0_10
  have HC0_10 := Aside0.mk hc0_10
  clear hr0_10 hc0_10
  have HB := Aside0.mk (Below.refl w.heap.size w)
  have H : ((aqueductref05_Kind.f k a0_0).bind fun t174 => (if t174 = 1 then ((aqueductref16_kinds.f k l0_7 1).bind fun t175 => (if t175 = true then ((aqueductref16_kinds.f k l0_8 2).bind fun t176 => (if t176 = true then ((aqueductref16_Nets.f k l0_10).bind fun t177 => (if t177 = true then (some 0) else (some 160))) else (some 160))) else (some 160))) else (some 160))) = some r := h
  clear h
  replace H := Option.bind_eq_some_iff.mp H
  obtain ⟨t174, A20, H⟩ := H
  replace H : (if t174 = 1 then ((aqueductref16_kinds.f k l0_7 1).bind fun t175 => (if t175 = true then ((aqueductref16_kinds.f k l0_8 2).bind fun t176 => (if t176 = true then ((aqueductref16_Nets.f k l0_10).bind fun t177 => (if t177 = true then (some 0) else (some 160))) else (some 160))) else (some 160))) else (some 160)) = some r := H
  have A2 := Aside0.mk A20
  clear A20
  by_cases c3 : t174 = 1
  · rw [if_pos c3] at H
    have c3b0 : (t174 == 1) = true := beq_iff_eq.mpr c3
    have c3b1 : (t174 != 1) = false := bne_eq_false_iff_eq.mpr c3
    clear c3
    replace H := Option.bind_eq_some_iff.mp H
    obtain ⟨t175, A40, H⟩ := H
    replace H : (if t175 = true then ((aqueductref16_kinds.f k l0_8 2).bind fun t176 => (if t176 = true then ((aqueductref16_Nets.f k l0_10).bind fun t177 => (if t177 = true then (some 0) else (some 160))) else (some 160))) else (some 160)) = some r := H
    have A4 := Aside0.mk A40
    clear A40
    by_cases c5 : t175 = true
    · subst c5
      have H1 : ((aqueductref16_kinds.f k l0_8 2).bind fun t176 => (if t176 = true then ((aqueductref16_Nets.f k l0_10).bind fun t177 => (if t177 = true then (some 0) else (some 160))) else (some 160))) = some r := by rw [if_pos rfl] at H; exact H
      clear H
      have H := H1
      clear H1
      replace H := Option.bind_eq_some_iff.mp H
      obtain ⟨t176, A60, H⟩ := H
      replace H : (if t176 = true then ((aqueductref16_Nets.f k l0_10).bind fun t177 => (if t177 = true then (some 0) else (some 160))) else (some 160)) = some r := H
      have A6 := Aside0.mk A60
      clear A60
      by_cases c7 : t176 = true
      · subst c7
        have H1 : ((aqueductref16_Nets.f k l0_10).bind fun t177 => (if t177 = true then (some 0) else (some 160))) = some r := by rw [if_pos rfl] at H; exact H
        clear H
        have H := H1
        clear H1
        replace H := Option.bind_eq_some_iff.mp H
        obtain ⟨t177, A80, H⟩ := H
        replace H : (if t177 = true then (some 0) else (some 160)) = some r := H
        have A8 := Aside0.mk A80
        clear A80
        by_cases c9 : t177 = true
        · subst c9
          have H1 : (some 0) = some r := by rw [if_pos rfl] at H; exact H
          clear H
          have H := H1
          clear H1
          obtain rfl := Option.some.inj H
          go_enter Try.func12, Try.ntmps12
          go_wp2_with (first | ((with_reducible refine gate_dst (N := 1) rfl ?_); refine box_event ?hg (N := 1) ?hd (cs := #[.string a0_0, .bool a0_1, .bool a0_2, .bool a0_3, .bool a0_4, .bool a0_5, .bool a0_6, .slice A0_7 l0_7.length c0_7, .slice A0_8 l0_8.length c0_8, .bool a0_9, .slice A0_10 l0_10.length c0_10]) (t := 25) ?hr ?_; (case hd => rfl); (case hg => rfl); (case hr => first | (go_simp; done) | (go_simp; rfl)); intro gb173 hg w10 hbox hb; have n0_ := Aside0.mk (below_step (by repeat (first | (with_reducible first | exact HB.out | apply below_alloc | apply pw_below_drewN | apply below_drew1) | exact HB.out)) hb); have n1_ := Aside0.mk (hbox); have n2_ := Aside0.mk ((by rw [hg]; exact (below_size (by repeat (first | (with_reducible first | exact HB.out | apply below_alloc | apply pw_below_drewN | apply below_drew1) | exact HB.out))) : w.heap.size ≤ gb173)); have n3_ := Aside0.mk ((by rw [hg]; exact (below_size (by repeat (first | (with_reducible first | exact HB.out | apply below_alloc | apply pw_below_drewN | apply below_drew1) | exact HB.out))) : w.heap.size ≤ gb173)); clear HB; have HB := n0_; have BK173 := n1_; have GW173 := n2_; have GE173 := n3_; clear n0_ n1_ n2_ n3_; clear hb hbox hg; have hcz11_0 : w10.cell? ⟨gb173, 0, none⟩ = some (.string a0_0) := (blk_cell BK173.out 0).trans rfl; have hcz11_1 : w10.cell? ⟨gb173, 1, none⟩ = some (.bool a0_1) := (blk_cell BK173.out 1).trans rfl; have hcz11_2 : w10.cell? ⟨gb173, 2, none⟩ = some (.bool a0_2) := (blk_cell BK173.out 2).trans rfl; have hcz11_3 : w10.cell? ⟨gb173, 3, none⟩ = some (.bool a0_3) := (blk_cell BK173.out 3).trans rfl; have hcz11_4 : w10.cell? ⟨gb173, 4, none⟩ = some (.bool a0_4) := (blk_cell BK173.out 4).trans rfl; have hcz11_5 : w10.cell? ⟨gb173, 5, none⟩ = some (.bool a0_5) := (blk_cell BK173.out 5).trans rfl; have hcz11_6 : w10.cell? ⟨gb173, 6, none⟩ = some (.bool a0_6) := (blk_cell BK173.out 6).trans rfl; have hcz11_7 : w10.cell? ⟨gb173, 7, none⟩ = some (.slice A0_7 l0_7.length c0_7) := (blk_cell BK173.out 7).trans rfl; have hcz11_8 : w10.cell? ⟨gb173, 8, none⟩ = some (.slice A0_8 l0_8.length c0_8) := (blk_cell BK173.out 8).trans rfl; have hcz11_9 : w10.cell? ⟨gb173, 9, none⟩ = some (.bool a0_9) := (blk_cell BK173.out 9).trans rfl; have hcz11_10 : w10.cell? ⟨gb173, 10, none⟩ = some (.slice A0_10 l0_10.length c0_10) := (blk_cell BK173.out 10).trans rfl; have hfz11_0 := blk_frozen BK173.out 0; have hfz11_1 := blk_frozen BK173.out 1; have hfz11_2 := blk_frozen BK173.out 2; have hfz11_3 := blk_frozen BK173.out 3; have hfz11_4 := blk_frozen BK173.out 4; have hfz11_5 := blk_frozen BK173.out 5; have hfz11_6 := blk_frozen BK173.out 6; have hfz11_7 := blk_frozen BK173.out 7; have hfz11_8 := blk_frozen BK173.out 8; have hfz11_9 := blk_frozen BK173.out 9; have hfz11_10 := blk_frozen BK173.out 10) | ((with_reducible refine gate_callee (f := 25) rfl ?_); refine goesL_ (some 5) rfl rfl Try.func25 (by kernel_rfl) rfl #[.string a0_0] rfl (by (try simp only [List.map_toArray, List.map_cons, List.map_nil]); first | done | rfl | (simp only [List.length_drop, List.length_take]; rfl)) ?_; (with_reducible refine (aqueductref05_Kind.calls k a0_0 t174 _ A2.out).mono ?_); rintro e w' ⟨rfl, ⟨nd, rfl⟩⟩; refine ⟨_, rfl, ?_⟩) | (go_at_call 26; (with_reducible refine (aqueductref16_kinds.calls k _ _ l0_7 1 true _ ?side1 ?side2 A4.out).mono ?_); (case side1 => repeat (first | exact (Kd.C_below HR0_7.out (by repeat (first | (with_reducible first | exact HB.out | apply below_alloc | apply pw_below_drewN | apply below_drew1 | refine below_set ?_ GE173.out) | exact HB.out))) | (with_reducible refine Kd.C_alloc ?_ _) | (with_reducible refine Kd.C_drewN ?_ _) | (with_reducible refine Kd.C_drew ?_))); (case side2 => exact HC0_7.out); rintro e w' ⟨rfl, ⟨nd, rfl⟩⟩) | (go_at_call 26; (with_reducible refine (aqueductref16_kinds.calls k _ _ l0_8 2 true _ ?side1 ?side2 A6.out).mono ?_); (case side1 => repeat (first | exact (Kd.C_below HR0_8.out (by repeat (first | (with_reducible first | exact HB.out | apply below_alloc | apply pw_below_drewN | apply below_drew1 | refine below_set ?_ GE173.out) | exact HB.out))) | (with_reducible refine Kd.C_alloc ?_ _) | (with_reducible refine Kd.C_drewN ?_ _) | (with_reducible refine Kd.C_drew ?_))); (case side2 => exact HC0_8.out); rintro e w' ⟨rfl, ⟨nd, rfl⟩⟩) | (go_at_call 27; (with_reducible refine (aqueductref16_Nets.calls k _ _ l0_10 true _ ?side1 ?side2 A8.out).mono ?_); (case side1 => repeat (first | exact (Kd.C_below HR0_10.out (by repeat (first | (with_reducible first | exact HB.out | apply below_alloc | apply pw_below_drewN | apply below_drew1 | refine below_set ?_ GE173.out) | exact HB.out))) | (with_reducible refine Kd.C_alloc ?_ _) | (with_reducible refine Kd.C_drewN ?_ _) | (with_reducible refine Kd.C_drew ?_))); (case side2 => exact HC0_10.out); rintro e w' ⟨rfl, ⟨nd, rfl⟩⟩))
          go_ret
          exact ⟨by first | rfl | (simp [errW_none, errW_some] <;> rfl) | (simp [*, errW_none, errW_some] <;> rfl), by repeat (first | (with_reducible first | exact HB.out | apply below_alloc | apply pw_below_drewN | apply below_drew1 | refine below_set ?_ GE173.out) | exact HB.out)⟩
        · replace c9 := Bool.eq_false_iff.mpr c9
          subst c9
          have H1 : (some 160) = some r := by rw [if_neg (show ¬ (false = true) by decide)] at H; exact H
          clear H
          have H := H1
          clear H1
          obtain rfl := Option.some.inj H
          go_enter Try.func12, Try.ntmps12
          go_wp2_with (first | ((with_reducible refine gate_dst (N := 1) rfl ?_); refine box_event ?hg (N := 1) ?hd (cs := #[.string a0_0, .bool a0_1, .bool a0_2, .bool a0_3, .bool a0_4, .bool a0_5, .bool a0_6, .slice A0_7 l0_7.length c0_7, .slice A0_8 l0_8.length c0_8, .bool a0_9, .slice A0_10 l0_10.length c0_10]) (t := 25) ?hr ?_; (case hd => rfl); (case hg => rfl); (case hr => first | (go_simp; done) | (go_simp; rfl)); intro gb173 hg w12 hbox hb; have n0_ := Aside0.mk (below_step (by repeat (first | (with_reducible first | exact HB.out | apply below_alloc | apply pw_below_drewN | apply below_drew1) | exact HB.out)) hb); have n1_ := Aside0.mk (hbox); have n2_ := Aside0.mk ((by rw [hg]; exact (below_size (by repeat (first | (with_reducible first | exact HB.out | apply below_alloc | apply pw_below_drewN | apply below_drew1) | exact HB.out))) : w.heap.size ≤ gb173)); have n3_ := Aside0.mk ((by rw [hg]; exact (below_size (by repeat (first | (with_reducible first | exact HB.out | apply below_alloc | apply pw_below_drewN | apply below_drew1) | exact HB.out))) : w.heap.size ≤ gb173)); clear HB; have HB := n0_; have BK173 := n1_; have GW173 := n2_; have GE173 := n3_; clear n0_ n1_ n2_ n3_; clear hb hbox hg; have hcz13_0 : w12.cell? ⟨gb173, 0, none⟩ = some (.string a0_0) := (blk_cell BK173.out 0).trans rfl; have hcz13_1 : w12.cell? ⟨gb173, 1, none⟩ = some (.bool a0_1) := (blk_cell BK173.out 1).trans rfl; have hcz13_2 : w12.cell? ⟨gb173, 2, none⟩ = some (.bool a0_2) := (blk_cell BK173.out 2).trans rfl; have hcz13_3 : w12.cell? ⟨gb173, 3, none⟩ = some (.bool a0_3) := (blk_cell BK173.out 3).trans rfl; have hcz13_4 : w12.cell? ⟨gb173, 4, none⟩ = some (.bool a0_4) := (blk_cell BK173.out 4).trans rfl; have hcz13_5 : w12.cell? ⟨gb173, 5, none⟩ = some (.bool a0_5) := (blk_cell BK173.out 5).trans rfl; have hcz13_6 : w12.cell? ⟨gb173, 6, none⟩ = some (.bool a0_6) := (blk_cell BK173.out 6).trans rfl; have hcz13_7 : w12.cell? ⟨gb173, 7, none⟩ = some (.slice A0_7 l0_7.length c0_7) := (blk_cell BK173.out 7).trans rfl; have hcz13_8 : w12.cell? ⟨gb173, 8, none⟩ = some (.slice A0_8 l0_8.length c0_8) := (blk_cell BK173.out 8).trans rfl; have hcz13_9 : w12.cell? ⟨gb173, 9, none⟩ = some (.bool a0_9) := (blk_cell BK173.out 9).trans rfl; have hcz13_10 : w12.cell? ⟨gb173, 10, none⟩ = some (.slice A0_10 l0_10.length c0_10) := (blk_cell BK173.out 10).trans rfl; have hfz13_0 := blk_frozen BK173.out 0; have hfz13_1 := blk_frozen BK173.out 1; have hfz13_2 := blk_frozen BK173.out 2; have hfz13_3 := blk_frozen BK173.out 3; have hfz13_4 := blk_frozen BK173.out 4; have hfz13_5 := blk_frozen BK173.out 5; have hfz13_6 := blk_frozen BK173.out 6; have hfz13_7 := blk_frozen BK173.out 7; have hfz13_8 := blk_frozen BK173.out 8; have hfz13_9 := blk_frozen BK173.out 9; have hfz13_10 := blk_frozen BK173.out 10) | ((with_reducible refine gate_callee (f := 25) rfl ?_); refine goesL_ (some 5) rfl rfl Try.func25 (by kernel_rfl) rfl #[.string a0_0] rfl (by (try simp only [List.map_toArray, List.map_cons, List.map_nil]); first | done | rfl | (simp only [List.length_drop, List.length_take]; rfl)) ?_; (with_reducible refine (aqueductref05_Kind.calls k a0_0 t174 _ A2.out).mono ?_); rintro e w' ⟨rfl, ⟨nd, rfl⟩⟩; refine ⟨_, rfl, ?_⟩) | (go_at_call 26; (with_reducible refine (aqueductref16_kinds.calls k _ _ l0_7 1 true _ ?side1 ?side2 A4.out).mono ?_); (case side1 => repeat (first | exact (Kd.C_below HR0_7.out (by repeat (first | (with_reducible first | exact HB.out | apply below_alloc | apply pw_below_drewN | apply below_drew1 | refine below_set ?_ GE173.out) | exact HB.out))) | (with_reducible refine Kd.C_alloc ?_ _) | (with_reducible refine Kd.C_drewN ?_ _) | (with_reducible refine Kd.C_drew ?_))); (case side2 => exact HC0_7.out); rintro e w' ⟨rfl, ⟨nd, rfl⟩⟩) | (go_at_call 26; (with_reducible refine (aqueductref16_kinds.calls k _ _ l0_8 2 true _ ?side1 ?side2 A6.out).mono ?_); (case side1 => repeat (first | exact (Kd.C_below HR0_8.out (by repeat (first | (with_reducible first | exact HB.out | apply below_alloc | apply pw_below_drewN | apply below_drew1 | refine below_set ?_ GE173.out) | exact HB.out))) | (with_reducible refine Kd.C_alloc ?_ _) | (with_reducible refine Kd.C_drewN ?_ _) | (with_reducible refine Kd.C_drew ?_))); (case side2 => exact HC0_8.out); rintro e w' ⟨rfl, ⟨nd, rfl⟩⟩) | (go_at_call 27; (with_reducible refine (aqueductref16_Nets.calls k _ _ l0_10 false _ ?side1 ?side2 A8.out).mono ?_); (case side1 => repeat (first | exact (Kd.C_below HR0_10.out (by repeat (first | (with_reducible first | exact HB.out | apply below_alloc | apply pw_below_drewN | apply below_drew1 | refine below_set ?_ GE173.out) | exact HB.out))) | (with_reducible refine Kd.C_alloc ?_ _) | (with_reducible refine Kd.C_drewN ?_ _) | (with_reducible refine Kd.C_drew ?_))); (case side2 => exact HC0_10.out); rintro e w' ⟨rfl, ⟨nd, rfl⟩⟩))
          go_ret
          exact ⟨by first | rfl | (simp [errW_none, errW_some] <;> rfl) | (simp [*, errW_none, errW_some] <;> rfl), by repeat (first | (with_reducible first | exact HB.out | apply below_alloc | apply pw_below_drewN | apply below_drew1 | refine below_set ?_ GE173.out) | exact HB.out)⟩
      · replace c7 := Bool.eq_false_iff.mpr c7
        subst c7
        have H1 : (some 160) = some r := by rw [if_neg (show ¬ (false = true) by decide)] at H; exact H
        clear H
        have H := H1
        clear H1
        obtain rfl := Option.some.inj H
        go_enter Try.func12, Try.ntmps12
        go_wp2_with (first | ((with_reducible refine gate_dst (N := 1) rfl ?_); refine box_event ?hg (N := 1) ?hd (cs := #[.string a0_0, .bool a0_1, .bool a0_2, .bool a0_3, .bool a0_4, .bool a0_5, .bool a0_6, .slice A0_7 l0_7.length c0_7, .slice A0_8 l0_8.length c0_8, .bool a0_9, .slice A0_10 l0_10.length c0_10]) (t := 25) ?hr ?_; (case hd => rfl); (case hg => rfl); (case hr => first | (go_simp; done) | (go_simp; rfl)); intro gb173 hg w14 hbox hb; have n0_ := Aside0.mk (below_step (by repeat (first | (with_reducible first | exact HB.out | apply below_alloc | apply pw_below_drewN | apply below_drew1) | exact HB.out)) hb); have n1_ := Aside0.mk (hbox); have n2_ := Aside0.mk ((by rw [hg]; exact (below_size (by repeat (first | (with_reducible first | exact HB.out | apply below_alloc | apply pw_below_drewN | apply below_drew1) | exact HB.out))) : w.heap.size ≤ gb173)); have n3_ := Aside0.mk ((by rw [hg]; exact (below_size (by repeat (first | (with_reducible first | exact HB.out | apply below_alloc | apply pw_below_drewN | apply below_drew1) | exact HB.out))) : w.heap.size ≤ gb173)); clear HB; have HB := n0_; have BK173 := n1_; have GW173 := n2_; have GE173 := n3_; clear n0_ n1_ n2_ n3_; clear hb hbox hg; have hcz15_0 : w14.cell? ⟨gb173, 0, none⟩ = some (.string a0_0) := (blk_cell BK173.out 0).trans rfl; have hcz15_1 : w14.cell? ⟨gb173, 1, none⟩ = some (.bool a0_1) := (blk_cell BK173.out 1).trans rfl; have hcz15_2 : w14.cell? ⟨gb173, 2, none⟩ = some (.bool a0_2) := (blk_cell BK173.out 2).trans rfl; have hcz15_3 : w14.cell? ⟨gb173, 3, none⟩ = some (.bool a0_3) := (blk_cell BK173.out 3).trans rfl; have hcz15_4 : w14.cell? ⟨gb173, 4, none⟩ = some (.bool a0_4) := (blk_cell BK173.out 4).trans rfl; have hcz15_5 : w14.cell? ⟨gb173, 5, none⟩ = some (.bool a0_5) := (blk_cell BK173.out 5).trans rfl; have hcz15_6 : w14.cell? ⟨gb173, 6, none⟩ = some (.bool a0_6) := (blk_cell BK173.out 6).trans rfl; have hcz15_7 : w14.cell? ⟨gb173, 7, none⟩ = some (.slice A0_7 l0_7.length c0_7) := (blk_cell BK173.out 7).trans rfl; have hcz15_8 : w14.cell? ⟨gb173, 8, none⟩ = some (.slice A0_8 l0_8.length c0_8) := (blk_cell BK173.out 8).trans rfl; have hcz15_9 : w14.cell? ⟨gb173, 9, none⟩ = some (.bool a0_9) := (blk_cell BK173.out 9).trans rfl; have hcz15_10 : w14.cell? ⟨gb173, 10, none⟩ = some (.slice A0_10 l0_10.length c0_10) := (blk_cell BK173.out 10).trans rfl; have hfz15_0 := blk_frozen BK173.out 0; have hfz15_1 := blk_frozen BK173.out 1; have hfz15_2 := blk_frozen BK173.out 2; have hfz15_3 := blk_frozen BK173.out 3; have hfz15_4 := blk_frozen BK173.out 4; have hfz15_5 := blk_frozen BK173.out 5; have hfz15_6 := blk_frozen BK173.out 6; have hfz15_7 := blk_frozen BK173.out 7; have hfz15_8 := blk_frozen BK173.out 8; have hfz15_9 := blk_frozen BK173.out 9; have hfz15_10 := blk_frozen BK173.out 10) | ((with_reducible refine gate_callee (f := 25) rfl ?_); refine goesL_ (some 5) rfl rfl Try.func25 (by kernel_rfl) rfl #[.string a0_0] rfl (by (try simp only [List.map_toArray, List.map_cons, List.map_nil]); first | done | rfl | (simp only [List.length_drop, List.length_take]; rfl)) ?_; (with_reducible refine (aqueductref05_Kind.calls k a0_0 t174 _ A2.out).mono ?_); rintro e w' ⟨rfl, ⟨nd, rfl⟩⟩; refine ⟨_, rfl, ?_⟩) | (go_at_call 26; (with_reducible refine (aqueductref16_kinds.calls k _ _ l0_7 1 true _ ?side1 ?side2 A4.out).mono ?_); (case side1 => repeat (first | exact (Kd.C_below HR0_7.out (by repeat (first | (with_reducible first | exact HB.out | apply below_alloc | apply pw_below_drewN | apply below_drew1 | refine below_set ?_ GE173.out) | exact HB.out))) | (with_reducible refine Kd.C_alloc ?_ _) | (with_reducible refine Kd.C_drewN ?_ _) | (with_reducible refine Kd.C_drew ?_))); (case side2 => exact HC0_7.out); rintro e w' ⟨rfl, ⟨nd, rfl⟩⟩) | (go_at_call 26; (with_reducible refine (aqueductref16_kinds.calls k _ _ l0_8 2 false _ ?side1 ?side2 A6.out).mono ?_); (case side1 => repeat (first | exact (Kd.C_below HR0_8.out (by repeat (first | (with_reducible first | exact HB.out | apply below_alloc | apply pw_below_drewN | apply below_drew1 | refine below_set ?_ GE173.out) | exact HB.out))) | (with_reducible refine Kd.C_alloc ?_ _) | (with_reducible refine Kd.C_drewN ?_ _) | (with_reducible refine Kd.C_drew ?_))); (case side2 => exact HC0_8.out); rintro e w' ⟨rfl, ⟨nd, rfl⟩⟩))
        go_ret
        exact ⟨by first | rfl | (simp [errW_none, errW_some] <;> rfl) | (simp [*, errW_none, errW_some] <;> rfl), by repeat (first | (with_reducible first | exact HB.out | apply below_alloc | apply pw_below_drewN | apply below_drew1 | refine below_set ?_ GE173.out) | exact HB.out)⟩
    · replace c5 := Bool.eq_false_iff.mpr c5
      subst c5
      have H1 : (some 160) = some r := by rw [if_neg (show ¬ (false = true) by decide)] at H; exact H
      clear H
      have H := H1
      clear H1
      obtain rfl := Option.some.inj H
      go_enter Try.func12, Try.ntmps12
      go_wp2_with (first | ((with_reducible refine gate_dst (N := 1) rfl ?_); refine box_event ?hg (N := 1) ?hd (cs := #[.string a0_0, .bool a0_1, .bool a0_2, .bool a0_3, .bool a0_4, .bool a0_5, .bool a0_6, .slice A0_7 l0_7.length c0_7, .slice A0_8 l0_8.length c0_8, .bool a0_9, .slice A0_10 l0_10.length c0_10]) (t := 25) ?hr ?_; (case hd => rfl); (case hg => rfl); (case hr => first | (go_simp; done) | (go_simp; rfl)); intro gb173 hg w16 hbox hb; have n0_ := Aside0.mk (below_step (by repeat (first | (with_reducible first | exact HB.out | apply below_alloc | apply pw_below_drewN | apply below_drew1) | exact HB.out)) hb); have n1_ := Aside0.mk (hbox); have n2_ := Aside0.mk ((by rw [hg]; exact (below_size (by repeat (first | (with_reducible first | exact HB.out | apply below_alloc | apply pw_below_drewN | apply below_drew1) | exact HB.out))) : w.heap.size ≤ gb173)); have n3_ := Aside0.mk ((by rw [hg]; exact (below_size (by repeat (first | (with_reducible first | exact HB.out | apply below_alloc | apply pw_below_drewN | apply below_drew1) | exact HB.out))) : w.heap.size ≤ gb173)); clear HB; have HB := n0_; have BK173 := n1_; have GW173 := n2_; have GE173 := n3_; clear n0_ n1_ n2_ n3_; clear hb hbox hg; have hcz17_0 : w16.cell? ⟨gb173, 0, none⟩ = some (.string a0_0) := (blk_cell BK173.out 0).trans rfl; have hcz17_1 : w16.cell? ⟨gb173, 1, none⟩ = some (.bool a0_1) := (blk_cell BK173.out 1).trans rfl; have hcz17_2 : w16.cell? ⟨gb173, 2, none⟩ = some (.bool a0_2) := (blk_cell BK173.out 2).trans rfl; have hcz17_3 : w16.cell? ⟨gb173, 3, none⟩ = some (.bool a0_3) := (blk_cell BK173.out 3).trans rfl; have hcz17_4 : w16.cell? ⟨gb173, 4, none⟩ = some (.bool a0_4) := (blk_cell BK173.out 4).trans rfl; have hcz17_5 : w16.cell? ⟨gb173, 5, none⟩ = some (.bool a0_5) := (blk_cell BK173.out 5).trans rfl; have hcz17_6 : w16.cell? ⟨gb173, 6, none⟩ = some (.bool a0_6) := (blk_cell BK173.out 6).trans rfl; have hcz17_7 : w16.cell? ⟨gb173, 7, none⟩ = some (.slice A0_7 l0_7.length c0_7) := (blk_cell BK173.out 7).trans rfl; have hcz17_8 : w16.cell? ⟨gb173, 8, none⟩ = some (.slice A0_8 l0_8.length c0_8) := (blk_cell BK173.out 8).trans rfl; have hcz17_9 : w16.cell? ⟨gb173, 9, none⟩ = some (.bool a0_9) := (blk_cell BK173.out 9).trans rfl; have hcz17_10 : w16.cell? ⟨gb173, 10, none⟩ = some (.slice A0_10 l0_10.length c0_10) := (blk_cell BK173.out 10).trans rfl; have hfz17_0 := blk_frozen BK173.out 0; have hfz17_1 := blk_frozen BK173.out 1; have hfz17_2 := blk_frozen BK173.out 2; have hfz17_3 := blk_frozen BK173.out 3; have hfz17_4 := blk_frozen BK173.out 4; have hfz17_5 := blk_frozen BK173.out 5; have hfz17_6 := blk_frozen BK173.out 6; have hfz17_7 := blk_frozen BK173.out 7; have hfz17_8 := blk_frozen BK173.out 8; have hfz17_9 := blk_frozen BK173.out 9; have hfz17_10 := blk_frozen BK173.out 10) | ((with_reducible refine gate_callee (f := 25) rfl ?_); refine goesL_ (some 5) rfl rfl Try.func25 (by kernel_rfl) rfl #[.string a0_0] rfl (by (try simp only [List.map_toArray, List.map_cons, List.map_nil]); first | done | rfl | (simp only [List.length_drop, List.length_take]; rfl)) ?_; (with_reducible refine (aqueductref05_Kind.calls k a0_0 t174 _ A2.out).mono ?_); rintro e w' ⟨rfl, ⟨nd, rfl⟩⟩; refine ⟨_, rfl, ?_⟩) | (go_at_call 26; (with_reducible refine (aqueductref16_kinds.calls k _ _ l0_7 1 false _ ?side1 ?side2 A4.out).mono ?_); (case side1 => repeat (first | exact (Kd.C_below HR0_7.out (by repeat (first | (with_reducible first | exact HB.out | apply below_alloc | apply pw_below_drewN | apply below_drew1 | refine below_set ?_ GE173.out) | exact HB.out))) | (with_reducible refine Kd.C_alloc ?_ _) | (with_reducible refine Kd.C_drewN ?_ _) | (with_reducible refine Kd.C_drew ?_))); (case side2 => exact HC0_7.out); rintro e w' ⟨rfl, ⟨nd, rfl⟩⟩))
      go_ret
      exact ⟨by first | rfl | (simp [errW_none, errW_some] <;> rfl) | (simp [*, errW_none, errW_some] <;> rfl), by repeat (first | (with_reducible first | exact HB.out | apply below_alloc | apply pw_below_drewN | apply below_drew1 | refine below_set ?_ GE173.out) | exact HB.out)⟩
  · rw [if_neg c3] at H
    have c3b0 : (t174 == 1) = false := beq_eq_false_iff_ne.mpr c3
    have c3b1 : (t174 != 1) = true := bne_iff_ne.mpr c3
    obtain rfl := Option.some.inj H
    go_enter Try.func12, Try.ntmps12
    go_wp2_with (first | ((with_reducible refine gate_dst (N := 1) rfl ?_); refine box_event ?hg (N := 1) ?hd (cs := #[.string a0_0, .bool a0_1, .bool a0_2, .bool a0_3, .bool a0_4, .bool a0_5, .bool a0_6, .slice A0_7 l0_7.length c0_7, .slice A0_8 l0_8.length c0_8, .bool a0_9, .slice A0_10 l0_10.length c0_10]) (t := 25) ?hr ?_; (case hd => rfl); (case hg => rfl); (case hr => first | (go_simp; done) | (go_simp; rfl)); intro gb173 hg w18 hbox hb; have n0_ := Aside0.mk (below_step (by repeat (first | (with_reducible first | exact HB.out | apply below_alloc | apply pw_below_drewN | apply below_drew1) | exact HB.out)) hb); have n1_ := Aside0.mk (hbox); have n2_ := Aside0.mk ((by rw [hg]; exact (below_size (by repeat (first | (with_reducible first | exact HB.out | apply below_alloc | apply pw_below_drewN | apply below_drew1) | exact HB.out))) : w.heap.size ≤ gb173)); have n3_ := Aside0.mk ((by rw [hg]; exact (below_size (by repeat (first | (with_reducible first | exact HB.out | apply below_alloc | apply pw_below_drewN | apply below_drew1) | exact HB.out))) : w.heap.size ≤ gb173)); clear HB; have HB := n0_; have BK173 := n1_; have GW173 := n2_; have GE173 := n3_; clear n0_ n1_ n2_ n3_; clear hb hbox hg; have hcz19_0 : w18.cell? ⟨gb173, 0, none⟩ = some (.string a0_0) := (blk_cell BK173.out 0).trans rfl; have hcz19_1 : w18.cell? ⟨gb173, 1, none⟩ = some (.bool a0_1) := (blk_cell BK173.out 1).trans rfl; have hcz19_2 : w18.cell? ⟨gb173, 2, none⟩ = some (.bool a0_2) := (blk_cell BK173.out 2).trans rfl; have hcz19_3 : w18.cell? ⟨gb173, 3, none⟩ = some (.bool a0_3) := (blk_cell BK173.out 3).trans rfl; have hcz19_4 : w18.cell? ⟨gb173, 4, none⟩ = some (.bool a0_4) := (blk_cell BK173.out 4).trans rfl; have hcz19_5 : w18.cell? ⟨gb173, 5, none⟩ = some (.bool a0_5) := (blk_cell BK173.out 5).trans rfl; have hcz19_6 : w18.cell? ⟨gb173, 6, none⟩ = some (.bool a0_6) := (blk_cell BK173.out 6).trans rfl; have hcz19_7 : w18.cell? ⟨gb173, 7, none⟩ = some (.slice A0_7 l0_7.length c0_7) := (blk_cell BK173.out 7).trans rfl; have hcz19_8 : w18.cell? ⟨gb173, 8, none⟩ = some (.slice A0_8 l0_8.length c0_8) := (blk_cell BK173.out 8).trans rfl; have hcz19_9 : w18.cell? ⟨gb173, 9, none⟩ = some (.bool a0_9) := (blk_cell BK173.out 9).trans rfl; have hcz19_10 : w18.cell? ⟨gb173, 10, none⟩ = some (.slice A0_10 l0_10.length c0_10) := (blk_cell BK173.out 10).trans rfl; have hfz19_0 := blk_frozen BK173.out 0; have hfz19_1 := blk_frozen BK173.out 1; have hfz19_2 := blk_frozen BK173.out 2; have hfz19_3 := blk_frozen BK173.out 3; have hfz19_4 := blk_frozen BK173.out 4; have hfz19_5 := blk_frozen BK173.out 5; have hfz19_6 := blk_frozen BK173.out 6; have hfz19_7 := blk_frozen BK173.out 7; have hfz19_8 := blk_frozen BK173.out 8; have hfz19_9 := blk_frozen BK173.out 9; have hfz19_10 := blk_frozen BK173.out 10) | ((with_reducible refine gate_callee (f := 25) rfl ?_); refine goesL_ (some 5) rfl rfl Try.func25 (by kernel_rfl) rfl #[.string a0_0] rfl (by (try simp only [List.map_toArray, List.map_cons, List.map_nil]); first | done | rfl | (simp only [List.length_drop, List.length_take]; rfl)) ?_; (with_reducible refine (aqueductref05_Kind.calls k a0_0 t174 _ A2.out).mono ?_); rintro e w' ⟨rfl, ⟨nd, rfl⟩⟩; refine ⟨_, rfl, ?_⟩))
    go_ret
    exact ⟨by first | rfl | (simp [errW_none, errW_some] <;> rfl) | (simp [*, errW_none, errW_some] <;> rfl), by repeat (first | (with_reducible first | exact HB.out | apply below_alloc | apply pw_below_drewN | apply below_drew1 | refine below_set ?_ GE173.out) | exact HB.out)⟩

/-! ### aqueductref16_Net: function 20 -/
def aqueductref16_Net.l0 : Nat → List Int → Int → Int → Option (Bool)
  | 0, _, _, _ => none
  | k + 1, x0, x1, x5 => if x5 < (x0.length : Int) then (if 0 ≤ x5 then (if (rd x0 x5) = x1 then (some true) else (aqueductref16_Net.l0 k x0 x1 (wrap64 (x5 + 1)))) else (none)) else (some false)
def aqueductref16_Net.f (k : Nat) (l0 : List Int) (a1 : Int) : Option (Bool) := aqueductref16_Net.l0 k l0 a1 0
theorem aqueductref16_Net.mono_l : ∀ k, (∀ y0 y1 y2, LeO (aqueductref16_Net.l0 k y0 y1 y2) (aqueductref16_Net.l0 (k + 1) y0 y1 y2))
  | 0 => fun _ _ _ r h => by simp [aqueductref16_Net.l0] at h
  | k + 1 => by
    have ih0 := aqueductref16_Net.mono_l k
    · intro y0 y1 y2
      unfold aqueductref16_Net.l0
      repeat' first
      | (with_reducible exact ih0 _ _ _)
      | (with_reducible exact LeO.refl _)
      | (with_reducible exact LeO.none _)
      | (with_reducible refine LeO.ite ?_ ?_)
      | (with_reducible refine LeO.bind ?_ (fun _ => ?_))
      | exact ih0 _ _ _
      | exact LeO.none _
      | refine LeO.ite ?_ ?_
      | refine LeO.bind ?_ (fun _ => ?_)
theorem aqueductref16_Net.mono : ∀ a0 a1 k, LeO (aqueductref16_Net.f k a0 a1) (aqueductref16_Net.f (k + 1) a0 a1) := by
  intro a0 a1 k
  have ih0 := aqueductref16_Net.mono_l k
  unfold aqueductref16_Net.f
  repeat' first
      | (with_reducible exact ih0 _ _ _)
      | (with_reducible exact LeO.refl _)
      | (with_reducible exact LeO.none _)
      | (with_reducible refine LeO.ite ?_ ?_)
      | (with_reducible refine LeO.bind ?_ (fun _ => ?_))
      | exact ih0 _ _ _
      | exact LeO.none _
      | refine LeO.ite ?_ ?_
      | refine LeO.bind ?_ (fun _ => ?_)
set_option maxHeartbeats 8000000 in
set_option maxRecDepth 100000 in
theorem aqueductref16_Net.calls (k : Nat) (A0 : Option Addr) (c0 : Nat) (l0 : List Int) (a1 : Int) (r : Bool) (w : World) (hr0 : Kd.C (Kd.int .i64) w A0 l0.length l0) (hc0 : l0.length ≤ c0) (h : aqueductref16_Net.f k l0 a1 = some r) :
    Calls Try.prog 20 #[.slice A0 l0.length c0, .int .i64 a1] w fun e w' => e = .returned (.bool r) ∧ Drawn0 w w' := by
  have HR0 := Aside0.mk hr0
  have HC0 := Aside0.mk hc0
  clear hr0 hc0
  have H : (aqueductref16_Net.l0 k l0 a1 0) = some r := h
  clear h
  have H' := Aside0.mk H
  clear H
  go_enter Try.func20, Try.ntmps20
  go_wp2
  go_loopg [5] k (fun kq v5 w' => ∃ (x5_1 : Int), v5 = .int .i64 x5_1 ∧ Aside0 (aqueductref16_Net.l0 kq l0 a1 x5_1 = some r) ∧ Aside0 (kq ≤ k) ∧ Drawn0 w w')
  case atStart => exact ⟨(0), (by first | rfl | (simp; done) | (simp [*]; done)), H', ⟨Nat.le_refl _⟩, by repeat (first | exact Drawn0.refl _ | apply Drawn0.step)⟩
  case round =>
    clear H'
    try clear c2
    try clear p2
    obtain ⟨x5_1, rfl, HA, HK1, ⟨m1, rfl⟩⟩ := hrel
    cases gk with
    | zero => exact absurd HA.out (by simp [aqueductref16_Net.l0])
    | succ k1 =>
      have H := HA.out
      clear HA
      simp only [aqueductref16_Net.l0] at H
      by_cases c3 : x5_1 < (l0.length : Int)
      · rw [if_pos c3] at H
        have c3b0 : decide (x5_1 < (l0.length : Int)) = true := decide_eq_true c3
        clear c3
        by_cases c4 : 0 ≤ x5_1
        · rw [if_pos c4] at H
          have c4b0 : decide (0 ≤ x5_1) = true := decide_eq_true c4
          clear c4
          by_cases c5 : (rd l0 x5_1) = a1
          · rw [if_pos c5] at H
            have c5b0 : ((rd l0 x5_1) == a1) = true := beq_iff_eq.mpr c5
            have c5b1 : ((rd l0 x5_1) != a1) = false := bne_eq_false_iff_eq.mpr c5
            clear c5
            obtain rfl := Option.some.inj H
            have p178 : 0 ≤ (x5_1 : Int) := of_decide_eq_true (by first | (with_reducible assumption) | assumption)
            have q178 : x5_1 < (l0.length : Int) := of_decide_eq_true (by first | (with_reducible assumption) | assumption)
            obtain ⟨ad178, e178, hx178_0⟩ := Kd.at_int HR0.out x5_1 p178 q178
            cases e178
            replace p178 := eq_true p178
            replace q178 := eq_true q178
            go_wp2
            go_ret
            exact ⟨by first | rfl | (simp; done) | (simp [*]; done), by repeat (first | exact Drawn0.refl _ | apply Drawn0.step)⟩
          · rw [if_neg c5] at H
            have c5b0 : ((rd l0 x5_1) == a1) = false := beq_eq_false_iff_ne.mpr c5
            have c5b1 : ((rd l0 x5_1) != a1) = true := bne_iff_ne.mpr c5
            have H' := Aside0.mk H
            clear H
            have p178 : 0 ≤ (x5_1 : Int) := of_decide_eq_true (by first | (with_reducible assumption) | assumption)
            have q178 : x5_1 < (l0.length : Int) := of_decide_eq_true (by first | (with_reducible assumption) | assumption)
            obtain ⟨ad178, e178, hx178_0⟩ := Kd.at_int HR0.out x5_1 p178 q178
            cases e178
            replace p178 := eq_true p178
            replace q178 := eq_true q178
            go_wp2
            go_roundg k1
            case measure => have := HK1.out; omega
            case rel => exact ⟨(wrap64 (x5_1 + 1)), (by first | rfl | (simp; done) | (simp [*]; done)), H', ⟨by have := HK1.out; omega⟩, by repeat (first | exact Drawn0.refl _ | apply Drawn0.step)⟩
        · rw [if_neg c4] at H
          exact absurd H (by simp)
      · rw [if_neg c3] at H
        have c3b0 : decide (x5_1 < (l0.length : Int)) = false := decide_eq_false c3
        clear c3
        obtain rfl := Option.some.inj H
        go_wp2
        go_ret
        exact ⟨by first | rfl | (simp; done) | (simp [*]; done), by repeat (first | exact Drawn0.refl _ | apply Drawn0.step)⟩

/-! ### aqueductref06_num: function 48 -/
def aqueductref06_num.f (a0 : ByteArray) (a1 : Int) : Option (Int) := if 0 ≤ a1 then (if a1 < (a0.size : Int) then (if 0 ≤ (wrap64 (a1 + 1)) then (if (wrap64 (a1 + 1)) < (a0.size : Int) then (some (wrap64 ((wrap64 (256 * (wrap64 (bt a0 a1)))) + (wrap64 (bt a0 (wrap64 (a1 + 1))))))) else (none)) else (none)) else (none)) else (none)
set_option maxHeartbeats 8000000 in
set_option maxRecDepth 100000 in
theorem aqueductref06_num.calls (a0 : ByteArray) (a1 : Int) (r : Int) (w : World) (h : aqueductref06_num.f a0 a1 = some r) :
    Calls Try.prog 48 #[.string a0, .int .i64 a1] w fun e w' => e = .returned (.int .i64 r) ∧ Drawn0 w w' := by
  have H : (if 0 ≤ a1 then (if a1 < (a0.size : Int) then (if 0 ≤ (wrap64 (a1 + 1)) then (if (wrap64 (a1 + 1)) < (a0.size : Int) then (some (wrap64 ((wrap64 (256 * (wrap64 (bt a0 a1)))) + (wrap64 (bt a0 (wrap64 (a1 + 1))))))) else (none)) else (none)) else (none)) else (none)) = some r := h
  clear h
  by_cases c3 : 0 ≤ a1
  · rw [if_pos c3] at H
    have c3b0 : decide (0 ≤ a1) = true := decide_eq_true c3
    clear c3
    by_cases c4 : a1 < (a0.size : Int)
    · rw [if_pos c4] at H
      have c4b0 : decide (a1 < (a0.size : Int)) = true := decide_eq_true c4
      clear c4
      obtain ⟨ji6, hji6⟩ : ∃ j_ : Int, (wrap64 (a1 + 1)) = j_ := ⟨_, rfl⟩
      replace H : (if 0 ≤ (ji6) then (if (ji6) < (a0.size : Int) then (some (wrap64 ((wrap64 (256 * (wrap64 (bt a0 a1)))) + (wrap64 (bt a0 (ji6)))))) else (none)) else (none)) = some r := by first | (rw [hji6] at H; exact H) | (simp only [hji6] at H ⊢; exact H)
      have hji6w : (IntKind.i64.wrap (a1 + 1)) = ji6 := (i64_w _).trans hji6
      by_cases c7 : 0 ≤ (ji6)
      · rw [if_pos c7] at H
        have c7b0 : decide (0 ≤ (ji6)) = true := decide_eq_true c7
        clear c7
        by_cases c8 : (ji6) < (a0.size : Int)
        · rw [if_pos c8] at H
          have c8b0 : decide ((ji6) < (a0.size : Int)) = true := decide_eq_true c8
          clear c8
          obtain rfl := Option.some.inj H
          have p5 : 0 ≤ (a1 : Int) := of_decide_eq_true (by first | (with_reducible assumption) | assumption)
          have q5 : a1 < (a0.size : Int) := of_decide_eq_true (by first | (with_reducible assumption) | assumption)
          have hx5 := bt_at a0 a1
          replace p5 := eq_true p5
          replace q5 := eq_true q5
          have p9 : 0 ≤ ((ji6) : Int) := of_decide_eq_true (by first | (with_reducible assumption) | assumption)
          have q9 : (ji6) < (a0.size : Int) := of_decide_eq_true (by first | (with_reducible assumption) | assumption)
          have hx9 := bt_at a0 (ji6)
          replace p9 := eq_true p9
          replace q9 := eq_true q9
          go_enter Try.func48, Try.ntmps48
          go_wp2
          repeat (go_quiet (fail); try go_wp2)
          go_ret
          exact ⟨by first | rfl | (simp; done) | (simp only [← hji6] <;> (first | rfl | simp)) | (simp [*]; done), by repeat (first | exact Drawn0.refl _ | apply Drawn0.step)⟩
        · rw [if_neg c8] at H
          exact absurd H (by simp)
      · rw [if_neg c7] at H
        exact absurd H (by simp)
    · rw [if_neg c4] at H
      exact absurd H (by simp)
  · rw [if_neg c3] at H
    exact absurd H (by simp)

end Go.Proofs.Ytnckogdplcijiaa.P
