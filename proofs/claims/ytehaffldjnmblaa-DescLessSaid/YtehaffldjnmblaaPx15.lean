/- What functions of the program compute, each with the walk that shows it: by a program (a turned copy of the kit's print; wip/myprint.py). -/
import Derived.Test.YtehaffldjnmblaaPx0
import Derived.Test.YtehaffldjnmblaaPx8
import Derived.Test.YtehaffldjnmblaaPx9
namespace Go.Proofs.Ytehaffldjnmblaa.P
open Go.RowKit Go.Proofs.YtehaffldjnmblaaW.PrintWords Go.Proofs.YtehaffldjnmblaaW.PrintLast Go.Proofs.YtehaffldjnmblaaW.PrintMore
attribute [local go_sem] max2_int min2_int max_two min_two max_three min_three max_four min_four   -- for this text's walks alone
set_option linter.unusedVariables false
set_option linter.unusedSimpArgs false

/-! ### aqueductlaw12_DescLess: function 8 -/
def aqueductlaw12_DescLess.f (k : Nat) (a0 : Int) (a1 : Bool) (a2 : Bool) : Option (Bool) := (desc_Mark.f (Go.bits .and .i64 a0 65535) a1 a2).bind fun t232 => ((desc_Mark.f t232 a1 a2).bind fun t233 => (if t233 = t232 then (if (Go.bits .andNot .i64 (Go.bits .xor .i64 (Go.bits .and .i64 a0 65535) t232) 32896) = 0 then (if t232 ≥ 0 then (if t232 ≤ 65535 then ((desc_Mark.f (Go.bits .and .i64 a0 65535) (!a1) a2).bind fun t234 => (if t234 = t232 then (some false) else ((desc_Mark.f (Go.bits .and .i64 a0 65535) a1 (!a2)).bind fun t235 => (if t235 = t232 then (some false) else ((aqueductlaw12_fixed.f k).bind fun t236 => (some t236)))))) else (some false)) else (some false)) else (some false)) else (some false)))
theorem aqueductlaw12_DescLess.mono : ∀ a0 a1 a2 k, LeO (aqueductlaw12_DescLess.f k a0 a1 a2) (aqueductlaw12_DescLess.f (k + 1) a0 a1 a2) := by
  intro a0 a1 a2 k
  unfold aqueductlaw12_DescLess.f
  repeat' first
      | (with_reducible exact aqueductlaw12_fixed.mono _)
      | (with_reducible exact LeO.refl _)
      | (with_reducible exact LeO.none _)
      | (with_reducible refine LeO.ite ?_ ?_)
      | (with_reducible refine LeO.bind ?_ (fun _ => ?_))
      | exact aqueductlaw12_fixed.mono _
      | exact LeO.none _
      | refine LeO.ite ?_ ?_
      | refine LeO.bind ?_ (fun _ => ?_)
set_option maxHeartbeats 8000000 in
set_option maxRecDepth 100000 in
theorem aqueductlaw12_DescLess.calls (k : Nat) (a0 : Int) (a1 : Bool) (a2 : Bool) (r : Bool) (w : World) (h : aqueductlaw12_DescLess.f k a0 a1 a2 = some r) (hr_ : r = true) :
    Calls Try.prog 8 #[.int .i64 a0, .bool a1, .bool a2] w fun e w' => e = .returned (.bool r) ∧ Below w.heap.size w w' := by
  have HB := Aside0.mk (Below.refl w.heap.size w)
  have H : ((desc_Mark.f (Go.bits .and .i64 a0 65535) a1 a2).bind fun t232 => ((desc_Mark.f t232 a1 a2).bind fun t233 => (if t233 = t232 then (if (Go.bits .andNot .i64 (Go.bits .xor .i64 (Go.bits .and .i64 a0 65535) t232) 32896) = 0 then (if t232 ≥ 0 then (if t232 ≤ 65535 then ((desc_Mark.f (Go.bits .and .i64 a0 65535) (!a1) a2).bind fun t234 => (if t234 = t232 then (some false) else ((desc_Mark.f (Go.bits .and .i64 a0 65535) a1 (!a2)).bind fun t235 => (if t235 = t232 then (some false) else ((aqueductlaw12_fixed.f k).bind fun t236 => (some t236)))))) else (some false)) else (some false)) else (some false)) else (some false)))) = some r := h
  clear h
  have HR_ := Aside0.mk hr_
  clear hr_
  replace H := Option.bind_eq_some_iff.mp H
  obtain ⟨t232, A40, H⟩ := H
  replace H : ((desc_Mark.f t232 a1 a2).bind fun t233 => (if t233 = t232 then (if (Go.bits .andNot .i64 (Go.bits .xor .i64 (Go.bits .and .i64 a0 65535) t232) 32896) = 0 then (if t232 ≥ 0 then (if t232 ≤ 65535 then ((desc_Mark.f (Go.bits .and .i64 a0 65535) (!a1) a2).bind fun t234 => (if t234 = t232 then (some false) else ((desc_Mark.f (Go.bits .and .i64 a0 65535) a1 (!a2)).bind fun t235 => (if t235 = t232 then (some false) else ((aqueductlaw12_fixed.f k).bind fun t236 => (some t236)))))) else (some false)) else (some false)) else (some false)) else (some false))) = some r := H
  have A4 := Aside0.mk A40
  clear A40
  replace H := Option.bind_eq_some_iff.mp H
  obtain ⟨t233, A50, H⟩ := H
  replace H : (if t233 = t232 then (if (Go.bits .andNot .i64 (Go.bits .xor .i64 (Go.bits .and .i64 a0 65535) t232) 32896) = 0 then (if t232 ≥ 0 then (if t232 ≤ 65535 then ((desc_Mark.f (Go.bits .and .i64 a0 65535) (!a1) a2).bind fun t234 => (if t234 = t232 then (some false) else ((desc_Mark.f (Go.bits .and .i64 a0 65535) a1 (!a2)).bind fun t235 => (if t235 = t232 then (some false) else ((aqueductlaw12_fixed.f k).bind fun t236 => (some t236)))))) else (some false)) else (some false)) else (some false)) else (some false)) = some r := H
  have A5 := Aside0.mk A50
  clear A50
  by_cases c6 : t233 = t232
  · rw [if_pos c6] at H
    have c6b0 : (t233 == t232) = true := beq_iff_eq.mpr c6
    have c6b1 : (t233 != t232) = false := bne_eq_false_iff_eq.mpr c6
    clear c6
    by_cases c7 : (Go.bits .andNot .i64 (Go.bits .xor .i64 (Go.bits .and .i64 a0 65535) t232) 32896) = 0
    · rw [if_pos c7] at H
      have c7b0 : ((Go.bits .andNot .i64 (Go.bits .xor .i64 (Go.bits .and .i64 a0 65535) t232) 32896) == 0) = true := beq_iff_eq.mpr c7
      have c7b1 : ((Go.bits .andNot .i64 (Go.bits .xor .i64 (Go.bits .and .i64 a0 65535) t232) 32896) != 0) = false := bne_eq_false_iff_eq.mpr c7
      clear c7
      by_cases c8 : t232 ≥ 0
      · rw [if_pos c8] at H
        have c8b0 : decide (0 ≤ t232) = true := decide_eq_true c8
        clear c8
        by_cases c9 : t232 ≤ 65535
        · rw [if_pos c9] at H
          have c9b0 : decide (t232 ≤ 65535) = true := decide_eq_true c9
          clear c9
          replace H := Option.bind_eq_some_iff.mp H
          obtain ⟨t234, A100, H⟩ := H
          replace H : (if t234 = t232 then (some false) else ((desc_Mark.f (Go.bits .and .i64 a0 65535) a1 (!a2)).bind fun t235 => (if t235 = t232 then (some false) else ((aqueductlaw12_fixed.f k).bind fun t236 => (some t236))))) = some r := H
          have A10 := Aside0.mk A100
          clear A100
          by_cases c11 : t234 = t232
          · rw [if_pos c11] at H
            have c11b0 : (t234 == t232) = true := beq_iff_eq.mpr c11
            have c11b1 : (t234 != t232) = false := bne_eq_false_iff_eq.mpr c11
            clear c11
            obtain rfl := Option.some.inj H
            exact absurd HR_.out (by decide)
          · rw [if_neg c11] at H
            have c11b0 : (t234 == t232) = false := beq_eq_false_iff_ne.mpr c11
            have c11b1 : (t234 != t232) = true := bne_iff_ne.mpr c11
            replace H := Option.bind_eq_some_iff.mp H
            obtain ⟨t235, A120, H⟩ := H
            replace H : (if t235 = t232 then (some false) else ((aqueductlaw12_fixed.f k).bind fun t236 => (some t236))) = some r := H
            have A12 := Aside0.mk A120
            clear A120
            by_cases c13 : t235 = t232
            · rw [if_pos c13] at H
              have c13b0 : (t235 == t232) = true := beq_iff_eq.mpr c13
              have c13b1 : (t235 != t232) = false := bne_eq_false_iff_eq.mpr c13
              clear c13
              obtain rfl := Option.some.inj H
              exact absurd HR_.out (by decide)
            · rw [if_neg c13] at H
              have c13b0 : (t235 == t232) = false := beq_eq_false_iff_ne.mpr c13
              have c13b1 : (t235 != t232) = true := bne_iff_ne.mpr c13
              replace H := Option.bind_eq_some_iff.mp H
              obtain ⟨t236, A140, H⟩ := H
              replace H : (some t236) = some r := H
              have A14 := Aside0.mk A140
              clear A140
              obtain rfl := Option.some.inj H
              go_enter Try.func8, Try.ntmps8
              go_wp2_with (first | ((with_reducible refine gate_callee (f := 18) rfl ?_); refine goesL_ (some 15) rfl rfl Try.func18 (by kernel_rfl) rfl #[.int .i64 (Go.bits .and .i64 a0 65535), .bool a1, .bool a2] rfl (by (try simp only [List.map_toArray, List.map_cons, List.map_nil]); first | done | rfl | (simp only [List.length_drop, List.length_take]; rfl)) ?_; (with_reducible refine (desc_Mark.calls (Go.bits .and .i64 a0 65535) a1 a2 t232 _ A4.out).mono ?_); rintro e w' ⟨rfl, ⟨nd, rfl⟩⟩; refine ⟨_, rfl, ?_⟩) | ((with_reducible refine gate_callee (f := 18) rfl ?_); refine goesL_ (some 22) rfl rfl Try.func18 (by kernel_rfl) rfl #[.int .i64 t232, .bool a1, .bool a2] rfl (by (try simp only [List.map_toArray, List.map_cons, List.map_nil]); first | done | rfl | (simp only [List.length_drop, List.length_take]; rfl)) ?_; (with_reducible refine (desc_Mark.calls t232 a1 a2 t233 _ A5.out).mono ?_); rintro e w' ⟨rfl, ⟨nd, rfl⟩⟩; refine ⟨_, rfl, ?_⟩) | (go_at_call 18; (with_reducible refine (desc_Mark.calls (Go.bits .and .i64 a0 65535) (!a1) a2 t234 _ A10.out).mono ?_); rintro e w' ⟨rfl, ⟨nd, rfl⟩⟩) | (go_at_call 18; (with_reducible refine (desc_Mark.calls (Go.bits .and .i64 a0 65535) a1 (!a2) t235 _ A12.out).mono ?_); rintro e w' ⟨rfl, ⟨nd, rfl⟩⟩) | (go_at_call 13; (with_reducible refine (aqueductlaw12_fixed.calls k  t236 _ A14.out).mono ?_); rintro e w15 ⟨rfl, hb⟩; have n0_ := Aside0.mk (below_step (by repeat (first | (with_reducible first | exact HB.out | apply below_alloc | apply pw_below_drewN | apply below_drew1) | exact HB.out)) hb); clear HB; have HB := n0_; clear n0_; (try clear hb); (try clear hb2); (try clear hk); (try clear hi)))
              go_ret
              exact ⟨by first | rfl | (simp [errW_none, errW_some] <;> rfl) | (simp [*, errW_none, errW_some] <;> rfl) | (exfalso; simp_all), by repeat (first | (with_reducible first | exact HB.out | apply below_alloc | apply pw_below_drewN | apply below_drew1) | exact HB.out)⟩
        · rw [if_neg c9] at H
          have c9b0 : decide (t232 ≤ 65535) = false := decide_eq_false c9
          clear c9
          obtain rfl := Option.some.inj H
          exact absurd HR_.out (by decide)
      · rw [if_neg c8] at H
        have c8b0 : decide (0 ≤ t232) = false := decide_eq_false c8
        clear c8
        obtain rfl := Option.some.inj H
        exact absurd HR_.out (by decide)
    · rw [if_neg c7] at H
      have c7b0 : ((Go.bits .andNot .i64 (Go.bits .xor .i64 (Go.bits .and .i64 a0 65535) t232) 32896) == 0) = false := beq_eq_false_iff_ne.mpr c7
      have c7b1 : ((Go.bits .andNot .i64 (Go.bits .xor .i64 (Go.bits .and .i64 a0 65535) t232) 32896) != 0) = true := bne_iff_ne.mpr c7
      obtain rfl := Option.some.inj H
      exact absurd HR_.out (by decide)
  · rw [if_neg c6] at H
    have c6b0 : (t233 == t232) = false := beq_eq_false_iff_ne.mpr c6
    have c6b1 : (t233 != t232) = true := bne_iff_ne.mpr c6
    obtain rfl := Option.some.inj H
    exact absurd HR_.out (by decide)

/-- THE ONE PURE STATEMENT of aqueductlaw12_DescLess: yours. -/
def aqueductlaw12_DescLess.Pure : Prop := ∀ (a0 : Int) (a1 : Bool) (a2 : Bool), (Lit.int .i64 a0).wf = true → ∃ k, aqueductlaw12_DescLess.f k a0 a1 a2 = some true
theorem aqueductlaw12_DescLess.walk (P : aqueductlaw12_DescLess.Pure) (a0 : Int) (a1 : Bool) (a2 : Bool) (w : World) (w0 : (Lit.int .i64 a0).wf = true) :
    Calls Try.prog 8 #[.int .i64 a0, .bool a1, .bool a2] w fun e w' => e = .returned (.bool true) ∧ Below w.heap.size w w' := by
  obtain ⟨k, h⟩ := P a0 a1 a2 w0
  refine (aqueductlaw12_DescLess.calls k a0 a1 a2 true w h rfl).mono ?_
  rintro e w' ⟨rfl, hd⟩
  exact ⟨rfl, hd⟩

end Go.Proofs.Ytehaffldjnmblaa.P
