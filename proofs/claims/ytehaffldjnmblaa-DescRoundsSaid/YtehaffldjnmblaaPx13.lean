/- What functions of the program compute, each with the walk that shows it: by a program (a turned copy of the kit's print; wip/myprint.py). -/
import Derived.Test.YtehaffldjnmblaaPx0
import Derived.Test.YtehaffldjnmblaaPx8
import Derived.Test.YtehaffldjnmblaaPx9
namespace Go.Proofs.Ytehaffldjnmblaa.P
open Go.RowKit Go.Proofs.YtehaffldjnmblaaW.PrintWords Go.Proofs.YtehaffldjnmblaaW.PrintLast Go.Proofs.YtehaffldjnmblaaW.PrintMore
attribute [local go_sem] max2_int min2_int max_two min_two max_three min_three max_four min_four   -- for this text's walks alone
set_option linter.unusedVariables false
set_option linter.unusedSimpArgs false

/-! ### aqueductlaw12_DescRounds: function 6 -/
def aqueductlaw12_DescRounds.f (k : Nat) (a0 : Int) (a1 : Bool) : Option (Bool) := (desc_Mark.f (Go.bits .and .i64 a0 65535) a1 false).bind fun t212 => ((desc_Mark.f (Go.bits .and .i64 a0 65535) a1 true).bind fun t213 => ((aqueductlaw12_fixed.f k).bind fun t214 => (if t214 = true then ((desc_Avail.f k t212 a1).bind fun t215 => (if t215 = true then ((desc_Used.f k t212 a1).bind fun t216 => (if t216 = true then (some false) else ((desc_Used.f k t213 a1).bind fun t217 => (if t217 = true then ((desc_Avail.f k t213 a1).bind fun t218 => (if t218 = true then (some false) else ((desc_Avail.f k t213 (!a1)).bind fun t219 => (if t219 = true then (some false) else ((desc_Used.f k t212 (!a1)).bind fun t220 => (if t220 = true then (some false) else ((desc_Avail.f k t212 (!a1)).bind fun t221 => (if t221 = true then (some false) else ((desc_Used.f k t213 (!a1)).bind fun t222 => (if t222 = true then (some false) else (if (Go.bits .and .i64 t212 32639) = (Go.bits .and .i64 (Go.bits .and .i64 a0 65535) 32639) then (if (Go.bits .and .i64 t213 32639) = (Go.bits .and .i64 (Go.bits .and .i64 a0 65535) 32639) then ((desc_Mark.f t212 a1 true).bind fun t223 => (some (t223 == t213))) else (some false)) else (some false)))))))))))) else (some false))))) else (some false))) else (some false))))
theorem aqueductlaw12_DescRounds.mono : ∀ a0 a1 k, LeO (aqueductlaw12_DescRounds.f k a0 a1) (aqueductlaw12_DescRounds.f (k + 1) a0 a1) := by
  intro a0 a1 k
  unfold aqueductlaw12_DescRounds.f
  repeat' first
      | (with_reducible exact aqueductlaw12_fixed.mono _)
      | (with_reducible exact desc_Avail.mono _ _ _)
      | (with_reducible exact desc_Used.mono _ _ _)
      | (with_reducible exact LeO.refl _)
      | (with_reducible exact LeO.none _)
      | (with_reducible refine LeO.ite ?_ ?_)
      | (with_reducible refine LeO.bind ?_ (fun _ => ?_))
      | exact aqueductlaw12_fixed.mono _
      | exact desc_Avail.mono _ _ _
      | exact desc_Used.mono _ _ _
      | exact LeO.none _
      | refine LeO.ite ?_ ?_
      | refine LeO.bind ?_ (fun _ => ?_)
set_option maxHeartbeats 8000000 in
set_option maxRecDepth 100000 in
theorem aqueductlaw12_DescRounds.calls (k : Nat) (a0 : Int) (a1 : Bool) (r : Bool) (w : World) (h : aqueductlaw12_DescRounds.f k a0 a1 = some r) (hr_ : r = true) :
    Calls Try.prog 6 #[.int .i64 a0, .bool a1] w fun e w' => e = .returned (.bool r) ∧ Below w.heap.size w w' := by
  have HB := Aside0.mk (Below.refl w.heap.size w)
  have H : ((desc_Mark.f (Go.bits .and .i64 a0 65535) a1 false).bind fun t212 => ((desc_Mark.f (Go.bits .and .i64 a0 65535) a1 true).bind fun t213 => ((aqueductlaw12_fixed.f k).bind fun t214 => (if t214 = true then ((desc_Avail.f k t212 a1).bind fun t215 => (if t215 = true then ((desc_Used.f k t212 a1).bind fun t216 => (if t216 = true then (some false) else ((desc_Used.f k t213 a1).bind fun t217 => (if t217 = true then ((desc_Avail.f k t213 a1).bind fun t218 => (if t218 = true then (some false) else ((desc_Avail.f k t213 (!a1)).bind fun t219 => (if t219 = true then (some false) else ((desc_Used.f k t212 (!a1)).bind fun t220 => (if t220 = true then (some false) else ((desc_Avail.f k t212 (!a1)).bind fun t221 => (if t221 = true then (some false) else ((desc_Used.f k t213 (!a1)).bind fun t222 => (if t222 = true then (some false) else (if (Go.bits .and .i64 t212 32639) = (Go.bits .and .i64 (Go.bits .and .i64 a0 65535) 32639) then (if (Go.bits .and .i64 t213 32639) = (Go.bits .and .i64 (Go.bits .and .i64 a0 65535) 32639) then ((desc_Mark.f t212 a1 true).bind fun t223 => (some (t223 == t213))) else (some false)) else (some false)))))))))))) else (some false))))) else (some false))) else (some false))))) = some r := h
  clear h
  have HR_ := Aside0.mk hr_
  clear hr_
  replace H := Option.bind_eq_some_iff.mp H
  obtain ⟨t212, A30, H⟩ := H
  replace H : ((desc_Mark.f (Go.bits .and .i64 a0 65535) a1 true).bind fun t213 => ((aqueductlaw12_fixed.f k).bind fun t214 => (if t214 = true then ((desc_Avail.f k t212 a1).bind fun t215 => (if t215 = true then ((desc_Used.f k t212 a1).bind fun t216 => (if t216 = true then (some false) else ((desc_Used.f k t213 a1).bind fun t217 => (if t217 = true then ((desc_Avail.f k t213 a1).bind fun t218 => (if t218 = true then (some false) else ((desc_Avail.f k t213 (!a1)).bind fun t219 => (if t219 = true then (some false) else ((desc_Used.f k t212 (!a1)).bind fun t220 => (if t220 = true then (some false) else ((desc_Avail.f k t212 (!a1)).bind fun t221 => (if t221 = true then (some false) else ((desc_Used.f k t213 (!a1)).bind fun t222 => (if t222 = true then (some false) else (if (Go.bits .and .i64 t212 32639) = (Go.bits .and .i64 (Go.bits .and .i64 a0 65535) 32639) then (if (Go.bits .and .i64 t213 32639) = (Go.bits .and .i64 (Go.bits .and .i64 a0 65535) 32639) then ((desc_Mark.f t212 a1 true).bind fun t223 => (some (t223 == t213))) else (some false)) else (some false)))))))))))) else (some false))))) else (some false))) else (some false)))) = some r := H
  have A3 := Aside0.mk A30
  clear A30
  replace H := Option.bind_eq_some_iff.mp H
  obtain ⟨t213, A40, H⟩ := H
  replace H : ((aqueductlaw12_fixed.f k).bind fun t214 => (if t214 = true then ((desc_Avail.f k t212 a1).bind fun t215 => (if t215 = true then ((desc_Used.f k t212 a1).bind fun t216 => (if t216 = true then (some false) else ((desc_Used.f k t213 a1).bind fun t217 => (if t217 = true then ((desc_Avail.f k t213 a1).bind fun t218 => (if t218 = true then (some false) else ((desc_Avail.f k t213 (!a1)).bind fun t219 => (if t219 = true then (some false) else ((desc_Used.f k t212 (!a1)).bind fun t220 => (if t220 = true then (some false) else ((desc_Avail.f k t212 (!a1)).bind fun t221 => (if t221 = true then (some false) else ((desc_Used.f k t213 (!a1)).bind fun t222 => (if t222 = true then (some false) else (if (Go.bits .and .i64 t212 32639) = (Go.bits .and .i64 (Go.bits .and .i64 a0 65535) 32639) then (if (Go.bits .and .i64 t213 32639) = (Go.bits .and .i64 (Go.bits .and .i64 a0 65535) 32639) then ((desc_Mark.f t212 a1 true).bind fun t223 => (some (t223 == t213))) else (some false)) else (some false)))))))))))) else (some false))))) else (some false))) else (some false))) = some r := H
  have A4 := Aside0.mk A40
  clear A40
  replace H := Option.bind_eq_some_iff.mp H
  obtain ⟨t214, A50, H⟩ := H
  replace H : (if t214 = true then ((desc_Avail.f k t212 a1).bind fun t215 => (if t215 = true then ((desc_Used.f k t212 a1).bind fun t216 => (if t216 = true then (some false) else ((desc_Used.f k t213 a1).bind fun t217 => (if t217 = true then ((desc_Avail.f k t213 a1).bind fun t218 => (if t218 = true then (some false) else ((desc_Avail.f k t213 (!a1)).bind fun t219 => (if t219 = true then (some false) else ((desc_Used.f k t212 (!a1)).bind fun t220 => (if t220 = true then (some false) else ((desc_Avail.f k t212 (!a1)).bind fun t221 => (if t221 = true then (some false) else ((desc_Used.f k t213 (!a1)).bind fun t222 => (if t222 = true then (some false) else (if (Go.bits .and .i64 t212 32639) = (Go.bits .and .i64 (Go.bits .and .i64 a0 65535) 32639) then (if (Go.bits .and .i64 t213 32639) = (Go.bits .and .i64 (Go.bits .and .i64 a0 65535) 32639) then ((desc_Mark.f t212 a1 true).bind fun t223 => (some (t223 == t213))) else (some false)) else (some false)))))))))))) else (some false))))) else (some false))) else (some false)) = some r := H
  have A5 := Aside0.mk A50
  clear A50
  by_cases c6 : t214 = true
  · subst c6
    have H1 : ((desc_Avail.f k t212 a1).bind fun t215 => (if t215 = true then ((desc_Used.f k t212 a1).bind fun t216 => (if t216 = true then (some false) else ((desc_Used.f k t213 a1).bind fun t217 => (if t217 = true then ((desc_Avail.f k t213 a1).bind fun t218 => (if t218 = true then (some false) else ((desc_Avail.f k t213 (!a1)).bind fun t219 => (if t219 = true then (some false) else ((desc_Used.f k t212 (!a1)).bind fun t220 => (if t220 = true then (some false) else ((desc_Avail.f k t212 (!a1)).bind fun t221 => (if t221 = true then (some false) else ((desc_Used.f k t213 (!a1)).bind fun t222 => (if t222 = true then (some false) else (if (Go.bits .and .i64 t212 32639) = (Go.bits .and .i64 (Go.bits .and .i64 a0 65535) 32639) then (if (Go.bits .and .i64 t213 32639) = (Go.bits .and .i64 (Go.bits .and .i64 a0 65535) 32639) then ((desc_Mark.f t212 a1 true).bind fun t223 => (some (t223 == t213))) else (some false)) else (some false)))))))))))) else (some false))))) else (some false))) = some r := by rw [if_pos rfl] at H; exact H
    clear H
    have H := H1
    clear H1
    replace H := Option.bind_eq_some_iff.mp H
    obtain ⟨t215, A70, H⟩ := H
    replace H : (if t215 = true then ((desc_Used.f k t212 a1).bind fun t216 => (if t216 = true then (some false) else ((desc_Used.f k t213 a1).bind fun t217 => (if t217 = true then ((desc_Avail.f k t213 a1).bind fun t218 => (if t218 = true then (some false) else ((desc_Avail.f k t213 (!a1)).bind fun t219 => (if t219 = true then (some false) else ((desc_Used.f k t212 (!a1)).bind fun t220 => (if t220 = true then (some false) else ((desc_Avail.f k t212 (!a1)).bind fun t221 => (if t221 = true then (some false) else ((desc_Used.f k t213 (!a1)).bind fun t222 => (if t222 = true then (some false) else (if (Go.bits .and .i64 t212 32639) = (Go.bits .and .i64 (Go.bits .and .i64 a0 65535) 32639) then (if (Go.bits .and .i64 t213 32639) = (Go.bits .and .i64 (Go.bits .and .i64 a0 65535) 32639) then ((desc_Mark.f t212 a1 true).bind fun t223 => (some (t223 == t213))) else (some false)) else (some false)))))))))))) else (some false))))) else (some false)) = some r := H
    have A7 := Aside0.mk A70
    clear A70
    by_cases c8 : t215 = true
    · subst c8
      have H1 : ((desc_Used.f k t212 a1).bind fun t216 => (if t216 = true then (some false) else ((desc_Used.f k t213 a1).bind fun t217 => (if t217 = true then ((desc_Avail.f k t213 a1).bind fun t218 => (if t218 = true then (some false) else ((desc_Avail.f k t213 (!a1)).bind fun t219 => (if t219 = true then (some false) else ((desc_Used.f k t212 (!a1)).bind fun t220 => (if t220 = true then (some false) else ((desc_Avail.f k t212 (!a1)).bind fun t221 => (if t221 = true then (some false) else ((desc_Used.f k t213 (!a1)).bind fun t222 => (if t222 = true then (some false) else (if (Go.bits .and .i64 t212 32639) = (Go.bits .and .i64 (Go.bits .and .i64 a0 65535) 32639) then (if (Go.bits .and .i64 t213 32639) = (Go.bits .and .i64 (Go.bits .and .i64 a0 65535) 32639) then ((desc_Mark.f t212 a1 true).bind fun t223 => (some (t223 == t213))) else (some false)) else (some false)))))))))))) else (some false))))) = some r := by rw [if_pos rfl] at H; exact H
      clear H
      have H := H1
      clear H1
      replace H := Option.bind_eq_some_iff.mp H
      obtain ⟨t216, A90, H⟩ := H
      replace H : (if t216 = true then (some false) else ((desc_Used.f k t213 a1).bind fun t217 => (if t217 = true then ((desc_Avail.f k t213 a1).bind fun t218 => (if t218 = true then (some false) else ((desc_Avail.f k t213 (!a1)).bind fun t219 => (if t219 = true then (some false) else ((desc_Used.f k t212 (!a1)).bind fun t220 => (if t220 = true then (some false) else ((desc_Avail.f k t212 (!a1)).bind fun t221 => (if t221 = true then (some false) else ((desc_Used.f k t213 (!a1)).bind fun t222 => (if t222 = true then (some false) else (if (Go.bits .and .i64 t212 32639) = (Go.bits .and .i64 (Go.bits .and .i64 a0 65535) 32639) then (if (Go.bits .and .i64 t213 32639) = (Go.bits .and .i64 (Go.bits .and .i64 a0 65535) 32639) then ((desc_Mark.f t212 a1 true).bind fun t223 => (some (t223 == t213))) else (some false)) else (some false)))))))))))) else (some false)))) = some r := H
      have A9 := Aside0.mk A90
      clear A90
      by_cases c10 : t216 = true
      · subst c10
        have H1 : (some false) = some r := by rw [if_pos rfl] at H; exact H
        clear H
        have H := H1
        clear H1
        obtain rfl := Option.some.inj H
        exact absurd HR_.out (by decide)
      · replace c10 := Bool.eq_false_iff.mpr c10
        subst c10
        have H1 : ((desc_Used.f k t213 a1).bind fun t217 => (if t217 = true then ((desc_Avail.f k t213 a1).bind fun t218 => (if t218 = true then (some false) else ((desc_Avail.f k t213 (!a1)).bind fun t219 => (if t219 = true then (some false) else ((desc_Used.f k t212 (!a1)).bind fun t220 => (if t220 = true then (some false) else ((desc_Avail.f k t212 (!a1)).bind fun t221 => (if t221 = true then (some false) else ((desc_Used.f k t213 (!a1)).bind fun t222 => (if t222 = true then (some false) else (if (Go.bits .and .i64 t212 32639) = (Go.bits .and .i64 (Go.bits .and .i64 a0 65535) 32639) then (if (Go.bits .and .i64 t213 32639) = (Go.bits .and .i64 (Go.bits .and .i64 a0 65535) 32639) then ((desc_Mark.f t212 a1 true).bind fun t223 => (some (t223 == t213))) else (some false)) else (some false)))))))))))) else (some false))) = some r := by rw [if_neg (show ¬ (false = true) by decide)] at H; exact H
        clear H
        have H := H1
        clear H1
        replace H := Option.bind_eq_some_iff.mp H
        obtain ⟨t217, A110, H⟩ := H
        replace H : (if t217 = true then ((desc_Avail.f k t213 a1).bind fun t218 => (if t218 = true then (some false) else ((desc_Avail.f k t213 (!a1)).bind fun t219 => (if t219 = true then (some false) else ((desc_Used.f k t212 (!a1)).bind fun t220 => (if t220 = true then (some false) else ((desc_Avail.f k t212 (!a1)).bind fun t221 => (if t221 = true then (some false) else ((desc_Used.f k t213 (!a1)).bind fun t222 => (if t222 = true then (some false) else (if (Go.bits .and .i64 t212 32639) = (Go.bits .and .i64 (Go.bits .and .i64 a0 65535) 32639) then (if (Go.bits .and .i64 t213 32639) = (Go.bits .and .i64 (Go.bits .and .i64 a0 65535) 32639) then ((desc_Mark.f t212 a1 true).bind fun t223 => (some (t223 == t213))) else (some false)) else (some false)))))))))))) else (some false)) = some r := H
        have A11 := Aside0.mk A110
        clear A110
        by_cases c12 : t217 = true
        · subst c12
          have H1 : ((desc_Avail.f k t213 a1).bind fun t218 => (if t218 = true then (some false) else ((desc_Avail.f k t213 (!a1)).bind fun t219 => (if t219 = true then (some false) else ((desc_Used.f k t212 (!a1)).bind fun t220 => (if t220 = true then (some false) else ((desc_Avail.f k t212 (!a1)).bind fun t221 => (if t221 = true then (some false) else ((desc_Used.f k t213 (!a1)).bind fun t222 => (if t222 = true then (some false) else (if (Go.bits .and .i64 t212 32639) = (Go.bits .and .i64 (Go.bits .and .i64 a0 65535) 32639) then (if (Go.bits .and .i64 t213 32639) = (Go.bits .and .i64 (Go.bits .and .i64 a0 65535) 32639) then ((desc_Mark.f t212 a1 true).bind fun t223 => (some (t223 == t213))) else (some false)) else (some false)))))))))))) = some r := by rw [if_pos rfl] at H; exact H
          clear H
          have H := H1
          clear H1
          replace H := Option.bind_eq_some_iff.mp H
          obtain ⟨t218, A130, H⟩ := H
          replace H : (if t218 = true then (some false) else ((desc_Avail.f k t213 (!a1)).bind fun t219 => (if t219 = true then (some false) else ((desc_Used.f k t212 (!a1)).bind fun t220 => (if t220 = true then (some false) else ((desc_Avail.f k t212 (!a1)).bind fun t221 => (if t221 = true then (some false) else ((desc_Used.f k t213 (!a1)).bind fun t222 => (if t222 = true then (some false) else (if (Go.bits .and .i64 t212 32639) = (Go.bits .and .i64 (Go.bits .and .i64 a0 65535) 32639) then (if (Go.bits .and .i64 t213 32639) = (Go.bits .and .i64 (Go.bits .and .i64 a0 65535) 32639) then ((desc_Mark.f t212 a1 true).bind fun t223 => (some (t223 == t213))) else (some false)) else (some false))))))))))) = some r := H
          have A13 := Aside0.mk A130
          clear A130
          by_cases c14 : t218 = true
          · subst c14
            have H1 : (some false) = some r := by rw [if_pos rfl] at H; exact H
            clear H
            have H := H1
            clear H1
            obtain rfl := Option.some.inj H
            exact absurd HR_.out (by decide)
          · replace c14 := Bool.eq_false_iff.mpr c14
            subst c14
            have H1 : ((desc_Avail.f k t213 (!a1)).bind fun t219 => (if t219 = true then (some false) else ((desc_Used.f k t212 (!a1)).bind fun t220 => (if t220 = true then (some false) else ((desc_Avail.f k t212 (!a1)).bind fun t221 => (if t221 = true then (some false) else ((desc_Used.f k t213 (!a1)).bind fun t222 => (if t222 = true then (some false) else (if (Go.bits .and .i64 t212 32639) = (Go.bits .and .i64 (Go.bits .and .i64 a0 65535) 32639) then (if (Go.bits .and .i64 t213 32639) = (Go.bits .and .i64 (Go.bits .and .i64 a0 65535) 32639) then ((desc_Mark.f t212 a1 true).bind fun t223 => (some (t223 == t213))) else (some false)) else (some false)))))))))) = some r := by rw [if_neg (show ¬ (false = true) by decide)] at H; exact H
            clear H
            have H := H1
            clear H1
            replace H := Option.bind_eq_some_iff.mp H
            obtain ⟨t219, A150, H⟩ := H
            replace H : (if t219 = true then (some false) else ((desc_Used.f k t212 (!a1)).bind fun t220 => (if t220 = true then (some false) else ((desc_Avail.f k t212 (!a1)).bind fun t221 => (if t221 = true then (some false) else ((desc_Used.f k t213 (!a1)).bind fun t222 => (if t222 = true then (some false) else (if (Go.bits .and .i64 t212 32639) = (Go.bits .and .i64 (Go.bits .and .i64 a0 65535) 32639) then (if (Go.bits .and .i64 t213 32639) = (Go.bits .and .i64 (Go.bits .and .i64 a0 65535) 32639) then ((desc_Mark.f t212 a1 true).bind fun t223 => (some (t223 == t213))) else (some false)) else (some false))))))))) = some r := H
            have A15 := Aside0.mk A150
            clear A150
            by_cases c16 : t219 = true
            · subst c16
              have H1 : (some false) = some r := by rw [if_pos rfl] at H; exact H
              clear H
              have H := H1
              clear H1
              obtain rfl := Option.some.inj H
              exact absurd HR_.out (by decide)
            · replace c16 := Bool.eq_false_iff.mpr c16
              subst c16
              have H1 : ((desc_Used.f k t212 (!a1)).bind fun t220 => (if t220 = true then (some false) else ((desc_Avail.f k t212 (!a1)).bind fun t221 => (if t221 = true then (some false) else ((desc_Used.f k t213 (!a1)).bind fun t222 => (if t222 = true then (some false) else (if (Go.bits .and .i64 t212 32639) = (Go.bits .and .i64 (Go.bits .and .i64 a0 65535) 32639) then (if (Go.bits .and .i64 t213 32639) = (Go.bits .and .i64 (Go.bits .and .i64 a0 65535) 32639) then ((desc_Mark.f t212 a1 true).bind fun t223 => (some (t223 == t213))) else (some false)) else (some false)))))))) = some r := by rw [if_neg (show ¬ (false = true) by decide)] at H; exact H
              clear H
              have H := H1
              clear H1
              replace H := Option.bind_eq_some_iff.mp H
              obtain ⟨t220, A170, H⟩ := H
              replace H : (if t220 = true then (some false) else ((desc_Avail.f k t212 (!a1)).bind fun t221 => (if t221 = true then (some false) else ((desc_Used.f k t213 (!a1)).bind fun t222 => (if t222 = true then (some false) else (if (Go.bits .and .i64 t212 32639) = (Go.bits .and .i64 (Go.bits .and .i64 a0 65535) 32639) then (if (Go.bits .and .i64 t213 32639) = (Go.bits .and .i64 (Go.bits .and .i64 a0 65535) 32639) then ((desc_Mark.f t212 a1 true).bind fun t223 => (some (t223 == t213))) else (some false)) else (some false))))))) = some r := H
              have A17 := Aside0.mk A170
              clear A170
              by_cases c18 : t220 = true
              · subst c18
                have H1 : (some false) = some r := by rw [if_pos rfl] at H; exact H
                clear H
                have H := H1
                clear H1
                obtain rfl := Option.some.inj H
                exact absurd HR_.out (by decide)
              · replace c18 := Bool.eq_false_iff.mpr c18
                subst c18
                have H1 : ((desc_Avail.f k t212 (!a1)).bind fun t221 => (if t221 = true then (some false) else ((desc_Used.f k t213 (!a1)).bind fun t222 => (if t222 = true then (some false) else (if (Go.bits .and .i64 t212 32639) = (Go.bits .and .i64 (Go.bits .and .i64 a0 65535) 32639) then (if (Go.bits .and .i64 t213 32639) = (Go.bits .and .i64 (Go.bits .and .i64 a0 65535) 32639) then ((desc_Mark.f t212 a1 true).bind fun t223 => (some (t223 == t213))) else (some false)) else (some false)))))) = some r := by rw [if_neg (show ¬ (false = true) by decide)] at H; exact H
                clear H
                have H := H1
                clear H1
                replace H := Option.bind_eq_some_iff.mp H
                obtain ⟨t221, A190, H⟩ := H
                replace H : (if t221 = true then (some false) else ((desc_Used.f k t213 (!a1)).bind fun t222 => (if t222 = true then (some false) else (if (Go.bits .and .i64 t212 32639) = (Go.bits .and .i64 (Go.bits .and .i64 a0 65535) 32639) then (if (Go.bits .and .i64 t213 32639) = (Go.bits .and .i64 (Go.bits .and .i64 a0 65535) 32639) then ((desc_Mark.f t212 a1 true).bind fun t223 => (some (t223 == t213))) else (some false)) else (some false))))) = some r := H
                have A19 := Aside0.mk A190
                clear A190
                by_cases c20 : t221 = true
                · subst c20
                  have H1 : (some false) = some r := by rw [if_pos rfl] at H; exact H
                  clear H
                  have H := H1
                  clear H1
                  obtain rfl := Option.some.inj H
                  exact absurd HR_.out (by decide)
                · replace c20 := Bool.eq_false_iff.mpr c20
                  subst c20
                  have H1 : ((desc_Used.f k t213 (!a1)).bind fun t222 => (if t222 = true then (some false) else (if (Go.bits .and .i64 t212 32639) = (Go.bits .and .i64 (Go.bits .and .i64 a0 65535) 32639) then (if (Go.bits .and .i64 t213 32639) = (Go.bits .and .i64 (Go.bits .and .i64 a0 65535) 32639) then ((desc_Mark.f t212 a1 true).bind fun t223 => (some (t223 == t213))) else (some false)) else (some false)))) = some r := by rw [if_neg (show ¬ (false = true) by decide)] at H; exact H
                  clear H
                  have H := H1
                  clear H1
                  replace H := Option.bind_eq_some_iff.mp H
                  obtain ⟨t222, A210, H⟩ := H
                  replace H : (if t222 = true then (some false) else (if (Go.bits .and .i64 t212 32639) = (Go.bits .and .i64 (Go.bits .and .i64 a0 65535) 32639) then (if (Go.bits .and .i64 t213 32639) = (Go.bits .and .i64 (Go.bits .and .i64 a0 65535) 32639) then ((desc_Mark.f t212 a1 true).bind fun t223 => (some (t223 == t213))) else (some false)) else (some false))) = some r := H
                  have A21 := Aside0.mk A210
                  clear A210
                  by_cases c22 : t222 = true
                  · subst c22
                    have H1 : (some false) = some r := by rw [if_pos rfl] at H; exact H
                    clear H
                    have H := H1
                    clear H1
                    obtain rfl := Option.some.inj H
                    exact absurd HR_.out (by decide)
                  · replace c22 := Bool.eq_false_iff.mpr c22
                    subst c22
                    have H1 : (if (Go.bits .and .i64 t212 32639) = (Go.bits .and .i64 (Go.bits .and .i64 a0 65535) 32639) then (if (Go.bits .and .i64 t213 32639) = (Go.bits .and .i64 (Go.bits .and .i64 a0 65535) 32639) then ((desc_Mark.f t212 a1 true).bind fun t223 => (some (t223 == t213))) else (some false)) else (some false)) = some r := by rw [if_neg (show ¬ (false = true) by decide)] at H; exact H
                    clear H
                    have H := H1
                    clear H1
                    by_cases c23 : (Go.bits .and .i64 t212 32639) = (Go.bits .and .i64 (Go.bits .and .i64 a0 65535) 32639)
                    · rw [if_pos c23] at H
                      have c23b0 : ((Go.bits .and .i64 t212 32639) == (Go.bits .and .i64 (Go.bits .and .i64 a0 65535) 32639)) = true := beq_iff_eq.mpr c23
                      have c23b1 : ((Go.bits .and .i64 t212 32639) != (Go.bits .and .i64 (Go.bits .and .i64 a0 65535) 32639)) = false := bne_eq_false_iff_eq.mpr c23
                      clear c23
                      by_cases c24 : (Go.bits .and .i64 t213 32639) = (Go.bits .and .i64 (Go.bits .and .i64 a0 65535) 32639)
                      · rw [if_pos c24] at H
                        have c24b0 : ((Go.bits .and .i64 t213 32639) == (Go.bits .and .i64 (Go.bits .and .i64 a0 65535) 32639)) = true := beq_iff_eq.mpr c24
                        have c24b1 : ((Go.bits .and .i64 t213 32639) != (Go.bits .and .i64 (Go.bits .and .i64 a0 65535) 32639)) = false := bne_eq_false_iff_eq.mpr c24
                        clear c24
                        replace H := Option.bind_eq_some_iff.mp H
                        obtain ⟨t223, A250, H⟩ := H
                        replace H : (some (t223 == t213)) = some r := H
                        have A25 := Aside0.mk A250
                        clear A250
                        obtain rfl := Option.some.inj H
                        go_enter Try.func6, Try.ntmps6
                        go_wp2_with (first | ((with_reducible refine gate_callee (f := 18) rfl ?_); refine goesL_ (some 13) rfl rfl Try.func18 (by kernel_rfl) rfl #[.int .i64 (Go.bits .and .i64 a0 65535), .bool a1, .bool false] rfl (by (try simp only [List.map_toArray, List.map_cons, List.map_nil]); first | done | rfl | (simp only [List.length_drop, List.length_take]; rfl)) ?_; (with_reducible refine (desc_Mark.calls (Go.bits .and .i64 a0 65535) a1 false t212 _ A3.out).mono ?_); rintro e w' ⟨rfl, ⟨nd, rfl⟩⟩; refine ⟨_, rfl, ?_⟩) | ((with_reducible refine gate_callee (f := 18) rfl ?_); refine goesL_ (some 16) rfl rfl Try.func18 (by kernel_rfl) rfl #[.int .i64 (Go.bits .and .i64 a0 65535), .bool a1, .bool true] rfl (by (try simp only [List.map_toArray, List.map_cons, List.map_nil]); first | done | rfl | (simp only [List.length_drop, List.length_take]; rfl)) ?_; (with_reducible refine (desc_Mark.calls (Go.bits .and .i64 a0 65535) a1 true t213 _ A4.out).mono ?_); rintro e w' ⟨rfl, ⟨nd, rfl⟩⟩; refine ⟨_, rfl, ?_⟩) | (go_at_call 13; (with_reducible refine (aqueductlaw12_fixed.calls k  true _ A5.out).mono ?_); rintro e w26 ⟨rfl, hb⟩; have n0_ := Aside0.mk (below_step (by repeat (first | (with_reducible first | exact HB.out | apply below_alloc | apply pw_below_drewN | apply below_drew1) | exact HB.out)) hb); clear HB; have HB := n0_; clear n0_; (try clear hb); (try clear hb2); (try clear hk); (try clear hi)) | (go_at_call 14; (with_reducible refine (desc_Avail.calls k t212 a1 true _ A7.out).mono ?_); rintro e w' ⟨rfl, ⟨nd, rfl⟩⟩) | (go_at_call 16; (with_reducible refine (desc_Used.calls k t212 a1 false _ A9.out).mono ?_); rintro e w' ⟨rfl, ⟨nd, rfl⟩⟩) | (go_at_call 16; (with_reducible refine (desc_Used.calls k t213 a1 true _ A11.out).mono ?_); rintro e w' ⟨rfl, ⟨nd, rfl⟩⟩) | (go_at_call 14; (with_reducible refine (desc_Avail.calls k t213 a1 false _ A13.out).mono ?_); rintro e w' ⟨rfl, ⟨nd, rfl⟩⟩) | (go_at_call 14; (with_reducible refine (desc_Avail.calls k t213 (!a1) false _ A15.out).mono ?_); rintro e w' ⟨rfl, ⟨nd, rfl⟩⟩) | (go_at_call 16; (with_reducible refine (desc_Used.calls k t212 (!a1) false _ A17.out).mono ?_); rintro e w' ⟨rfl, ⟨nd, rfl⟩⟩) | (go_at_call 14; (with_reducible refine (desc_Avail.calls k t212 (!a1) false _ A19.out).mono ?_); rintro e w' ⟨rfl, ⟨nd, rfl⟩⟩) | (go_at_call 16; (with_reducible refine (desc_Used.calls k t213 (!a1) false _ A21.out).mono ?_); rintro e w' ⟨rfl, ⟨nd, rfl⟩⟩) | (go_at_call 18; (with_reducible refine (desc_Mark.calls t212 a1 true t223 _ A25.out).mono ?_); rintro e w' ⟨rfl, ⟨nd, rfl⟩⟩))
                        go_ret
                        exact ⟨by first | rfl | (simp [errW_none, errW_some] <;> rfl) | (simp [*, errW_none, errW_some] <;> rfl) | (exfalso; simp_all), by repeat (first | (with_reducible first | exact HB.out | apply below_alloc | apply pw_below_drewN | apply below_drew1) | exact HB.out)⟩
                      · rw [if_neg c24] at H
                        have c24b0 : ((Go.bits .and .i64 t213 32639) == (Go.bits .and .i64 (Go.bits .and .i64 a0 65535) 32639)) = false := beq_eq_false_iff_ne.mpr c24
                        have c24b1 : ((Go.bits .and .i64 t213 32639) != (Go.bits .and .i64 (Go.bits .and .i64 a0 65535) 32639)) = true := bne_iff_ne.mpr c24
                        obtain rfl := Option.some.inj H
                        exact absurd HR_.out (by decide)
                    · rw [if_neg c23] at H
                      have c23b0 : ((Go.bits .and .i64 t212 32639) == (Go.bits .and .i64 (Go.bits .and .i64 a0 65535) 32639)) = false := beq_eq_false_iff_ne.mpr c23
                      have c23b1 : ((Go.bits .and .i64 t212 32639) != (Go.bits .and .i64 (Go.bits .and .i64 a0 65535) 32639)) = true := bne_iff_ne.mpr c23
                      obtain rfl := Option.some.inj H
                      exact absurd HR_.out (by decide)
        · replace c12 := Bool.eq_false_iff.mpr c12
          subst c12
          have H1 : (some false) = some r := by rw [if_neg (show ¬ (false = true) by decide)] at H; exact H
          clear H
          have H := H1
          clear H1
          obtain rfl := Option.some.inj H
          exact absurd HR_.out (by decide)
    · replace c8 := Bool.eq_false_iff.mpr c8
      subst c8
      have H1 : (some false) = some r := by rw [if_neg (show ¬ (false = true) by decide)] at H; exact H
      clear H
      have H := H1
      clear H1
      obtain rfl := Option.some.inj H
      exact absurd HR_.out (by decide)
  · replace c6 := Bool.eq_false_iff.mpr c6
    subst c6
    have H1 : (some false) = some r := by rw [if_neg (show ¬ (false = true) by decide)] at H; exact H
    clear H
    have H := H1
    clear H1
    obtain rfl := Option.some.inj H
    exact absurd HR_.out (by decide)

/-- THE ONE PURE STATEMENT of aqueductlaw12_DescRounds: yours. -/
def aqueductlaw12_DescRounds.Pure : Prop := ∀ (a0 : Int) (a1 : Bool), (Lit.int .i64 a0).wf = true → ∃ k, aqueductlaw12_DescRounds.f k a0 a1 = some true
theorem aqueductlaw12_DescRounds.walk (P : aqueductlaw12_DescRounds.Pure) (a0 : Int) (a1 : Bool) (w : World) (w0 : (Lit.int .i64 a0).wf = true) :
    Calls Try.prog 6 #[.int .i64 a0, .bool a1] w fun e w' => e = .returned (.bool true) ∧ Below w.heap.size w w' := by
  obtain ⟨k, h⟩ := P a0 a1 w0
  refine (aqueductlaw12_DescRounds.calls k a0 a1 true w h rfl).mono ?_
  rintro e w' ⟨rfl, hd⟩
  exact ⟨rfl, hd⟩

end Go.Proofs.Ytehaffldjnmblaa.P
