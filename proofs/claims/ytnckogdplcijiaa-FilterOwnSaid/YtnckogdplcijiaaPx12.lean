/- What functions of the program compute, each with the walk that shows it: by a program (a turned copy of the kit's print; wip/myprint.py). -/
import Derived.Test.YtnckogdplcijiaaPx0
namespace Go.Proofs.Ytnckogdplcijiaa.P
open Go.RowKit Go.Proofs.YtnckogdplcijiaaW.PrintWords Go.Proofs.YtnckogdplcijiaaW.PrintLast Go.Proofs.YtnckogdplcijiaaW.PrintMore
attribute [local go_sem] max2_int min2_int max_two min_two max_three min_three max_four min_four   -- for this text's walks alone
set_option linter.unusedVariables false
set_option linter.unusedSimpArgs false

/-! ### aqueductref06_kind: function 49 -/
def aqueductref06_kind.f (a0 : Int) : Option (Bool) := if a0 ≥ 1536 then (if a0 ≤ 65535 then (some (a0 != 33024)) else (some false)) else (some false)
set_option maxHeartbeats 8000000 in
set_option maxRecDepth 100000 in
theorem aqueductref06_kind.calls (a0 : Int) (r : Bool) (w : World) (h : aqueductref06_kind.f a0 = some r) :
    Calls Try.prog 49 #[.int .i64 a0] w fun e w' => e = .returned (.bool r) ∧ Drawn0 w w' := by
  have H : (if a0 ≥ 1536 then (if a0 ≤ 65535 then (some (a0 != 33024)) else (some false)) else (some false)) = some r := h
  clear h
  by_cases c2 : a0 ≥ 1536
  · rw [if_pos c2] at H
    have c2b0 : decide (1536 ≤ a0) = true := decide_eq_true c2
    clear c2
    by_cases c3 : a0 ≤ 65535
    · rw [if_pos c3] at H
      have c3b0 : decide (a0 ≤ 65535) = true := decide_eq_true c3
      clear c3
      obtain rfl := Option.some.inj H
      go_enter Try.func49, Try.ntmps49
      go_wp2
      go_ret
      exact ⟨by first | rfl | (simp; done) | (simp [*]; done), by repeat (first | exact Drawn0.refl _ | apply Drawn0.step)⟩
    · rw [if_neg c3] at H
      have c3b0 : decide (a0 ≤ 65535) = false := decide_eq_false c3
      clear c3
      obtain rfl := Option.some.inj H
      go_enter Try.func49, Try.ntmps49
      go_wp2
      go_ret
      exact ⟨by first | rfl | (simp; done) | (simp [*]; done), by repeat (first | exact Drawn0.refl _ | apply Drawn0.step)⟩
  · rw [if_neg c2] at H
    have c2b0 : decide (1536 ≤ a0) = false := decide_eq_false c2
    clear c2
    obtain rfl := Option.some.inj H
    go_enter Try.func49, Try.ntmps49
    go_wp2
    go_ret
    exact ⟨by first | rfl | (simp; done) | (simp [*]; done), by repeat (first | exact Drawn0.refl _ | apply Drawn0.step)⟩

end Go.Proofs.Ytnckogdplcijiaa.P
