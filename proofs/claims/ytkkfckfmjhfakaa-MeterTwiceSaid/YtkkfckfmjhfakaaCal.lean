/- Floats and the meter: contracts by hand, and the laws over them. -/
import Derived.Test.YtkkfckfmjhfakaaOwn
import Derived.Test.YtkkfckfmjhfakaaKin
namespace Go.Proofs.Ytkkfckfmjhfakaa.Mt
open Go Go.RowKit Go.Proofs.YtkkfckfmjhfakaaW.PrintWords Go.Proofs.YtkkfckfmjhfakaaW.PrintLast Go.Proofs.YtkkfckfmjhfakaaW.PrintMore Go.Proofs.Ytkkfckfmjhfakaa.Mth Go.Proofs.Ytkkfckfmjhfakaa.Own Go.Proofs
set_option linter.unusedVariables false
set_option linter.unusedSimpArgs false
set_option maxHeartbeats 4000000 in
theorem Less_calls (a b : Nat) (w : World) (ha : a < 2 ^ 64) (hb : b < 2 ^ 64) : Calls Try.prog 16 #[.float .f64 a, .float .f64 b] w fun e w' => e = .returned (.bool (lessB a b)) ∧ w' = w := by
  have HA := Aside0.mk ha
  have HB := Aside0.mk hb
  clear ha hb
  go_enter Try.func16, Try.ntmps16
  go_wp2_with fail
  refine (Kind_calls a w HA.out).mono ?_
  rintro e w_ ⟨rfl, hw_⟩
  rw [hw_]
  clear hw_ w_
  go_wp2_with fail
  refine (Kind_calls b w HB.out).mono ?_
  rintro e w_ ⟨rfl, hw_⟩
  rw [hw_]
  clear hw_ w_
  by_cases c1 : kd a < kd b
  · have d1 : decide (kd a < kd b) = true := decide_eq_true c1
    go_wp2
    go_ret
    exact ⟨by unfold lessB; rw [d1]; rfl, rfl⟩
  · have d1 : decide (kd a < kd b) = false := decide_eq_false c1
    by_cases c2 : kd a = kd b
    · have d2 : (kd a == kd b) = true := beq_iff_eq.2 c2
      have C2 := Aside0.mk c2
      clear c2
      go_wp2
      go_ret
      exact ⟨by unfold lessB; rw [d1, decide_eq_true C2.out]; rfl, rfl⟩
    · have d2 : (kd a == kd b) = false := beq_eq_false_iff_ne.2 c2
      go_wp2
      go_ret
      exact ⟨by unfold lessB; rw [d1, decide_eq_false c2]; rfl, rfl⟩
set_option maxHeartbeats 4000000 in
theorem RLess_calls (a b : Nat) (w : World) (ha : a < 2 ^ 64) (hb : b < 2 ^ 64) : Calls Try.prog 17 #[.float .f64 a, .float .f64 b] w fun e w' => e = .returned (.bool (lessB a b)) ∧ Below w.heap.size w w' := by
  have HA := Aside0.mk ha
  have HB := Aside0.mk hb
  clear ha hb
  go_enter Try.func17, Try.ntmps17
  go_wp2_with fail
  refine (RKind_calls a w HA.out).mono ?_
  rintro e w1 ⟨rfl, b1⟩
  have B1 := Aside0.mk b1
  clear b1
  go_wp2_with fail
  refine (RKind_calls b w1 HB.out).mono ?_
  rintro e w2 ⟨rfl, b2⟩
  have B2 := Aside0.mk (below_step B1.out b2)
  clear b2
  by_cases c1 : kd a < kd b
  · have d1 : decide (kd a < kd b) = true := decide_eq_true c1
    go_wp2
    go_ret
    exact ⟨by unfold lessB; rw [d1]; rfl, B2.out⟩
  · have d1 : decide (kd a < kd b) = false := decide_eq_false c1
    go_wp2_with fail
    refine (RKind_calls a w2 HA.out).mono ?_
    rintro e w3 ⟨rfl, b3⟩
    have B3 := Aside0.mk (below_step B2.out b3)
    clear b3
    go_wp2_with fail
    refine (RKind_calls b w3 HB.out).mono ?_
    rintro e w4 ⟨rfl, b4⟩
    have B4 := Aside0.mk (below_step B3.out b4)
    clear b4
    by_cases c2 : kd a = kd b
    · have d2 : (kd a == kd b) = true := beq_iff_eq.2 c2
      have C2 := Aside0.mk c2
      clear c2
      go_wp2
      go_ret
      exact ⟨by unfold lessB; rw [d1, decide_eq_true C2.out]; rfl, B4.out⟩
    · have d2 : (kd a == kd b) = false := beq_eq_false_iff_ne.2 c2
      go_wp2
      go_ret
      exact ⟨by unfold lessB; rw [d1, decide_eq_false c2]; rfl, B4.out⟩
set_option maxHeartbeats 4000000 in
theorem Same_calls (a b : Nat) (w : World) (ha : a < 2 ^ 64) (hb : b < 2 ^ 64) : Calls Try.prog 11 #[.float .f64 a, .float .f64 b] w fun e w' => e = .returned (.bool (sameB a b)) ∧ Below w.heap.size w w' := by
  have HA := Aside0.mk ha
  have HB := Aside0.mk hb
  clear ha hb
  go_enter Try.func11, Try.ntmps11
  go_wp2_with fail
  refine (RKind_calls a w HA.out).mono ?_
  rintro e w1 ⟨rfl, b1⟩
  have B1 := Aside0.mk b1
  clear b1
  go_wp2_with fail
  refine (RKind_calls b w1 HB.out).mono ?_
  rintro e w2 ⟨rfl, b2⟩
  have B2 := Aside0.mk (below_step B1.out b2)
  clear b2
  by_cases c2 : kd a = kd b
  · have d2 : (kd a == kd b) = true := beq_iff_eq.2 c2
    have C2 := Aside0.mk c2
    clear c2
    cases h : (FloatKind.f64.format.order a b == some .eq) with
    | true =>
      go_wp2
      go_ret
      exact ⟨by unfold sameB; rw [decide_eq_true C2.out, show (ord a b == some .eq) = true from h]; rfl, B2.out⟩
    | false =>
      go_wp2
      go_ret
      exact ⟨by unfold sameB; rw [decide_eq_true C2.out, show (ord a b == some .eq) = false from h]; rfl, B2.out⟩
  · have d2 : (kd a == kd b) = false := beq_eq_false_iff_ne.2 c2
    go_wp2
    go_ret
    exact ⟨by unfold sameB; rw [decide_eq_false c2]; rfl, B2.out⟩
/-- a rate. -/
def RateP (n t : Int) (r : Nat) : Prop := Res .quo (floatOfInt .f64 n) (floatOfInt .f64 t) r
theorem Rate_calls (n t : Int) (w : World) : Calls Try.prog 12 #[.int .i64 n, .int .i64 t] w fun e w' => ∃ r, e = .returned (.float .f64 r) ∧ RateP n t r ∧ Below w.heap.size w w' := by
  obtain ⟨r, w1, hrun, hres, hb⟩ := run_fl .quo (.inr (.inr rfl)) 22 (floatOfInt .f64 n) (floatOfInt .f64 t) w
  have HB := Aside0.mk hb
  have HR := Aside0.mk hres
  clear hb hres
  go_enter Try.func12, Try.ntmps12
  go_wp2
  go_ret
  exact ⟨r, rfl, HR.out, HB.out⟩
end Go.Proofs.Ytkkfckfmjhfakaa.Mt
