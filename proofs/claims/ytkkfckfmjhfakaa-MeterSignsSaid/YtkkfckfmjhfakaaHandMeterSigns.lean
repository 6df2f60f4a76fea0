/- Floats and the meter: contracts by hand, and the laws over them. -/
import Derived.Test.YtkkfckfmjhfakaaOwn
import Derived.Test.YtkkfckfmjhfakaaFx
import Derived.Test.YtkkfckfmjhfakaaWri
namespace Go.Proofs.Ytkkfckfmjhfakaa.Hand
open Go Go.RowKit Go.Proofs.YtkkfckfmjhfakaaW.PrintWords Go.Proofs.YtkkfckfmjhfakaaW.PrintLast Go.Proofs.YtkkfckfmjhfakaaW.PrintMore Go.Proofs.Ytkkfckfmjhfakaa.Mth Go.Proofs.Ytkkfckfmjhfakaa.Own Go.Proofs Go.Proofs.Ytkkfckfmjhfakaa.Mt
set_option linter.unusedVariables false
set_option linter.unusedSimpArgs false
theorem int_bd {n : Int} (h : (Lit.int .i64 n).wf = true) : -(2 ^ 63) ≤ n ∧ n ≤ 2 ^ 63 := by
  simp only [Lit.wf, Bool.and_eq_true, decide_eq_true_eq] at h
  have a : IntKind.i64.min = -(2 ^ 63) := by decide
  have b : IntKind.i64.max = 2 ^ 63 - 1 := by decide
  rw [a, b] at h
  omega
theorem eq_self {r : Nat} (h : kd r ≠ 6) : (FloatKind.f64.format.order r r == some .eq) = true := by
  have q := ord_self r
  rw [kd_nan, decide_eq_false h] at q
  have e : (ord r r != some .eq) = !(ord r r == some .eq) := rfl
  rw [e] at q
  have q2 : (ord r r == some .eq) = true := by
    cases h2 : (ord r r == some .eq) with
    | true => rfl
    | false => rw [h2] at q; cases q
  exact q2
/-- What a rate is, by the signs of its parts. -/
theorem rate_none {r : Nat} (h : RateP 0 0 r) : kd r = 6 := nan_kd (res_none h none_bits)
theorem rate_inf {n : Int} {r : Nat} (hn : n ≠ 0) (h1 : -(2 ^ 63) ≤ n) (h2 : n ≤ 2 ^ 63) (h : RateP n 0 r) : kd r = if n < 0 then 0 else 5 := by
  obtain ⟨M, i, e, m1, m2, _⟩ := foi_read hn h1 h2
  obtain ⟨q, eq, hq⟩ := quo_inf (y := floatOfInt .f64 0) e (by omega) (by rw [foi_zero]; exact rd0)
  rw [res_some h eq, hq]
  by_cases s : n < 0
  · rw [if_pos (decide_eq_true s), if_pos s]
  · rw [if_neg (by rw [decide_eq_false s]; decide), if_neg s]
theorem rate_nil {t : Int} {r : Nat} (ht : t ≠ 0) (h1 : -(2 ^ 63) ≤ t) (h2 : t ≤ 2 ^ 63) (h : RateP 0 t r) : r = if t < 0 then 2 ^ 63 else 0 := by
  obtain ⟨M, i, e, m1, m2, _⟩ := foi_read ht h1 h2
  have q := quo_nil (x := floatOfInt .f64 0) (by rw [foi_zero]; exact rd0) e (by omega)
  rw [res_some h q]
  by_cases s : t < 0
  · rw [decide_eq_true s, if_pos (show (false ^^ true) = true from rfl), if_pos s]
  · rw [decide_eq_false s, if_neg (show ¬ (false ^^ false) = true by decide), if_neg s]
theorem rate_mid {n t : Int} {r : Nat} (hn : n ≠ 0) (a1 : -(2 ^ 63) ≤ n) (a2 : n ≤ 2 ^ 63) (ht : t ≠ 0) (b1 : -(2 ^ 63) ≤ t) (b2 : t ≤ 2 ^ 63) (h : RateP n t r) : kd r = if (decide (n < 0) ^^ decide (t < 0)) then 1 else 4 := by
  obtain ⟨M, i, e, m1, m2, i1, i2⟩ := foi_read hn a1 a2
  obtain ⟨K, j, f, k1, k2, j1, j2⟩ := foi_read ht b1 b2
  obtain ⟨q, eq, hq⟩ := quo_mid e f m1 m2 k1 k2 i1 i2 j1 j2
  rw [res_some h eq, hq]
theorem rate_one {n : Int} {r : Nat} (hn : n ≠ 0) (a1 : -(2 ^ 63) ≤ n) (a2 : n ≤ 2 ^ 63) (h : RateP n 1 r) : r = floatOfInt .f64 n ∧ (FloatKind.f64.format.order r (floatOfInt .f64 n) == some .eq) = true := by
  obtain ⟨M, i, e, m1, m2, i1, i2⟩ := foi_read hn a1 a2
  have lt : floatOfInt .f64 n < 2 ^ 64 := by have := floatOfInt_wf .f64 n; simpa [Lit.wf] using this
  have q := quo_one e lt (by omega)
  have r1 : r = floatOfInt .f64 n := by unfold RateP at h; rw [foi_one] at h; exact res_some h q
  refine ⟨r1, ?_⟩
  rw [r1]
  refine eq_self ?_
  unfold kd
  rw [e]
  show (if M = 0 then (if decide (n < 0) = true then (2 : Int) else 3) else if decide (n < 0) = true then 1 else 4) ≠ 6
  split <;> split <;> decide
set_option maxHeartbeats 8000000 in
theorem MeterSigns (n t : Int) (w : World) (wn : (Lit.int .i64 n).wf = true) (wt : (Lit.int .i64 t).wf = true) : Calls Try.prog 8 #[.int .i64 n, .int .i64 t] w fun e w' => e = .returned (.bool true) ∧ Below w.heap.size w w' := by
  have bn := int_bd wn
  have bt := int_bd wt
  clear wn wt
  by_cases ht : t = 0
  · by_cases hn : n = 0
    · subst ht hn
      clear bn bt
      go_enter Try.func8, Try.ntmps8
      go_wp2_with fail
      refine (Rate_calls 0 0 w).mono ?_
      rintro e w1 ⟨r, rfl, hr, b1⟩
      have B1 := Aside0.mk b1
      have K := Aside0.mk (rate_none hr)
      have L := Aside0.mk hr.1
      clear b1 hr
      go_wp2_with fail
      refine (Kind_calls r w1 L.out).mono ?_
      rintro e w_ ⟨rfl, hw_⟩
      rw [hw_]
      clear hw_ w_
      rw [K.out]
      go_wp2_with fail
      refine (fixed_calls w1).mono ?_
      rintro e w2 ⟨rfl, b2⟩
      have B2 := Aside0.mk (below_step B1.out b2)
      clear b2
      go_wp2
      go_ret
      exact ⟨rfl, B2.out⟩
    · subst ht
      have KK : ∀ r, RateP n 0 r → kd r = if n < 0 then 0 else 5 := fun r h => rate_inf hn bn.1 bn.2 h
      have KA := Aside0.mk KK
      have e1 : (n == 0) = false := beq_eq_false_iff_ne.2 hn
      clear KK bn bt
      by_cases s : n < 0
      · have S := Aside0.mk s
        have d1 : decide (n < 0) = true := decide_eq_true s
        have d2 : decide (0 < n) = false := decide_eq_false (by omega)
        clear s
        go_enter Try.func8, Try.ntmps8
        go_wp2_with fail
        refine (Rate_calls n 0 w).mono ?_
        rintro e w1 ⟨r, rfl, hr, b1⟩
        have B1 := Aside0.mk b1
        have K : Aside0 (kd r = 0) := ⟨by rw [KA.out r hr, if_pos (by have := S.out; omega)]⟩
        have L := Aside0.mk hr.1
        clear b1 hr
        go_wp2_with fail
        refine (Kind_calls r w1 L.out).mono ?_
        rintro e w_ ⟨rfl, hw_⟩
        rw [hw_]
        clear hw_ w_
        rw [K.out]
        go_wp2_with fail
        refine (fixed_calls w1).mono ?_
        rintro e w2 ⟨rfl, b2⟩
        have B2 := Aside0.mk (below_step B1.out b2)
        clear b2
        go_wp2
        go_ret
        exact ⟨rfl, B2.out⟩
      · have S := Aside0.mk s
        have d1 : decide (n < 0) = false := decide_eq_false s
        have d2 : decide (0 < n) = true := decide_eq_true (by omega)
        clear s
        go_enter Try.func8, Try.ntmps8
        go_wp2_with fail
        refine (Rate_calls n 0 w).mono ?_
        rintro e w1 ⟨r, rfl, hr, b1⟩
        have B1 := Aside0.mk b1
        have K : Aside0 (kd r = 5) := ⟨by rw [KA.out r hr, if_neg (by have := S.out; omega)]⟩
        have L := Aside0.mk hr.1
        clear b1 hr
        go_wp2_with fail
        refine (Kind_calls r w1 L.out).mono ?_
        rintro e w_ ⟨rfl, hw_⟩
        rw [hw_]
        clear hw_ w_
        rw [K.out]
        go_wp2_with fail
        refine (fixed_calls w1).mono ?_
        rintro e w2 ⟨rfl, b2⟩
        have B2 := Aside0.mk (below_step B1.out b2)
        clear b2
        go_wp2
        go_ret
        exact ⟨rfl, B2.out⟩
  · have e2 : (t == 0) = false := beq_eq_false_iff_ne.2 ht
    by_cases hn : n = 0
    · subst hn
      have KK : ∀ r, RateP 0 t r → r = if t < 0 then 2 ^ 63 else 0 := fun r h => rate_nil ht bt.1 bt.2 h
      have KA := Aside0.mk KK
      clear KK bn bt
      by_cases s : t < 0
      · have S := Aside0.mk s
        have d2 : decide (0 < t) = false := decide_eq_false (by omega)
        clear s
        have o : (FloatKind.f64.format.order 9223372036854775808 0 == some .eq) = true := by decide +kernel
        go_enter Try.func8, Try.ntmps8
        go_wp2_with fail
        refine (Rate_calls 0 t w).mono ?_
        rintro e w1 ⟨r, rfl, hr, b1⟩
        have B1 := Aside0.mk b1
        have q : r = 9223372036854775808 := by rw [KA.out r hr, if_pos (by have := S.out; omega)]
        subst q
        clear b1 hr
        go_wp2_with fail
        refine (Kind_calls 9223372036854775808 w1 (by decide)).mono ?_
        rintro e w_ ⟨rfl, hw_⟩
        rw [hw_]
        clear hw_ w_
        rw [show kd 9223372036854775808 = 2 from kd_back]
        go_wp2_with fail
        refine (fixed_calls w1).mono ?_
        rintro e w2 ⟨rfl, b2⟩
        have B2 := Aside0.mk (below_step B1.out b2)
        clear b2
        go_wp2
        go_ret
        exact ⟨rfl, B2.out⟩
      · have S := Aside0.mk s
        have d2 : decide (0 < t) = true := decide_eq_true (by omega)
        clear s
        have o := oNil
        go_enter Try.func8, Try.ntmps8
        go_wp2_with fail
        refine (Rate_calls 0 t w).mono ?_
        rintro e w1 ⟨r, rfl, hr, b1⟩
        have B1 := Aside0.mk b1
        have q : r = 0 := by rw [KA.out r hr, if_neg (by have := S.out; omega)]
        subst q
        clear b1 hr
        go_wp2_with fail
        refine (Kind_calls 0 w1 (by decide)).mono ?_
        rintro e w_ ⟨rfl, hw_⟩
        rw [hw_]
        clear hw_ w_
        rw [show kd 0 = 3 from kd_nil]
        go_wp2_with fail
        refine (fixed_calls w1).mono ?_
        rintro e w2 ⟨rfl, b2⟩
        have B2 := Aside0.mk (below_step B1.out b2)
        clear b2
        go_wp2
        go_ret
        exact ⟨rfl, B2.out⟩
    · have e1 : (n == 0) = false := beq_eq_false_iff_ne.2 hn
      have KK : ∀ r, RateP n t r → kd r = if (decide (n < 0) ^^ decide (t < 0)) then 1 else 4 := fun r h => rate_mid hn bn.1 bn.2 ht bt.1 bt.2 h
      have KA := Aside0.mk KK
      have RO := Aside0.mk (fun r (h : RateP n 1 r) => rate_one hn bn.1 bn.2 h)
      have HN := Aside0.mk hn
      have HT := Aside0.mk ht
      clear KK bn bt hn ht
      cases s1 : decide (n < 0) <;> cases s2 : decide (t < 0)
      all_goals
        have S1 := Aside0.mk s1
        have S2 := Aside0.mk s2
        rw [s1, s2] at KA
        have d1 : decide (0 < n) = !(decide (n < 0)) := by have := HN.out; by_cases q : n < 0 <;> simp [q] <;> omega
        have d2 : decide (0 < t) = !(decide (t < 0)) := by have := HT.out; by_cases q : t < 0 <;> simp [q] <;> omega
        rw [s1] at d1
        rw [s2] at d2
        clear s1 s2
        try dsimp only [Bool.not_true, Bool.not_false] at d1 d2
        go_enter Try.func8, Try.ntmps8
        go_wp2_with fail
        refine (Rate_calls n t w).mono ?_
        rintro e w1 ⟨r, rfl, hr, b1⟩
        have B1 := Aside0.mk b1
        have K := Aside0.mk (KA.out r hr)
        have L := Aside0.mk hr.1
        clear b1 hr
        go_wp2_with fail
        refine (Kind_calls r w1 L.out).mono ?_
        rintro e w_ ⟨rfl, hw_⟩
        rw [hw_]
        clear hw_ w_
        rw [K.out]
        first | rw [show (if (false ^^ false) = true then (1 : Int) else 4) = 4 from rfl] | rw [show (if (false ^^ true) = true then (1 : Int) else 4) = 1 from rfl] | rw [show (if (true ^^ false) = true then (1 : Int) else 4) = 1 from rfl] | rw [show (if (true ^^ true) = true then (1 : Int) else 4) = 4 from rfl]
        go_wp2_with fail
        refine (Rate_calls n 1 w1).mono ?_
        rintro e w2 ⟨r2, rfl, hr2, b2⟩
        have B2 := Aside0.mk (below_step B1.out b2)
        obtain ⟨-, o⟩ := RO.out r2 hr2
        clear b2 hr2
        go_wp2_with fail
        refine (fixed_calls w2).mono ?_
        rintro e w3 ⟨rfl, b3⟩
        have B3 := Aside0.mk (below_step B2.out b3)
        clear b3
        go_wp2
        go_ret
        exact ⟨rfl, B3.out⟩
end Go.Proofs.Ytkkfckfmjhfakaa.Hand
