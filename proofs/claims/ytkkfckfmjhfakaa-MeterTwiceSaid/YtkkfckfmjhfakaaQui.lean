/- Floats and the meter: contracts by hand, and the laws over them. -/
import Derived.Test.YtkkfckfmjhfakaaOwn
import Derived.Test.YtkkfckfmjhfakaaCal
namespace Go.Proofs.Ytkkfckfmjhfakaa.Mt
open Go Go.RowKit Go.Proofs.YtkkfckfmjhfakaaW.PrintWords Go.Proofs.YtkkfckfmjhfakaaW.PrintLast Go.Proofs.YtkkfckfmjhfakaaW.PrintMore Go.Proofs.Ytkkfckfmjhfakaa.Mth Go.Proofs.Ytkkfckfmjhfakaa.Own Go.Proofs
set_option linter.unusedVariables false
set_option linter.unusedSimpArgs false
/-! ### What only draws -/
open Ieee (Datum signed)
def Dr (w w' : World) : Prop := ∃ n, w' = w.drewN n
theorem Dr.refl (w : World) : Dr w w := ⟨0, rfl⟩
theorem Dr.trans {a b c : World} (h : Dr a b) (k : Dr b c) : Dr a c := by
  obtain ⟨n, rfl⟩ := h
  obtain ⟨m, rfl⟩ := k
  exact ⟨n + m, by rw [World.drewN_drewN]⟩
theorem Dr.one (w : World) : Dr w w.drew := ⟨1, rfl⟩
theorem run_fl_q (op : BinOp) (hop : op = .add ∨ op = .sub ∨ op = .quo) (t : TypeId) (x y : Nat) (w : World) :
    ∃ r w', (binOp op t (.float .f64 x) (.float .f64 y)).run Try.prog w = .ok (.float .f64 r) w' ∧ Res op x y r ∧ Dr w w' := by
  cases h : floatBits op .f64 x y with
  | some r =>
    refine ⟨r, w, run_float_arith w op t .f64 x y r h, ⟨?_, by rw [h]⟩, Dr.refl _⟩
    have := floatBits_wf h
    simpa [Lit.wf] using this
  | none =>
    refine ⟨_, w.drew, ?_, ⟨(nan_read (w.tape w.drawn (.nanBits .f64 x y))).1, by rw [h]; exact (nan_read (w.tape w.drawn (.nanBits .f64 x y))).2⟩, Dr.one _⟩
    rcases hop with rfl | rfl | rfl
    all_goals
      have h' := h
      unfold floatBits at h'
      simp only at h'
      simp [binOp, Op.floatArith, h', Question.forced, Question.cut]
theorem finite_calls_q (b : Nat) (w : World) : Calls Try.prog 27 #[.float .f64 b] w fun e w' => e = .returned (.bool (decide (1 ≤ kd b ∧ kd b ≤ 4))) ∧ Dr w w' := by
  obtain ⟨r, w1, hrun, hres, hb⟩ := run_fl_q .sub (.inr (.inl rfl)) 22 b b w
  have HB := Aside0.mk hb
  have e : (FloatKind.f64.format.order r 0 == some .eq) = decide (1 ≤ kd b ∧ kd b ≤ 4) := by
    by_cases q : 1 ≤ kd b ∧ kd b ≤ 4
    · have : r = 0 := res_some hres (by rw [sub_self, if_pos q])
      rw [this, decide_eq_true q]; decide
    · have := nan_ord 0 (res_none hres (by rw [sub_self, if_neg q]))
      rw [decide_eq_false q, show FloatKind.f64.format.order r 0 = ord r 0 from rfl, this]; rfl
  have HE := Aside0.mk e
  clear hb hres e
  go_enter Try.func27, Try.ntmps27
  go_wp2
  go_ret
  exact ⟨by rw [← HE.out]; rfl, HB.out⟩
set_option maxHeartbeats 4000000 in
theorem RKind_calls_q (b : Nat) (w : World) (hb : b < 2 ^ 64) : Calls Try.prog 14 #[.float .f64 b] w fun e w' => e = .returned (.int .i64 (kd b)) ∧ Dr w w' := by
  have KR := Aside0.mk (kd_range b)
  have h0 := ord_self b
  rw [kd_nan] at h0
  have h1 := ord_lt0 b
  have h4 := ord_gt0 b
  have HD := Aside0.mk (@one_div b)
  obtain ⟨k, hk⟩ : ∃ k, kd b = k := ⟨_, rfl⟩
  rw [hk] at KR h0 h1 h4 HD
  have HK := Aside0.mk hk
  clear hk hb
  by_cases c6 : k = 6
  · have g0 : (FloatKind.f64.format.order b b != some .eq) = true := by rw [show FloatKind.f64.format.order b b = ord b b from rfl, h0]; exact decide_eq_true c6
    clear h0 h1 h4
    go_enter Try.func14, Try.ntmps14
    go_wp2
    go_ret
    exact ⟨by rw [HK.out, c6]; rfl, Dr.refl _⟩
  · have g0 : (FloatKind.f64.format.order b b != some .eq) = false := by rw [show FloatKind.f64.format.order b b = ord b b from rfl, h0]; exact decide_eq_false c6
    have kr := KR.out
    have H1 := Aside0.mk h1
    have H4 := Aside0.mk h4
    clear h0 h1 h4
    go_enter Try.func14, Try.ntmps14
    go_wp2_with fail
    refine (finite_calls_q b w).mono ?_
    rintro e w1 ⟨rfl, b1⟩
    rw [HK.out]
    have B1 := Aside0.mk b1
    clear b1
    by_cases cf : 1 ≤ k ∧ k ≤ 4
    · have df : decide (1 ≤ k ∧ k ≤ 4) = true := decide_eq_true cf
      by_cases c1 : k = 1
      · have h1' : (FloatKind.f64.format.order b 0 == some .lt) = true := by rw [show FloatKind.f64.format.order b 0 = ord b 0 from rfl, H1.out]; exact decide_eq_true (.inr c1)
        rw [df]
        clear df cf
        go_wp2
        go_ret
        exact ⟨by rw [HK.out, c1]; rfl, B1.out⟩
      · have h1' : (FloatKind.f64.format.order b 0 == some .lt) = false := by rw [show FloatKind.f64.format.order b 0 = ord b 0 from rfl, H1.out]; exact decide_eq_false (by omega)
        by_cases c4 : k = 4
        · have h4' : (FloatKind.f64.format.order b 0 == some .gt) = true := by rw [show FloatKind.f64.format.order b 0 = ord b 0 from rfl, H4.out]; exact decide_eq_true (.inl c4)
          rw [df]
          clear df cf
          go_wp2
          go_ret
          exact ⟨by rw [HK.out, c4]; rfl, B1.out⟩
        · have h4' : (FloatKind.f64.format.order b 0 == some .gt) = false := by rw [show FloatKind.f64.format.order b 0 = ord b 0 from rfl, H4.out]; exact decide_eq_false (by omega)
          have c23 : k = 2 ∨ k = 3 := by omega
          have hd := HD.out c23
          have hq := run_float_arith (P := Try.prog) w1 .quo 22 .f64 _ _ _ hd
          rw [df]
          clear df cf hd
          rcases c23 with c2 | c3
          · rw [if_pos c2] at hq
            have o : (FloatKind.f64.format.order 18442240474082181120 0 == some .lt) = true := by decide
            go_wp2
            go_ret
            exact ⟨by rw [HK.out, c2]; rfl, B1.out⟩
          · rw [if_neg (by omega)] at hq
            have o : (FloatKind.f64.format.order 9218868437227405312 0 == some .lt) = false := by decide
            go_wp2
            go_ret
            exact ⟨by rw [HK.out, c3]; rfl, B1.out⟩
    · have df : decide (1 ≤ k ∧ k ≤ 4) = false := decide_eq_false cf
      rw [df]
      by_cases c0 : k = 0
      · have h1' : (FloatKind.f64.format.order b 0 == some .lt) = true := by rw [show FloatKind.f64.format.order b 0 = ord b 0 from rfl, H1.out]; exact decide_eq_true (.inl c0)
        clear df cf
        go_wp2
        go_ret
        exact ⟨by rw [HK.out, c0]; rfl, B1.out⟩
      · have h1' : (FloatKind.f64.format.order b 0 == some .lt) = false := by rw [show FloatKind.f64.format.order b 0 = ord b 0 from rfl, H1.out]; exact decide_eq_false (by omega)
        have c5 : k = 5 := by omega
        clear df cf
        go_wp2
        go_ret
        exact ⟨by rw [HK.out, c5]; rfl, B1.out⟩
set_option maxHeartbeats 4000000 in
theorem RLess_calls_q (a b : Nat) (w : World) (ha : a < 2 ^ 64) (hb : b < 2 ^ 64) : Calls Try.prog 17 #[.float .f64 a, .float .f64 b] w fun e w' => e = .returned (.bool (lessB a b)) ∧ Dr w w' := by
  have HA := Aside0.mk ha
  have HB := Aside0.mk hb
  clear ha hb
  go_enter Try.func17, Try.ntmps17
  go_wp2_with fail
  refine (RKind_calls_q a w HA.out).mono ?_
  rintro e w1 ⟨rfl, b1⟩
  have B1 := Aside0.mk b1
  clear b1
  go_wp2_with fail
  refine (RKind_calls_q b w1 HB.out).mono ?_
  rintro e w2 ⟨rfl, b2⟩
  have B2 := Aside0.mk (Dr.trans B1.out b2)
  clear b2
  by_cases c1 : kd a < kd b
  · have d1 : decide (kd a < kd b) = true := decide_eq_true c1
    go_wp2
    go_ret
    exact ⟨by unfold lessB; rw [d1]; rfl, B2.out⟩
  · have d1 : decide (kd a < kd b) = false := decide_eq_false c1
    go_wp2_with fail
    refine (RKind_calls_q a w2 HA.out).mono ?_
    rintro e w3 ⟨rfl, b3⟩
    have B3 := Aside0.mk (Dr.trans B2.out b3)
    clear b3
    go_wp2_with fail
    refine (RKind_calls_q b w3 HB.out).mono ?_
    rintro e w4 ⟨rfl, b4⟩
    have B4 := Aside0.mk (Dr.trans B3.out b4)
    clear b4
    by_cases c2 : kd a = kd b
    · have d2 : (kd a == kd b) = true := beq_iff_eq.2 c2
      have C2 := Aside0.mk c2
      clear c2
      go_wp2
      go_ret
      exact ⟨by unfold lessB; rw [d1, decide_eq_true C2.out]; rfl, B4.out⟩
    · have d2 : (kd a == kd b) = false := beq_eq_false_iff_ne.2 c2
      go_wp2
      go_ret
      exact ⟨by unfold lessB; rw [d1, decide_eq_false c2]; rfl, B4.out⟩
set_option maxHeartbeats 4000000 in
theorem Same_calls_q (a b : Nat) (w : World) (ha : a < 2 ^ 64) (hb : b < 2 ^ 64) : Calls Try.prog 11 #[.float .f64 a, .float .f64 b] w fun e w' => e = .returned (.bool (sameB a b)) ∧ Dr w w' := by
  have HA := Aside0.mk ha
  have HB := Aside0.mk hb
  clear ha hb
  go_enter Try.func11, Try.ntmps11
  go_wp2_with fail
  refine (RKind_calls_q a w HA.out).mono ?_
  rintro e w1 ⟨rfl, b1⟩
  have B1 := Aside0.mk b1
  clear b1
  go_wp2_with fail
  refine (RKind_calls_q b w1 HB.out).mono ?_
  rintro e w2 ⟨rfl, b2⟩
  have B2 := Aside0.mk (Dr.trans B1.out b2)
  clear b2
  by_cases c2 : kd a = kd b
  · have d2 : (kd a == kd b) = true := beq_iff_eq.2 c2
    have C2 := Aside0.mk c2
    clear c2
    cases h : (FloatKind.f64.format.order a b == some .eq) with
    | true =>
      go_wp2
      go_ret
      exact ⟨by unfold sameB; rw [decide_eq_true C2.out, show (ord a b == some .eq) = true from h]; rfl, B2.out⟩
    | false =>
      go_wp2
      go_ret
      exact ⟨by unfold sameB; rw [decide_eq_true C2.out, show (ord a b == some .eq) = false from h]; rfl, B2.out⟩
  · have d2 : (kd a == kd b) = false := beq_eq_false_iff_ne.2 c2
    go_wp2
    go_ret
    exact ⟨by unfold sameB; rw [decide_eq_false c2]; rfl, B2.out⟩
end Go.Proofs.Ytkkfckfmjhfakaa.Mt
