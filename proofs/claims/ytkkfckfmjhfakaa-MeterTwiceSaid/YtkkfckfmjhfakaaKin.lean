/- Floats and the meter: contracts by hand, and the laws over them. -/
import Derived.Test.YtkkfckfmjhfakaaOwn
import Derived.Test.YtkkfckfmjhfakaaFlo
namespace Go.Proofs.Ytkkfckfmjhfakaa.Mt
open Go Go.RowKit Go.Proofs.YtkkfckfmjhfakaaW.PrintWords Go.Proofs.YtkkfckfmjhfakaaW.PrintLast Go.Proofs.YtkkfckfmjhfakaaW.PrintMore Go.Proofs.Ytkkfckfmjhfakaa.Mth Go.Proofs.Ytkkfckfmjhfakaa.Own Go.Proofs
set_option linter.unusedVariables false
set_option linter.unusedSimpArgs false
open Ieee (Datum signed)
/-! ### The functions of the kinds -/
theorem IsNaN_calls (b : Nat) (w : World) : Calls Try.prog 24 #[.float .f64 b] w fun e w' => e = .returned (.bool (decide (kd b = 6))) ∧ w' = w := by
  have h := ord_self b
  go_enter Try.func24, Try.ntmps24
  go_wp2
  go_ret
  exact ⟨by rw [← kd_nan, ← h]; rfl, rfl⟩
theorem IsInf_up (b : Nat) (w : World) : Calls Try.prog 25 #[.float .f64 b, .int .i64 1] w fun e w' => e = .returned (.bool (decide (kd b = 5))) ∧ w' = w := by
  have h := ord_max b
  go_enter Try.func25, Try.ntmps25
  go_wp2
  go_ret
  exact ⟨by rw [← h]; rfl, rfl⟩
theorem IsInf_down (b : Nat) (w : World) (hb : b < 2 ^ 64) : Calls Try.prog 25 #[.float .f64 b, .int .i64 (-1)] w fun e w' => e = .returned (.bool (decide (kd b = 0))) ∧ w' = w := by
  have h := ord_max (b ^^^ 2 ^ 63)
  have hn := neg_run b
  go_enter Try.func25, Try.ntmps25
  go_wp2
  go_ret
  refine ⟨?_, rfl⟩
  have e : decide (kd b = 0) = decide (kd (b ^^^ 2 ^ 63) = 5) := by
    rw [decide_eq_decide]
    unfold kd
    rw [rd_neg hb, kd_opp]
  rw [e, ← h]
  rfl
theorem Signbit_calls (b : Nat) (w : World) (hb : b < 2 ^ 64) : Calls Try.prog 26 #[.float .f64 b] w fun e w' => e = .returned (.bool (decide (2 ^ 63 ≤ b))) ∧ w' = w := by
  have hn := bits_run b
  go_enter Try.func26, Try.ntmps26
  go_wp2
  go_ret
  refine ⟨?_, rfl⟩
  have e : decide (wrap64 (b : Int) < 0) = decide (2 ^ 63 ≤ b) := by
    rw [decide_eq_decide]
    unfold wrap64
    omega
  rw [← e]
  rfl
set_option maxHeartbeats 4000000 in
theorem Kind_calls (b : Nat) (w : World) (hb : b < 2 ^ 64) : Calls Try.prog 13 #[.float .f64 b] w fun e w' => e = .returned (.int .i64 (kd b)) ∧ w' = w := by
  have HB := Aside0.mk hb
  have KR := Aside0.mk (kd_range b)
  have h1 := ord_lt0 b
  have h4 := ord_gt0 b
  have HS := Aside0.mk (kd_sign hb)
  obtain ⟨k, hk⟩ : ∃ k, kd b = k := ⟨_, rfl⟩
  rw [hk] at KR h1 h4 HS
  have HK := Aside0.mk hk
  clear hk hb
  go_enter Try.func13, Try.ntmps13
  go_wp2_with fail
  refine (IsNaN_calls b w).mono ?_
  rintro e w_ ⟨rfl, hw_⟩
  rw [hw_]
  clear hw_ w_
  rw [HK.out]
  by_cases c6 : k = 6
  · have d6 : decide (k = 6) = true := decide_eq_true c6
    go_wp2
    go_ret
    exact ⟨by rw [HK.out, c6]; rfl, rfl⟩
  · have d6 : decide (k = 6) = false := decide_eq_false c6
    go_wp2_with fail
    refine (IsInf_down b w HB.out).mono ?_
    rintro e w_ ⟨rfl, hw_⟩
    rw [hw_]
    clear hw_ w_
    rw [HK.out]
    by_cases c0 : k = 0
    · have d0 : decide (k = 0) = true := decide_eq_true c0
      go_wp2
      go_ret
      exact ⟨by rw [HK.out, c0]; rfl, rfl⟩
    · have d0 : decide (k = 0) = false := decide_eq_false c0
      go_wp2_with fail
      refine (IsInf_up b w).mono ?_
      rintro e w_ ⟨rfl, hw_⟩
      rw [hw_]
      clear hw_ w_
      rw [HK.out]
      by_cases c5 : k = 5
      · have d5 : decide (k = 5) = true := decide_eq_true c5
        go_wp2
        go_ret
        exact ⟨by rw [HK.out, c5]; rfl, rfl⟩
      · have d5 : decide (k = 5) = false := decide_eq_false c5
        by_cases c1 : k = 1
        · have h1' : (FloatKind.f64.format.order b 0 == some .lt) = true := by rw [show FloatKind.f64.format.order b 0 = ord b 0 from rfl, h1]; exact decide_eq_true (.inr c1)
          clear h1 h4
          go_wp2
          go_ret
          exact ⟨by rw [HK.out, c1]; rfl, rfl⟩
        · have h1' : (FloatKind.f64.format.order b 0 == some .lt) = false := by rw [show FloatKind.f64.format.order b 0 = ord b 0 from rfl, h1]; exact decide_eq_false (by omega)
          by_cases c4 : k = 4
          · have h4' : (FloatKind.f64.format.order b 0 == some .gt) = true := by rw [show FloatKind.f64.format.order b 0 = ord b 0 from rfl, h4]; exact decide_eq_true (.inl c4)
            clear h1 h4
            go_wp2
            go_ret
            exact ⟨by rw [HK.out, c4]; rfl, rfl⟩
          · have h4' : (FloatKind.f64.format.order b 0 == some .gt) = false := by rw [show FloatKind.f64.format.order b 0 = ord b 0 from rfl, h4]; exact decide_eq_false (by omega)
            have kr := KR.out
            have c23 : k = 2 ∨ k = 3 := by omega
            have hs := HS.out c23
            clear h1 h4
            go_wp2_with fail
            refine (Signbit_calls b w HB.out).mono ?_
            rintro e w_ ⟨rfl, hw_⟩
            rw [hw_]
            clear hw_ w_
            rw [hs]
            rcases c23 with c2 | c3
            · have d2 : decide (k = 2) = true := decide_eq_true c2
              clear hs
              go_wp2
              go_ret
              exact ⟨by rw [HK.out, c2]; rfl, rfl⟩
            · have d2 : decide (k = 2) = false := decide_eq_false (by omega)
              clear hs
              go_wp2
              go_ret
              exact ⟨by rw [HK.out, c3]; rfl, rfl⟩
theorem sub_self {b : Nat} : floatBits .sub .f64 b b = (if 1 ≤ kd b ∧ kd b ≤ 4 then some 0 else none) := by
  show (Datum.sum (rd b) (rd b).opposite).map Ieee.double.write = _
  unfold kd kdD
  cases h : rd b with
  | nan s f => rfl
  | infinity s => cases s <;> rfl
  | number s m i =>
    have e : Datum.sum (.number s m i) (Datum.number s m i).opposite = some (.number false 0 i) := by
      unfold Datum.opposite Datum.sum
      dsimp only
      rw [Int.min_self, signed_eq, signed_eq]
      have z : sgn s m * 2 ^ (i - i).toNat + sgn (!s) m * 2 ^ (i - i).toNat = 0 := by
        rw [← Int.add_mul]
        have : sgn s m + sgn (!s) m = 0 := by unfold sgn; cases s <;> simp <;> omega
        rw [this, Int.zero_mul]
      rw [z, if_pos rfl]
      cases s <;> rfl
    rw [e]
    dsimp only
    rw [if_pos (by split <;> split <;> decide)]
    rfl
theorem nan_ord {r : Nat} (c : Nat) (h : (rd r).isNaN = true) : ord r c = none := by
  obtain ⟨s, f, e⟩ := nan_cases h
  rw [ord_def, e]; rfl
theorem finite_calls (b : Nat) (w : World) : Calls Try.prog 27 #[.float .f64 b] w fun e w' => e = .returned (.bool (decide (1 ≤ kd b ∧ kd b ≤ 4))) ∧ Below w.heap.size w w' := by
  obtain ⟨r, w1, hrun, hres, hb⟩ := run_fl .sub (.inr (.inl rfl)) 22 b b w
  have HB := Aside0.mk hb
  have e : (FloatKind.f64.format.order r 0 == some .eq) = decide (1 ≤ kd b ∧ kd b ≤ 4) := by
    by_cases q : 1 ≤ kd b ∧ kd b ≤ 4
    · have : r = 0 := res_some hres (by rw [sub_self, if_pos q])
      rw [this, decide_eq_true q]; decide
    · have := nan_ord 0 (res_none hres (by rw [sub_self, if_neg q]))
      rw [decide_eq_false q, show FloatKind.f64.format.order r 0 = ord r 0 from rfl, this]; rfl
  have HE := Aside0.mk e
  clear hb hres e
  go_enter Try.func27, Try.ntmps27
  go_wp2
  go_ret
  exact ⟨by rw [← HE.out]; rfl, HB.out⟩
theorem rd1 : rd 4607182418800017408 = .number false (2 ^ 52) (-52) := by decide
theorem one_div {b : Nat} (h : kd b = 2 ∨ kd b = 3) : floatBits .quo .f64 4607182418800017408 b = some (if kd b = 2 then 18442240474082181120 else 9218868437227405312) := by
  show (Datum.quotient 54 (rd 4607182418800017408) (rd b)).map Ieee.double.write = _
  unfold kd kdD at h ⊢
  cases hr : rd b with
  | nan s f => rw [hr] at h; simp at h
  | infinity s => rw [hr] at h; cases s <;> simp at h
  | number s m i =>
    rw [hr] at h
    dsimp only at h ⊢
    by_cases hm : m = 0
    · subst hm
      rw [rd1]
      have e : Datum.quotient 54 (.number false (2 ^ 52) (-52)) (.number s 0 i) = some (.infinity s) := by
        unfold Datum.quotient
        dsimp only
        rw [if_pos rfl, if_neg (by decide)]
        cases s <;> rfl
      rw [e]
      cases s
      · show some (Ieee.double.write (.infinity false)) = some 9218868437227405312
        decide
      · show some (Ieee.double.write (.infinity true)) = some 18442240474082181120
        decide
    · simp only [if_neg hm] at h; cases s <;> simp at h
set_option maxHeartbeats 4000000 in
theorem RKind_calls (b : Nat) (w : World) (hb : b < 2 ^ 64) : Calls Try.prog 14 #[.float .f64 b] w fun e w' => e = .returned (.int .i64 (kd b)) ∧ Below w.heap.size w w' := by
  have KR := Aside0.mk (kd_range b)
  have h0 := ord_self b
  rw [kd_nan] at h0
  have h1 := ord_lt0 b
  have h4 := ord_gt0 b
  have HD := Aside0.mk (@one_div b)
  obtain ⟨k, hk⟩ : ∃ k, kd b = k := ⟨_, rfl⟩
  rw [hk] at KR h0 h1 h4 HD
  have HK := Aside0.mk hk
  clear hk hb
  by_cases c6 : k = 6
  · have g0 : (FloatKind.f64.format.order b b != some .eq) = true := by rw [show FloatKind.f64.format.order b b = ord b b from rfl, h0]; exact decide_eq_true c6
    clear h0 h1 h4
    go_enter Try.func14, Try.ntmps14
    go_wp2
    go_ret
    exact ⟨by rw [HK.out, c6]; rfl, Below.refl _ _⟩
  · have g0 : (FloatKind.f64.format.order b b != some .eq) = false := by rw [show FloatKind.f64.format.order b b = ord b b from rfl, h0]; exact decide_eq_false c6
    have kr := KR.out
    have H1 := Aside0.mk h1
    have H4 := Aside0.mk h4
    clear h0 h1 h4
    go_enter Try.func14, Try.ntmps14
    go_wp2_with fail
    refine (finite_calls b w).mono ?_
    rintro e w1 ⟨rfl, b1⟩
    rw [HK.out]
    have B1 := Aside0.mk b1
    clear b1
    by_cases cf : 1 ≤ k ∧ k ≤ 4
    · have df : decide (1 ≤ k ∧ k ≤ 4) = true := decide_eq_true cf
      by_cases c1 : k = 1
      · have h1' : (FloatKind.f64.format.order b 0 == some .lt) = true := by rw [show FloatKind.f64.format.order b 0 = ord b 0 from rfl, H1.out]; exact decide_eq_true (.inr c1)
        rw [df]
        clear df cf
        go_wp2
        go_ret
        exact ⟨by rw [HK.out, c1]; rfl, B1.out⟩
      · have h1' : (FloatKind.f64.format.order b 0 == some .lt) = false := by rw [show FloatKind.f64.format.order b 0 = ord b 0 from rfl, H1.out]; exact decide_eq_false (by omega)
        by_cases c4 : k = 4
        · have h4' : (FloatKind.f64.format.order b 0 == some .gt) = true := by rw [show FloatKind.f64.format.order b 0 = ord b 0 from rfl, H4.out]; exact decide_eq_true (.inl c4)
          rw [df]
          clear df cf
          go_wp2
          go_ret
          exact ⟨by rw [HK.out, c4]; rfl, B1.out⟩
        · have h4' : (FloatKind.f64.format.order b 0 == some .gt) = false := by rw [show FloatKind.f64.format.order b 0 = ord b 0 from rfl, H4.out]; exact decide_eq_false (by omega)
          have c23 : k = 2 ∨ k = 3 := by omega
          have hd := HD.out c23
          have hq := run_float_arith (P := Try.prog) w1 .quo 22 .f64 _ _ _ hd
          rw [df]
          clear df cf hd
          rcases c23 with c2 | c3
          · rw [if_pos c2] at hq
            have o : (FloatKind.f64.format.order 18442240474082181120 0 == some .lt) = true := by decide
            go_wp2
            go_ret
            exact ⟨by rw [HK.out, c2]; rfl, B1.out⟩
          · rw [if_neg (by omega)] at hq
            have o : (FloatKind.f64.format.order 9218868437227405312 0 == some .lt) = false := by decide
            go_wp2
            go_ret
            exact ⟨by rw [HK.out, c3]; rfl, B1.out⟩
    · have df : decide (1 ≤ k ∧ k ≤ 4) = false := decide_eq_false cf
      rw [df]
      by_cases c0 : k = 0
      · have h1' : (FloatKind.f64.format.order b 0 == some .lt) = true := by rw [show FloatKind.f64.format.order b 0 = ord b 0 from rfl, H1.out]; exact decide_eq_true (.inl c0)
        clear df cf
        go_wp2
        go_ret
        exact ⟨by rw [HK.out, c0]; rfl, B1.out⟩
      · have h1' : (FloatKind.f64.format.order b 0 == some .lt) = false := by rw [show FloatKind.f64.format.order b 0 = ord b 0 from rfl, H1.out]; exact decide_eq_false (by omega)
        have c5 : k = 5 := by omega
        clear df cf
        go_wp2
        go_ret
        exact ⟨by rw [HK.out, c5]; rfl, B1.out⟩
/-- less, and the same: what the functions say. -/
def lessB (a b : Nat) : Bool := decide (kd a < kd b) || (decide (kd a = kd b) && (ord a b == some .lt))
def sameB (a b : Nat) : Bool := decide (kd a = kd b) && ((ord a b == some .eq) || (ord a a != some .eq))
theorem less_iff (a b : Nat) : lessB a b = true ↔ kd a < kd b ∨ (kd a = kd b ∧ ky a < ky b) := by
  unfold lessB
  rw [Bool.or_eq_true, Bool.and_eq_true, decide_eq_true_eq, decide_eq_true_eq]
  refine or_congr Iff.rfl (and_congr_right fun h => ?_)
  cases ha : rd a with
  | nan s f =>
    rw [ord_def, ha, show ky a = 0 by unfold ky; rw [ha]; rfl]
    cases hb : rd b with
    | nan t g => rw [show ky b = 0 by unfold ky; rw [hb]; rfl]; simp [Datum.order]
    | infinity t => exfalso; unfold kd kdD at h; rw [ha, hb] at h; cases t <;> simp at h
    | number t n j => exfalso; unfold kd kdD at h; rw [ha, hb] at h; dsimp only at h; split at h <;> split at h <;> cases h
  | infinity s =>
    rw [ord_def, ha, show ky a = 0 by unfold ky; rw [ha]; rfl]
    cases hb : rd b with
    | nan t g => exfalso; unfold kd kdD at h; rw [ha, hb] at h; cases s <;> simp at h
    | infinity t =>
      rw [show ky b = 0 by unfold ky; rw [hb]; rfl]
      have : s = t := by unfold kd kdD at h; rw [ha, hb] at h; cases s <;> cases t <;> first | rfl | (simp at h)
      subst this
      cases s <;> simp [Datum.order]
    | number t n j => exfalso; unfold kd kdD at h; rw [ha, hb] at h; dsimp only at h; cases s <;> (simp at h; split at h <;> split at h <;> omega)
  | number s m i =>
    cases hb : rd b with
    | nan t g => exfalso; unfold kd kdD at h; rw [ha, hb] at h; dsimp only at h; split at h <;> split at h <;> cases h
    | infinity t => exfalso; unfold kd kdD at h; rw [ha, hb] at h; dsimp only at h; cases t <;> (simp at h; split at h <;> split at h <;> omega)
    | number t n j =>
      rw [ord_number ha hb, Int.compare_eq_ite_lt]
      by_cases q : ky a < ky b
      · rw [if_pos q]; simp [q]
      · rw [if_neg q]; split <;> simp [q]
theorem same_iff (a b : Nat) : sameB a b = true ↔ kd a = kd b ∧ ky a = ky b := by
  unfold sameB
  rw [Bool.and_eq_true, decide_eq_true_eq, ord_self, kd_nan]
  refine and_congr_right fun h => ?_
  cases ha : rd a with
  | nan s f =>
    have e6 : kd a = 6 := by unfold kd; rw [ha]; rfl
    rw [decide_eq_true e6, Bool.or_true, show ky a = 0 by unfold ky; rw [ha]; rfl]
    cases hb : rd b with
    | nan t g => rw [show ky b = 0 by unfold ky; rw [hb]; rfl]; simp
    | infinity t => exfalso; unfold kd kdD at h; rw [ha, hb] at h; cases t <;> simp at h
    | number t n j => exfalso; unfold kd kdD at h; rw [ha, hb] at h; dsimp only at h; split at h <;> split at h <;> cases h
  | infinity s =>
    rw [ord_def, ha, show ky a = 0 by unfold ky; rw [ha]; rfl]
    cases hb : rd b with
    | nan t g => exfalso; unfold kd kdD at h; rw [ha, hb] at h; cases s <;> simp at h
    | infinity t =>
      rw [show ky b = 0 by unfold ky; rw [hb]; rfl]
      have : s = t := by unfold kd kdD at h; rw [ha, hb] at h; cases s <;> cases t <;> first | rfl | (simp at h)
      subst this
      cases s <;> simp [Datum.order]
    | number t n j => exfalso; unfold kd kdD at h; rw [ha, hb] at h; dsimp only at h; cases s <;> (simp at h; split at h <;> split at h <;> omega)
  | number s m i =>
    have n6 : ¬ kd a = 6 := by unfold kd kdD; rw [ha]; dsimp only; split <;> split <;> decide
    rw [decide_eq_false n6, Bool.or_false]
    cases hb : rd b with
    | nan t g => exfalso; unfold kd kdD at h; rw [ha, hb] at h; dsimp only at h; split at h <;> split at h <;> cases h
    | infinity t => exfalso; unfold kd kdD at h; rw [ha, hb] at h; dsimp only at h; cases t <;> (simp at h; split at h <;> split at h <;> omega)
    | number t n j =>
      rw [ord_number ha hb, Int.compare_eq_ite_lt]
      by_cases q : ky a < ky b
      · rw [if_pos q]; simp; omega
      · rw [if_neg q]
        by_cases q2 : ky b < ky a
        · rw [if_pos q2]; simp; omega
        · rw [if_neg q2]; simp; omega
end Go.Proofs.Ytkkfckfmjhfakaa.Mt
