/- Floats and the meter: contracts by hand, and the laws over them. -/
import Derived.Test.YtkkfckfmjhfakaaOwn
import Derived.Test.YtkkfckfmjhfakaaFx
namespace Go.Proofs.Ytkkfckfmjhfakaa.Hand
open Go Go.RowKit Go.Proofs.YtkkfckfmjhfakaaW.PrintWords Go.Proofs.YtkkfckfmjhfakaaW.PrintLast Go.Proofs.YtkkfckfmjhfakaaW.PrintMore Go.Proofs.Ytkkfckfmjhfakaa.Mth Go.Proofs.Ytkkfckfmjhfakaa.Own Go.Proofs Go.Proofs.Ytkkfckfmjhfakaa.Mt
set_option linter.unusedVariables false
set_option linter.unusedSimpArgs false
theorem ky_nan {r : Nat} (h : (rd r).isNaN = true) : ky r = 0 := by
  obtain ⟨s, f, e⟩ := nan_cases h
  unfold ky; rw [e]; rfl
theorem res_same {op : BinOp} {x y r s : Nat} (h1 : Res op x y r) (h2 : Res op x y s) : sameB r s = true := by
  rw [same_iff]
  cases h : floatBits op .f64 x y with
  | some q => rw [res_some h1 h, res_some h2 h]; exact ⟨rfl, rfl⟩
  | none =>
    have a := res_none h1 h
    have b := res_none h2 h
    exact ⟨by rw [nan_kd a, nan_kd b], by rw [ky_nan a, ky_nan b]⟩
set_option maxHeartbeats 8000000 in
theorem MeterRates (n t : Int) (x : Nat) (w : World) (wn : (Lit.int .i64 n).wf = true) (wt : (Lit.int .i64 t).wf = true) (wx : (Lit.float .f64 x).wf = true) : Calls Try.prog 3 #[.int .i64 n, .int .i64 t, .float .f64 x] w fun e w' => e = .returned (.bool true) ∧ Below w.heap.size w w' := by
  have hx : x < 2 ^ 64 := by simpa [Lit.wf] using wx
  have HX := Aside0.mk hx
  obtain ⟨r, w1, hrun, hres, hb⟩ := run_fl .quo (.inr (.inr rfl)) 22 (floatOfInt .f64 n) (floatOfInt .f64 t) w
  have B1 := Aside0.mk hb
  have HR := Aside0.mk hres
  have LR := Aside0.mk hres.1
  clear hb hres hx wx wn wt
  go_enter Try.func3, Try.ntmps3
  go_wp2_with fail
  refine (fixed_calls w1).mono ?_
  rintro e w2 ⟨rfl, h2⟩
  have B2 := Aside0.mk (below_step B1.out h2)
  clear h2
  go_wp2_with fail
  refine (Rate_calls n t w2).mono ?_
  rintro e w3 ⟨s, rfl, hs, h3⟩
  have B3 := Aside0.mk (below_step B2.out h3)
  have LS := Aside0.mk hs.1
  have SS := Aside0.mk (res_same hs HR.out)
  clear h3 hs
  go_wp2_with fail
  refine (Same_calls s r w3 LS.out LR.out).mono ?_
  rintro e w4 ⟨rfl, h4⟩
  have B4 := Aside0.mk (below_step B3.out h4)
  clear h4
  rw [SS.out]
  go_wp2_with fail
  refine (Kind_calls r w4 LR.out).mono ?_
  rintro e w_ ⟨rfl, hw_⟩
  rw [hw_]
  clear hw_ w_
  go_wp2_with fail
  refine (RKind_calls r w4 LR.out).mono ?_
  rintro e w5 ⟨rfl, h5⟩
  have B5 := Aside0.mk (below_step B4.out h5)
  clear h5
  have k1 : (kd r == kd r) = true := beq_self_eq_true _
  go_wp2_with fail
  refine (Kind_calls x w5 HX.out).mono ?_
  rintro e w_ ⟨rfl, hw_⟩
  rw [hw_]
  clear hw_ w_
  go_wp2_with fail
  refine (RKind_calls x w5 HX.out).mono ?_
  rintro e w6 ⟨rfl, h6⟩
  have B6 := Aside0.mk (below_step B5.out h6)
  clear h6
  have k2 : (kd x == kd x) = true := beq_self_eq_true _
  go_wp2
  go_ret
  exact ⟨rfl, B6.out⟩
end Go.Proofs.Ytkkfckfmjhfakaa.Hand
