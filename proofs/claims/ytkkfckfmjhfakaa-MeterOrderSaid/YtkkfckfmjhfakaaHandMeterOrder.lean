/- Floats and the meter: contracts by hand, and the laws over them. -/
import Derived.Test.YtkkfckfmjhfakaaOwn
import Derived.Test.YtkkfckfmjhfakaaFx
namespace Go.Proofs.Ytkkfckfmjhfakaa.Hand
open Go Go.RowKit Go.Proofs.YtkkfckfmjhfakaaW.PrintWords Go.Proofs.YtkkfckfmjhfakaaW.PrintLast Go.Proofs.YtkkfckfmjhfakaaW.PrintMore Go.Proofs.Ytkkfckfmjhfakaa.Mth Go.Proofs.Ytkkfckfmjhfakaa.Own Go.Proofs Go.Proofs.Ytkkfckfmjhfakaa.Mt
set_option linter.unusedVariables false
set_option linter.unusedSimpArgs false
theorem ord_asym {a b : Nat} (h : lessB a b = true) : lessB b a = false := by rw [← Bool.not_eq_true]; rw [less_iff] at *; omega
theorem ord_irr (a : Nat) : lessB a a = false := by rw [← Bool.not_eq_true]; rw [less_iff]; omega
theorem ord_tr {a b c : Nat} (h : lessB a b = true) (h2 : lessB b c = true) : lessB a c = true := by rw [less_iff] at *; omega
theorem same_no {a b : Nat} (h : lessB a b = true) : sameB a b = false := by rw [← Bool.not_eq_true]; rw [less_iff] at h; rw [same_iff]; omega
theorem same_or {a b : Nat} (h : lessB a b = false) : sameB a b = !lessB b a := by
  cases h2 : lessB b a with
  | true =>
    show sameB a b = false
    rw [← Bool.not_eq_true]; rw [less_iff] at h2; rw [same_iff]; omega
  | false =>
    show sameB a b = true
    rw [← Bool.not_eq_true, less_iff] at h h2; rw [same_iff]; omega
set_option maxHeartbeats 8000000 in
theorem MeterOrder (a b c : Nat) (w : World) (wa : (Lit.float .f64 a).wf = true) (wb : (Lit.float .f64 b).wf = true) (wc : (Lit.float .f64 c).wf = true) : Calls Try.prog 6 #[.float .f64 a, .float .f64 b, .float .f64 c] w fun e w' => e = .returned (.bool true) ∧ Below w.heap.size w w' := by
  have ha : a < 2 ^ 64 := by simpa [Lit.wf] using wa
  have hb : b < 2 ^ 64 := by simpa [Lit.wf] using wb
  have hc : c < 2 ^ 64 := by simpa [Lit.wf] using wc
  have HA := Aside0.mk ha
  have HB := Aside0.mk hb
  have HC := Aside0.mk hc
  have II := Aside0.mk (ord_irr a)
  clear ha hb hc wa wb wc
  go_enter Try.func6, Try.ntmps6
  go_wp2_with fail
  refine (Less_calls a a w HA.out HA.out).mono ?_
  rintro e w_ ⟨rfl, hw_⟩
  rw [hw_]
  clear hw_ w_
  rw [II.out]
  cases hx : lessB a b with
  | true =>
    have X := Aside0.mk hx
    have Y := Aside0.mk (ord_asym hx)
    have SN := Aside0.mk (same_no hx)
    have TR := Aside0.mk (fun h => ord_tr (c := c) hx h)
    clear hx
    go_wp2_with fail
    refine (Less_calls a b w HA.out HB.out).mono ?_
    rintro e w_ ⟨rfl, hw_⟩
    rw [hw_]
    clear hw_ w_
    rw [X.out]
    go_wp2_with fail
    refine (Less_calls b a w HB.out HA.out).mono ?_
    rintro e w_ ⟨rfl, hw_⟩
    rw [hw_]
    clear hw_ w_
    rw [Y.out]
    go_wp2_with fail
    refine (Less_calls a b w HA.out HB.out).mono ?_
    rintro e w_ ⟨rfl, hw_⟩
    rw [hw_]
    clear hw_ w_
    rw [X.out]
    cases hz : lessB b c with
    | true =>
      have Z := Aside0.mk hz
      have U := Aside0.mk (TR.out hz)
      clear hz
      go_wp2_with fail
      refine (Less_calls b c w HB.out HC.out).mono ?_
      rintro e w_ ⟨rfl, hw_⟩
      rw [hw_]
      clear hw_ w_
      rw [Z.out]
      go_wp2_with fail
      refine (Less_calls a c w HA.out HC.out).mono ?_
      rintro e w_ ⟨rfl, hw_⟩
      rw [hw_]
      clear hw_ w_
      rw [U.out]
      go_wp2_with fail
      refine (fixed_calls w).mono ?_
      rintro e wf ⟨rfl, hf⟩
      have BF := Aside0.mk hf
      clear hf
      go_wp2_with fail
      refine (Less_calls a b wf HA.out HB.out).mono ?_
      rintro e w_ ⟨rfl, hw_⟩
      rw [hw_]
      clear hw_ w_
      rw [X.out]
      go_wp2_with fail
      refine (Same_calls a b wf HA.out HB.out).mono ?_
      rintro e wg ⟨rfl, hg⟩
      have BG := Aside0.mk (below_step BF.out hg)
      clear hg
      rw [SN.out]
      go_wp2
      go_ret
      exact ⟨rfl, BG.out⟩
    | false =>
      have Z := Aside0.mk hz
      clear hz
      go_wp2_with fail
      refine (Less_calls b c w HB.out HC.out).mono ?_
      rintro e w_ ⟨rfl, hw_⟩
      rw [hw_]
      clear hw_ w_
      rw [Z.out]
      go_wp2_with fail
      refine (fixed_calls w).mono ?_
      rintro e wf ⟨rfl, hf⟩
      have BF := Aside0.mk hf
      clear hf
      go_wp2_with fail
      refine (Less_calls a b wf HA.out HB.out).mono ?_
      rintro e w_ ⟨rfl, hw_⟩
      rw [hw_]
      clear hw_ w_
      rw [X.out]
      go_wp2_with fail
      refine (Same_calls a b wf HA.out HB.out).mono ?_
      rintro e wg ⟨rfl, hg⟩
      have BG := Aside0.mk (below_step BF.out hg)
      clear hg
      rw [SN.out]
      go_wp2
      go_ret
      exact ⟨rfl, BG.out⟩
  | false =>
    have X := Aside0.mk hx
    have SO := Aside0.mk (same_or hx)
    clear hx
    go_wp2_with fail
    refine (Less_calls a b w HA.out HB.out).mono ?_
    rintro e w_ ⟨rfl, hw_⟩
    rw [hw_]
    clear hw_ w_
    rw [X.out]
    go_wp2_with fail
    refine (Less_calls a b w HA.out HB.out).mono ?_
    rintro e w_ ⟨rfl, hw_⟩
    rw [hw_]
    clear hw_ w_
    rw [X.out]
    go_wp2_with fail
    refine (fixed_calls w).mono ?_
    rintro e wf ⟨rfl, hf⟩
    have BF := Aside0.mk hf
    clear hf
    go_wp2_with fail
    refine (Less_calls a b wf HA.out HB.out).mono ?_
    rintro e w_ ⟨rfl, hw_⟩
    rw [hw_]
    clear hw_ w_
    rw [X.out]
    cases hy : lessB b a with
    | true =>
      have Y := Aside0.mk hy
      have SS := Aside0.mk (show sameB a b = false by rw [SO.out, hy]; rfl)
      clear hy
      go_wp2_with fail
      refine (Less_calls b a wf HB.out HA.out).mono ?_
      rintro e w_ ⟨rfl, hw_⟩
      rw [hw_]
      clear hw_ w_
      rw [Y.out]
      go_wp2_with fail
      refine (Same_calls a b wf HA.out HB.out).mono ?_
      rintro e wg ⟨rfl, hg⟩
      have BG := Aside0.mk (below_step BF.out hg)
      clear hg
      rw [SS.out]
      go_wp2
      go_ret
      exact ⟨rfl, BG.out⟩
    | false =>
      have Y := Aside0.mk hy
      have SS := Aside0.mk (show sameB a b = true by rw [SO.out, hy]; rfl)
      clear hy
      go_wp2_with fail
      refine (Less_calls b a wf HB.out HA.out).mono ?_
      rintro e w_ ⟨rfl, hw_⟩
      rw [hw_]
      clear hw_ w_
      rw [Y.out]
      go_wp2_with fail
      refine (Same_calls a b wf HA.out HB.out).mono ?_
      rintro e wg ⟨rfl, hg⟩
      have BG := Aside0.mk (below_step BF.out hg)
      clear hg
      rw [SS.out]
      go_wp2
      go_ret
      exact ⟨rfl, BG.out⟩
end Go.Proofs.Ytkkfckfmjhfakaa.Hand
