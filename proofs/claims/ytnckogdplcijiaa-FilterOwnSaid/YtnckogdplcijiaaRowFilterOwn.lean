/- The row of FilterOwn: for every input the law returns true, and each argument reads behind the call as it read before. No condition. -/
import Derived.Test.YtnckogdplcijiaaRows
import Derived.Test.YtnckogdplcijiaaHandFilterOwn
import Derived.WalkKit
import Derived.ProofKit
import Derived.OpenShut
import Derived.ShutString
import Derived.ChangeOld
import Derived.Below
import Derived.SizedLaws
import Derived.Carry
namespace Go.Proofs.Ytnckogdplcijiaa.filterOwn
open Go.ChangeShapes Go.WideShapes Go.ChangeAt Go.RowKit
open Go.ChangeMaps (open_string shut_string)
set_option linter.unusedVariables false
set_option linter.unusedSimpArgs false
theorem own : ownKnob Try.prog.godebug = none := by kernel_rfl
set_option maxRecDepth 100000 in
theorem lifted (os : Os) (started : os.Started) (H : Type) (enc : TypeId × Value → H) :
    ReturnsInHanded {} Try.checked os 5 .any (Rows.filterOwnSpec.pre6 enc Try.prog Try.f5 Rows.filterOwnRow.domain false) (Rows.filterOwnSpec.post enc Try.prog Try.f5 false true false false) := by
  refine returnsInHanded_of_change_sized (C := Try.checked) own started (by kernel_rfl) Try.func5
    (ChangeSpec.witness6 (enc := enc) (C := Try.checked) false ⟨#[], #[.string ByteArray.empty, .string ByteArray.empty, .string ByteArray.empty], []⟩ 8 (by kernel_rfl) (by kernel_rfl) (by kernel_rfl) (by kernel_rfl)) ?_
  intro W base args ds gs before hval0 hW hcnd hsz0 _
  have hsz : (DataW.weightsEach Try.prog (Try.f5.params.toList ++ Rows.filterOwnSpec.plain.varTypes Try.prog) (ds ++ gs)).all (· ≤ reachBytes) = true := hsz0
  have hval : ∀ (j : Nat) t v, Try.f5.params[j]? = some t → args[j]? = some v → Value.okWide Try.prog W .any base t v := hval0
  have hW' := hW
  obtain ⟨p, q, hA0, hV, rfl, hfz, hnd⟩ := hW
  have hA : DataW.TrodAll enc Try.prog W 0 (fun _ => true) true Try.f5.params.toList args.toList ds p := hA0
  rw [Try.params5] at hA hval hsz
  obtain ⟨v0, vs0, d0, ds0, p0, q0, hargs, rfl, rfl, h0, r0⟩ := trodAll_cons hA
  obtain ⟨v1, vs1, d1, ds1, p1, q1, rfl, rfl, rfl, h1, r1⟩ := trodAll_cons r0
  obtain ⟨v2, vs2, d2, ds2, p2, q2, rfl, rfl, rfl, h2, r2⟩ := trodAll_cons r1
  obtain ⟨rfl, rfl, rfl⟩ := trodAll_nil r2
  obtain rfl : args = #[v0, v1, v2] := by cases args; simp_all
  obtain ⟨rfl, rfl⟩ := trodVars_none hV
  have k0 := h0
  have k1 := h1
  have k2 := h2
  obtain ⟨a0, rfl, rfl, rfl, -⟩ := open_string Try.underlying9 (hval 0 9 v0 rfl rfl) h0
  obtain ⟨a1, rfl, rfl, rfl, -⟩ := open_string Try.underlying9 (hval 1 9 v1 rfl rfl) h1
  obtain ⟨a2, rfl, rfl, rfl, -⟩ := open_string Try.underlying9 (hval 2 9 v2 rfl rfl) h2
  have hw : a0.size ≤ 140737488351232 ∧ a1.size ≤ 140737488351232 ∧ a2.size ≤ 140737488351232 := by
    have z := List.all_eq_true.1 hsz
    have y : ∀ s : ByteArray, s.data.toList.length ∈ DataW.weightsEach Try.prog (#[9, 9, 9].toList ++ Rows.filterOwnSpec.plain.varTypes Try.prog) ([_, _, _] ++ []) → s.size ≤ 140737488351232 := fun s hs => by have := of_decide_eq_true (z _ hs); rw [Array.length_toList] at this; exact this
    refine ⟨y _ ?_, y _ ?_, y _ ?_⟩
    all_goals simp [DataW.weightsEach, DataW.weights, Try.underlying9]
  clear hA0 hval0 hsz0 hsz
  refine (Hand.FilterOwn a0 a1 a2 W hw.1 hw.2.1 hw.2.2).mono fun e W' ⟨he, bel⟩ => ?_
  subst he
  exact ⟨_, rfl, _, _, _, [], _, [], hW', trodAll_mk1 (shut_bool Try.underlying4 _), (trodAll_cons_mk (shut_string Try.underlying9 (by have := hw.1; unfold maxLen; omega)) (trodAll_cons_mk (shut_string Try.underlying9 (by have := hw.2.1; unfold maxLen; omega)) (trodAll_cons_mk (shut_string Try.underlying9 (by have := hw.2.2; unfold maxLen; omega)) trodAll_mk0))), rfl, bel.frame _, fun h => by cases h⟩
theorem over : Rows.filterOwnRow.holds Try.pinned (OpenSpec.ofChange Rows.filterOwnSpec) :=
  OpenClaim.holds_of_wide 5 Try.f5 rfl rfl rfl rfl rfl rfl rfl ⟨rfl, rfl, rfl, rfl, rfl⟩ rfl rfl rfl rfl rfl (by kernel_rfl) Try.func5 (by kernel_rfl)
    (of_decide_eq_true (by kernel_rfl)) (by unfold Func.isWrapper; first | (rw [if_pos (by decide +kernel)]; kernel_rfl) | (rw [if_neg (by decide +kernel)]; exact ⟨rfl, rfl⟩))
    (fun os started H enc _ => lifted os started H enc)
theorem proved : Rows.FilterOwnSaid := over
end Go.Proofs.Ytnckogdplcijiaa.filterOwn
namespace Go.Proofs.Ytnckogdplcijiaa
/-- The row, under a short name, for the claim. -/
theorem filterOwn_holds : Rows.FilterOwnSaid := filterOwn.proved
end Go.Proofs.Ytnckogdplcijiaa
