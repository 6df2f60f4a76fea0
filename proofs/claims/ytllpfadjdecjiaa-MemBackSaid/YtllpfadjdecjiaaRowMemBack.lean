/- The row of MemBack: for every input the law returns true, and each argument reads behind the call as it read before. No condition. -/
import Derived.Test.YtllpfadjdecjiaaRows
import Derived.Test.YtllpfadjdecjiaaHandMemBack
import Derived.WalkKit
import Derived.ProofKit
import Derived.OpenShut
import Derived.ShutString
import Derived.ChangeOld
import Derived.Below
import Derived.SizedLaws
import Derived.Carry
namespace Go.Proofs.Ytllpfadjdecjiaa.memBack
open Go.ChangeShapes Go.WideShapes Go.ChangeAt Go.RowKit
open Go.ChangeMaps (open_string shut_string)
set_option linter.unusedVariables false
set_option linter.unusedSimpArgs false
theorem own : ownKnob Try.prog.godebug = none := by kernel_rfl
theorem laidOut : laidOutB Try.prog = true := by kernel_rfl
theorem list5 {α : Type} {xs : List α} (h : xs.length = 5) : ∃ y0 y1 y2 y3 y4, xs = [y0, y1, y2, y3, y4] := by
  match xs, h with
  | [y0, y1, y2, y3, y4], _ => exact ⟨y0, y1, y2, y3, y4, rfl⟩
theorem cells3 : Try.prog.cellsOf 3 = 1 := by kernel_rfl
theorem cells9 : Try.prog.cellsOf 9 = 1 := by kernel_rfl
theorem cells31 : Try.prog.cellsOf 31 = 1 := by kernel_rfl
theorem cells44 : Try.prog.cellsOf 44 = 5 := by kernel_rfl
set_option maxRecDepth 100000 in
theorem lifted (os : Os) (started : os.Started) (H : Type) (enc : TypeId × Value → H) :
    ReturnsInHanded {} Try.checked os 5 .any (Rows.memBackSpec.pre6 enc Try.prog Try.f5 Rows.memBackRow.domain false) (Rows.memBackSpec.post enc Try.prog Try.f5 false true false false) := by
  refine returnsInHanded_of_change_sized (C := Try.checked) own started (by kernel_rfl) Try.func5
    (ChangeSpec.witness6 (enc := enc) (C := Try.checked) false ⟨#[], #[.string ByteArray.empty, .agg #[.int .i64 0, .int .i64 0, .int .i64 0, .int .u64 0, .string ByteArray.empty]], []⟩ 8 (by kernel_rfl) (by kernel_rfl) (by kernel_rfl) (by kernel_rfl)) ?_
  intro W base args ds gs before hval0 hW hcnd hsz0 _
  have hsz : (DataW.weightsEach Try.prog (Try.f5.params.toList ++ Rows.memBackSpec.plain.varTypes Try.prog) (ds ++ gs)).all (· ≤ reachBytes) = true := hsz0
  have hval : ∀ (j : Nat) t v, Try.f5.params[j]? = some t → args[j]? = some v → Value.okWide Try.prog W .any base t v := hval0
  have hW' := hW
  obtain ⟨p, q, hA0, hV, rfl, hfz, hnd⟩ := hW
  have hA : DataW.TrodAll enc Try.prog W 0 (fun _ => true) true Try.f5.params.toList args.toList ds p := hA0
  rw [Try.params5] at hA hval hsz
  obtain ⟨v0, vs0, d0, ds0, p0, q0, hargs, rfl, rfl, h0, r0⟩ := trodAll_cons hA
  obtain ⟨v1, vs1, d1, ds1, p1, q1, rfl, rfl, rfl, h1, r1⟩ := trodAll_cons r0
  obtain ⟨rfl, rfl, rfl⟩ := trodAll_nil r1
  obtain rfl : args = #[v0, v1] := by cases args; simp_all
  obtain ⟨rfl, rfl⟩ := trodVars_none hV
  have k0 := h0
  have k1 := h1
  have hl1 : ∀ x ∈ p1, x.block < W.heap.size := fun x hx => by simpa using hW'.lt x (by simp [hx])
  obtain ⟨a0, rfl, rfl, rfl, -⟩ := open_string Try.underlying9 (hval 0 9 v0 rfl rfl) h0
  obtain ⟨ar1, rfl, hz1⟩ := okWide_struct Try.underlying44 (hval 1 44 v1 rfl rfl)
  have hz1' : ar1.toList.length = 5 := by rw [Array.length_toList, hz1, cells44]
  obtain ⟨c1_0, c1_1, c1_2, c1_3, c1_4, hc1⟩ := list5 hz1'
  obtain rfl : ar1 = #[c1_0, c1_1, c1_2, c1_3, c1_4] := by rw [← Array.toList_inj]; exact hc1
  clear hc1 hz1 hz1'
  obtain ⟨fu1, hf1⟩ := h1
  have hf1' : DataW.trod enc Try.prog W 0 (fun _ => true) true fu1 44 [c1_0, c1_1, c1_2, c1_3, c1_4] = some (d1, p1) := hf1
  clear hf1
  obtain ⟨xs6, m7, -, hx8, -, hl9, F10⟩ := DataW.trod_struct Try.underlying44 hf1'
  obtain ⟨y1, y2, y3, y4, y5, rfl⟩ := list5 hl9
  simp only [Prod.mk.injEq] at hx8
  obtain ⟨rfl, rfl⟩ := hx8
  have z11 : DataW.trod enc Try.prog W 0 (fun _ => true) true m7 3 [c1_0] = some y1 := by
    have q : DataW.trod enc Try.prog W 0 (fun _ => true) true m7 3 (([c1_0, c1_1, c1_2, c1_3, c1_4].drop 0).take (Try.prog.cellsOf 3)) = some y1 := F10 0 _ rfl
    rw [cells3] at q
    exact q
  obtain ⟨a1_0, e12, rfl, wa1_0⟩ := DataW.trod_int Try.underlying3 z11
  obtain rfl := List.singleton_inj.1 e12
  have z13 : DataW.trod enc Try.prog W 0 (fun _ => true) true m7 3 [c1_1] = some y2 := by
    have q : DataW.trod enc Try.prog W 0 (fun _ => true) true m7 3 (([Value.int .i64 a1_0, c1_1, c1_2, c1_3, c1_4].drop 1).take (Try.prog.cellsOf 3)) = some y2 := F10 1 _ rfl
    rw [cells3] at q
    exact q
  obtain ⟨a1_1, e14, rfl, wa1_1⟩ := DataW.trod_int Try.underlying3 z13
  obtain rfl := List.singleton_inj.1 e14
  have z15 : DataW.trod enc Try.prog W 0 (fun _ => true) true m7 3 [c1_2] = some y3 := by
    have q : DataW.trod enc Try.prog W 0 (fun _ => true) true m7 3 (([Value.int .i64 a1_0, Value.int .i64 a1_1, c1_2, c1_3, c1_4].drop 2).take (Try.prog.cellsOf 3)) = some y3 := F10 2 _ rfl
    rw [cells3] at q
    exact q
  obtain ⟨a1_2, e16, rfl, wa1_2⟩ := DataW.trod_int Try.underlying3 z15
  obtain rfl := List.singleton_inj.1 e16
  have z17 : DataW.trod enc Try.prog W 0 (fun _ => true) true m7 31 [c1_3] = some y4 := by
    have q : DataW.trod enc Try.prog W 0 (fun _ => true) true m7 31 (([Value.int .i64 a1_0, Value.int .i64 a1_1, Value.int .i64 a1_2, c1_3, c1_4].drop 3).take (Try.prog.cellsOf 31)) = some y4 := F10 3 _ rfl
    rw [cells31] at q
    exact q
  obtain ⟨a1_3, e18, rfl, wa1_3⟩ := DataW.trod_int Try.underlying31 z17
  obtain rfl := List.singleton_inj.1 e18
  have z19 : DataW.trod enc Try.prog W 0 (fun _ => true) true m7 9 [c1_4] = some y5 := by
    have q : DataW.trod enc Try.prog W 0 (fun _ => true) true m7 9 (([Value.int .i64 a1_0, Value.int .i64 a1_1, Value.int .i64 a1_2, Value.int .u64 a1_3, c1_4].drop 4).take (Try.prog.cellsOf 9)) = some y5 := F10 4 _ rfl
    rw [cells9] at q
    exact q
  obtain ⟨a1_4, e20, rfl, -⟩ := DataW.trod_string Try.underlying9 z19
  obtain rfl := List.singleton_inj.1 e20
  have hw : a0.size ≤ 140737488351232 ∧ a1_4.size ≤ 140737488351232 := by
    have z := List.all_eq_true.1 hsz
    have y : ∀ s : ByteArray, s.data.toList.length ∈ DataW.weightsEach Try.prog (#[9, 44].toList ++ Rows.memBackSpec.plain.varTypes Try.prog) ([_, _] ++ []) → s.size ≤ 140737488351232 := fun s hs => by have := of_decide_eq_true (z _ hs); rw [Array.length_toList] at this; exact this
    refine ⟨y _ ?_, y _ ?_⟩
    all_goals simp [DataW.weightsEach, DataW.weights, Try.underlying3, Try.underlying9, Try.underlying31, Try.underlying44]
  clear hA0 hval0 hsz0 hsz
  refine (Hand.MemBack a0 a1_0 a1_1 a1_2 a1_3 a1_4 W hw.1 wa1_0 wa1_1 wa1_2 wa1_3 hw.2).mono fun e W' ⟨he, bel⟩ => ?_
  subst he
  exact ⟨_, rfl, _, _, _, [], _, [], hW', trodAll_mk1 (shut_bool Try.underlying4 _), (trodAll_cons_mk (shut_string Try.underlying9 (by have := hw.1; unfold maxLen; omega)) (trodAll_cons_mk (Below.trod laidOut (by kernel_rfl) (of_decide_eq_true (by kernel_rfl)) k1 bel hl1) trodAll_mk0)), rfl, bel.frame _, fun h => by cases h⟩
theorem over : Rows.memBackRow.holds Try.pinned (OpenSpec.ofChange Rows.memBackSpec) :=
  OpenClaim.holds_of_wide 5 Try.f5 rfl rfl rfl rfl rfl rfl rfl ⟨rfl, rfl, rfl, rfl, rfl⟩ rfl rfl rfl rfl rfl (by kernel_rfl) Try.func5 (by kernel_rfl)
    (of_decide_eq_true (by kernel_rfl)) (by unfold Func.isWrapper; first | (rw [if_pos (by decide +kernel)]; kernel_rfl) | (rw [if_neg (by decide +kernel)]; exact ⟨rfl, rfl⟩))
    (fun os started H enc _ => lifted os started H enc)
theorem proved : Rows.MemBackSaid := over
end Go.Proofs.Ytllpfadjdecjiaa.memBack
namespace Go.Proofs.Ytllpfadjdecjiaa
/-- The row, under a short name, for the claim. -/
theorem memBack_holds : Rows.MemBackSaid := memBack.proved
end Go.Proofs.Ytllpfadjdecjiaa
