/- The row of EthLengths: for every input the law returns true, and each argument reads behind the call as it read before. No condition. -/
import Derived.Test.YtbecpkkhpjigbaaRows
import Derived.Test.YtbecpkkhpjigbaaHandEthLengths
import Derived.WalkKit
import Derived.ProofKit
import Derived.OpenShut
import Derived.ShutString
import Derived.ChangeOld
import Derived.Below
import Derived.SizedLaws
import Derived.Carry
namespace Go.Proofs.Ytbecpkkhpjigbaa.ethLengths
open Go.ChangeShapes Go.WideShapes Go.ChangeAt Go.RowKit
open Go.ChangeMaps (open_string shut_string)
set_option linter.unusedVariables false
set_option linter.unusedSimpArgs false
theorem own : ownKnob Try.prog.godebug = none := by kernel_rfl
theorem laidOut : laidOutB Try.prog = true := by kernel_rfl
theorem list6 {α : Type} {xs : List α} (h : xs.length = 6) : ∃ y0 y1 y2 y3 y4 y5, xs = [y0, y1, y2, y3, y4, y5] := by
  match xs, h with
  | [y0, y1, y2, y3, y4, y5], _ => exact ⟨y0, y1, y2, y3, y4, y5, rfl⟩
theorem cells3 : Try.prog.cellsOf 3 = 1 := by kernel_rfl
theorem cells9 : Try.prog.cellsOf 9 = 1 := by kernel_rfl
theorem cells23 : Try.prog.cellsOf 23 = 6 := by kernel_rfl
set_option maxRecDepth 100000 in
theorem lifted (os : Os) (started : os.Started) (H : Type) (enc : TypeId × Value → H) :
    ReturnsInHanded {} Try.checked os 8 .any (Rows.ethLengthsSpec.pre6 enc Try.prog Try.f8 Rows.ethLengthsRow.domain false) (Rows.ethLengthsSpec.post enc Try.prog Try.f8 false true false false) := by
  refine returnsInHanded_of_change_sized (C := Try.checked) own started (by kernel_rfl) Try.func8
    (ChangeSpec.witness6 (enc := enc) (C := Try.checked) false ⟨#[], #[.agg #[.string ByteArray.empty, .string ByteArray.empty, .int .i64 0, .int .i64 0, .int .i64 0, .string ByteArray.empty]], []⟩ 8 (by kernel_rfl) (by kernel_rfl) (by kernel_rfl) (by kernel_rfl)) ?_
  intro W base args ds gs before hval0 hW hcnd hsz0 _
  have hsz : (DataW.weightsEach Try.prog (Try.f8.params.toList ++ Rows.ethLengthsSpec.plain.varTypes Try.prog) (ds ++ gs)).all (· ≤ reachBytes) = true := hsz0
  have hval : ∀ (j : Nat) t v, Try.f8.params[j]? = some t → args[j]? = some v → Value.okWide Try.prog W .any base t v := hval0
  have hW' := hW
  obtain ⟨p, q, hA0, hV, rfl, hfz, hnd⟩ := hW
  have hA : DataW.TrodAll enc Try.prog W 0 (fun _ => true) true Try.f8.params.toList args.toList ds p := hA0
  rw [Try.params8] at hA hval hsz
  obtain ⟨v0, vs0, d0, ds0, p0, q0, hargs, rfl, rfl, h0, r0⟩ := trodAll_cons hA
  obtain ⟨rfl, rfl, rfl⟩ := trodAll_nil r0
  obtain rfl : args = #[v0] := by cases args; simp_all
  obtain ⟨rfl, rfl⟩ := trodVars_none hV
  have k0 := h0
  have hl0 : ∀ x ∈ p0, x.block < W.heap.size := fun x hx => by simpa using hW'.lt x (by simp [hx])
  obtain ⟨ar0, rfl, hz0⟩ := okWide_struct Try.underlying23 (hval 0 23 v0 rfl rfl)
  have hz0' : ar0.toList.length = 6 := by rw [Array.length_toList, hz0, cells23]
  obtain ⟨c0_0, c0_1, c0_2, c0_3, c0_4, c0_5, hc0⟩ := list6 hz0'
  obtain rfl : ar0 = #[c0_0, c0_1, c0_2, c0_3, c0_4, c0_5] := by rw [← Array.toList_inj]; exact hc0
  clear hc0 hz0 hz0'
  obtain ⟨fu0, hf0⟩ := h0
  have hf0' : DataW.trod enc Try.prog W 0 (fun _ => true) true fu0 23 [c0_0, c0_1, c0_2, c0_3, c0_4, c0_5] = some (d0, p0) := hf0
  clear hf0
  obtain ⟨xs7, m8, -, hx9, -, hl10, F11⟩ := DataW.trod_struct Try.underlying23 hf0'
  obtain ⟨y1, y2, y3, y4, y5, y6, rfl⟩ := list6 hl10
  simp only [Prod.mk.injEq] at hx9
  obtain ⟨rfl, rfl⟩ := hx9
  have z12 : DataW.trod enc Try.prog W 0 (fun _ => true) true m8 9 [c0_0] = some y1 := by
    have q : DataW.trod enc Try.prog W 0 (fun _ => true) true m8 9 (([c0_0, c0_1, c0_2, c0_3, c0_4, c0_5].drop 0).take (Try.prog.cellsOf 9)) = some y1 := F11 0 _ rfl
    rw [cells9] at q
    exact q
  obtain ⟨a0_0, e13, rfl, -⟩ := DataW.trod_string Try.underlying9 z12
  obtain rfl := List.singleton_inj.1 e13
  have z14 : DataW.trod enc Try.prog W 0 (fun _ => true) true m8 9 [c0_1] = some y2 := by
    have q : DataW.trod enc Try.prog W 0 (fun _ => true) true m8 9 (([Value.string a0_0, c0_1, c0_2, c0_3, c0_4, c0_5].drop 1).take (Try.prog.cellsOf 9)) = some y2 := F11 1 _ rfl
    rw [cells9] at q
    exact q
  obtain ⟨a0_1, e15, rfl, -⟩ := DataW.trod_string Try.underlying9 z14
  obtain rfl := List.singleton_inj.1 e15
  have z16 : DataW.trod enc Try.prog W 0 (fun _ => true) true m8 3 [c0_2] = some y3 := by
    have q : DataW.trod enc Try.prog W 0 (fun _ => true) true m8 3 (([Value.string a0_0, Value.string a0_1, c0_2, c0_3, c0_4, c0_5].drop 2).take (Try.prog.cellsOf 3)) = some y3 := F11 2 _ rfl
    rw [cells3] at q
    exact q
  obtain ⟨a0_2, e17, rfl, wa0_2⟩ := DataW.trod_int Try.underlying3 z16
  obtain rfl := List.singleton_inj.1 e17
  have z18 : DataW.trod enc Try.prog W 0 (fun _ => true) true m8 3 [c0_3] = some y4 := by
    have q : DataW.trod enc Try.prog W 0 (fun _ => true) true m8 3 (([Value.string a0_0, Value.string a0_1, Value.int .i64 a0_2, c0_3, c0_4, c0_5].drop 3).take (Try.prog.cellsOf 3)) = some y4 := F11 3 _ rfl
    rw [cells3] at q
    exact q
  obtain ⟨a0_3, e19, rfl, wa0_3⟩ := DataW.trod_int Try.underlying3 z18
  obtain rfl := List.singleton_inj.1 e19
  have z20 : DataW.trod enc Try.prog W 0 (fun _ => true) true m8 3 [c0_4] = some y5 := by
    have q : DataW.trod enc Try.prog W 0 (fun _ => true) true m8 3 (([Value.string a0_0, Value.string a0_1, Value.int .i64 a0_2, Value.int .i64 a0_3, c0_4, c0_5].drop 4).take (Try.prog.cellsOf 3)) = some y5 := F11 4 _ rfl
    rw [cells3] at q
    exact q
  obtain ⟨a0_4, e21, rfl, wa0_4⟩ := DataW.trod_int Try.underlying3 z20
  obtain rfl := List.singleton_inj.1 e21
  have z22 : DataW.trod enc Try.prog W 0 (fun _ => true) true m8 9 [c0_5] = some y6 := by
    have q : DataW.trod enc Try.prog W 0 (fun _ => true) true m8 9 (([Value.string a0_0, Value.string a0_1, Value.int .i64 a0_2, Value.int .i64 a0_3, Value.int .i64 a0_4, c0_5].drop 5).take (Try.prog.cellsOf 9)) = some y6 := F11 5 _ rfl
    rw [cells9] at q
    exact q
  obtain ⟨a0_5, e23, rfl, -⟩ := DataW.trod_string Try.underlying9 z22
  obtain rfl := List.singleton_inj.1 e23
  have hw : a0_0.size ≤ 140737488351232 ∧ a0_1.size ≤ 140737488351232 ∧ a0_5.size ≤ 140737488351232 := by
    have z := List.all_eq_true.1 hsz
    have y : ∀ s : ByteArray, s.data.toList.length ∈ DataW.weightsEach Try.prog (#[23].toList ++ Rows.ethLengthsSpec.plain.varTypes Try.prog) ([_] ++ []) → s.size ≤ 140737488351232 := fun s hs => by have := of_decide_eq_true (z _ hs); rw [Array.length_toList] at this; exact this
    refine ⟨y _ ?_, y _ ?_, y _ ?_⟩
    all_goals simp [DataW.weightsEach, DataW.weights, Try.underlying3, Try.underlying9, Try.underlying23]
  clear hA0 hval0 hsz0 hsz
  refine (Hand.EthLengths a0_0 a0_1 a0_2 a0_3 a0_4 a0_5 W hw.1 hw.2.1 wa0_2 wa0_3 wa0_4 hw.2.2).mono fun e W' ⟨he, bel⟩ => ?_
  subst he
  exact ⟨_, rfl, _, _, _, [], _, [], hW', trodAll_mk1 (shut_bool Try.underlying4 _), (trodAll_cons_mk (Below.trod laidOut (by kernel_rfl) (of_decide_eq_true (by kernel_rfl)) k0 bel hl0) trodAll_mk0), rfl, bel.frame _, fun h => by cases h⟩
theorem over : Rows.ethLengthsRow.holds Try.pinned (OpenSpec.ofChange Rows.ethLengthsSpec) :=
  OpenClaim.holds_of_wide 8 Try.f8 rfl rfl rfl rfl rfl rfl rfl ⟨rfl, rfl, rfl, rfl, rfl⟩ rfl rfl rfl rfl rfl (by kernel_rfl) Try.func8 (by kernel_rfl)
    (of_decide_eq_true (by kernel_rfl)) (by unfold Func.isWrapper; first | (rw [if_pos (by decide +kernel)]; kernel_rfl) | (rw [if_neg (by decide +kernel)]; exact ⟨rfl, rfl⟩))
    (fun os started H enc _ => lifted os started H enc)
theorem proved : Rows.EthLengthsSaid := over
end Go.Proofs.Ytbecpkkhpjigbaa.ethLengths
namespace Go.Proofs.Ytbecpkkhpjigbaa
/-- The row, under a short name, for the claim. -/
theorem ethLengths_holds : Rows.EthLengthsSaid := ethLengths.proved
end Go.Proofs.Ytbecpkkhpjigbaa
