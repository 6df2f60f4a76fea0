/- The row of MemParts: for every input the law returns true, and each argument reads behind the call as it read before. No condition. -/
import Derived.Test.YtllpfadjdecjiaaRows
import Derived.Test.YtllpfadjdecjiaaHandMemParts
import Derived.WalkKit
import Derived.ProofKit
import Derived.OpenShut
import Derived.ShutString
import Derived.ChangeOld
import Derived.Below
import Derived.SizedLaws
import Derived.Carry
namespace Go.Proofs.Ytllpfadjdecjiaa.memParts
open Go.ChangeShapes Go.WideShapes Go.ChangeAt Go.RowKit
open Go.ChangeMaps (open_string shut_string)
set_option linter.unusedVariables false
set_option linter.unusedSimpArgs false
theorem own : ownKnob Try.prog.godebug = none := by kernel_rfl
theorem laidOut : laidOutB Try.prog = true := by kernel_rfl
theorem list4 {α : Type} {xs : List α} (h : xs.length = 4) : ∃ y0 y1 y2 y3, xs = [y0, y1, y2, y3] := by
  match xs, h with
  | [y0, y1, y2, y3], _ => exact ⟨y0, y1, y2, y3, rfl⟩
theorem cells3 : Try.prog.cellsOf 3 = 1 := by kernel_rfl
theorem cells9 : Try.prog.cellsOf 9 = 1 := by kernel_rfl
theorem cells23 : Try.prog.cellsOf 23 = 4 := by kernel_rfl
set_option maxRecDepth 100000 in
theorem lifted (os : Os) (started : os.Started) (H : Type) (enc : TypeId × Value → H) :
    ReturnsInHanded {} Try.checked os 3 .any (Rows.memPartsSpec.pre6 enc Try.prog Try.f3 Rows.memPartsRow.domain false) (Rows.memPartsSpec.post enc Try.prog Try.f3 false true false false) := by
  refine returnsInHanded_of_change_sized (C := Try.checked) own started (by kernel_rfl) Try.func3
    (ChangeSpec.witness6 (enc := enc) (C := Try.checked) false ⟨#[], #[.agg #[.string ByteArray.empty, .int .i64 0, .int .i64 0, .int .i64 0]], []⟩ 8 (by kernel_rfl) (by kernel_rfl) (by kernel_rfl) (by kernel_rfl)) ?_
  intro W base args ds gs before hval0 hW hcnd hsz0 _
  have hsz : (DataW.weightsEach Try.prog (Try.f3.params.toList ++ Rows.memPartsSpec.plain.varTypes Try.prog) (ds ++ gs)).all (· ≤ reachBytes) = true := hsz0
  have hval : ∀ (j : Nat) t v, Try.f3.params[j]? = some t → args[j]? = some v → Value.okWide Try.prog W .any base t v := hval0
  have hW' := hW
  obtain ⟨p, q, hA0, hV, rfl, hfz, hnd⟩ := hW
  have hA : DataW.TrodAll enc Try.prog W 0 (fun _ => true) true Try.f3.params.toList args.toList ds p := hA0
  rw [Try.params3] at hA hval hsz
  obtain ⟨v0, vs0, d0, ds0, p0, q0, hargs, rfl, rfl, h0, r0⟩ := trodAll_cons hA
  obtain ⟨rfl, rfl, rfl⟩ := trodAll_nil r0
  obtain rfl : args = #[v0] := by cases args; simp_all
  obtain ⟨rfl, rfl⟩ := trodVars_none hV
  have k0 := h0
  have hl0 : ∀ x ∈ p0, x.block < W.heap.size := fun x hx => by simpa using hW'.lt x (by simp [hx])
  obtain ⟨ar0, rfl, hz0⟩ := okWide_struct Try.underlying23 (hval 0 23 v0 rfl rfl)
  have hz0' : ar0.toList.length = 4 := by rw [Array.length_toList, hz0, cells23]
  obtain ⟨c0_0, c0_1, c0_2, c0_3, hc0⟩ := list4 hz0'
  obtain rfl : ar0 = #[c0_0, c0_1, c0_2, c0_3] := by rw [← Array.toList_inj]; exact hc0
  clear hc0 hz0 hz0'
  obtain ⟨fu0, hf0⟩ := h0
  have hf0' : DataW.trod enc Try.prog W 0 (fun _ => true) true fu0 23 [c0_0, c0_1, c0_2, c0_3] = some (d0, p0) := hf0
  clear hf0
  obtain ⟨xs5, m6, -, hx7, -, hl8, F9⟩ := DataW.trod_struct Try.underlying23 hf0'
  obtain ⟨y1, y2, y3, y4, rfl⟩ := list4 hl8
  simp only [Prod.mk.injEq] at hx7
  obtain ⟨rfl, rfl⟩ := hx7
  have z10 : DataW.trod enc Try.prog W 0 (fun _ => true) true m6 9 [c0_0] = some y1 := by
    have q : DataW.trod enc Try.prog W 0 (fun _ => true) true m6 9 (([c0_0, c0_1, c0_2, c0_3].drop 0).take (Try.prog.cellsOf 9)) = some y1 := F9 0 _ rfl
    rw [cells9] at q
    exact q
  obtain ⟨a0_0, e11, rfl, -⟩ := DataW.trod_string Try.underlying9 z10
  obtain rfl := List.singleton_inj.1 e11
  have z12 : DataW.trod enc Try.prog W 0 (fun _ => true) true m6 3 [c0_1] = some y2 := by
    have q : DataW.trod enc Try.prog W 0 (fun _ => true) true m6 3 (([Value.string a0_0, c0_1, c0_2, c0_3].drop 1).take (Try.prog.cellsOf 3)) = some y2 := F9 1 _ rfl
    rw [cells3] at q
    exact q
  obtain ⟨a0_1, e13, rfl, wa0_1⟩ := DataW.trod_int Try.underlying3 z12
  obtain rfl := List.singleton_inj.1 e13
  have z14 : DataW.trod enc Try.prog W 0 (fun _ => true) true m6 3 [c0_2] = some y3 := by
    have q : DataW.trod enc Try.prog W 0 (fun _ => true) true m6 3 (([Value.string a0_0, Value.int .i64 a0_1, c0_2, c0_3].drop 2).take (Try.prog.cellsOf 3)) = some y3 := F9 2 _ rfl
    rw [cells3] at q
    exact q
  obtain ⟨a0_2, e15, rfl, wa0_2⟩ := DataW.trod_int Try.underlying3 z14
  obtain rfl := List.singleton_inj.1 e15
  have z16 : DataW.trod enc Try.prog W 0 (fun _ => true) true m6 3 [c0_3] = some y4 := by
    have q : DataW.trod enc Try.prog W 0 (fun _ => true) true m6 3 (([Value.string a0_0, Value.int .i64 a0_1, Value.int .i64 a0_2, c0_3].drop 3).take (Try.prog.cellsOf 3)) = some y4 := F9 3 _ rfl
    rw [cells3] at q
    exact q
  obtain ⟨a0_3, e17, rfl, wa0_3⟩ := DataW.trod_int Try.underlying3 z16
  obtain rfl := List.singleton_inj.1 e17
  have hw : a0_0.size ≤ 140737488351232 := by
    have z := List.all_eq_true.1 hsz
    have y : ∀ s : ByteArray, s.data.toList.length ∈ DataW.weightsEach Try.prog (#[23].toList ++ Rows.memPartsSpec.plain.varTypes Try.prog) ([_] ++ []) → s.size ≤ 140737488351232 := fun s hs => by have := of_decide_eq_true (z _ hs); rw [Array.length_toList] at this; exact this
    refine y _ ?_
    all_goals simp [DataW.weightsEach, DataW.weights, Try.underlying3, Try.underlying9, Try.underlying23]
  clear hA0 hval0 hsz0 hsz
  refine (Hand.MemParts a0_0 a0_1 a0_2 a0_3 W hw wa0_1 wa0_2 wa0_3).mono fun e W' ⟨he, bel⟩ => ?_
  subst he
  exact ⟨_, rfl, _, _, _, [], _, [], hW', trodAll_mk1 (shut_bool Try.underlying4 _), (trodAll_cons_mk (Below.trod laidOut (by kernel_rfl) (of_decide_eq_true (by kernel_rfl)) k0 bel hl0) trodAll_mk0), rfl, bel.frame _, fun h => by cases h⟩
theorem over : Rows.memPartsRow.holds Try.pinned (OpenSpec.ofChange Rows.memPartsSpec) :=
  OpenClaim.holds_of_wide 3 Try.f3 rfl rfl rfl rfl rfl rfl rfl ⟨rfl, rfl, rfl, rfl, rfl⟩ rfl rfl rfl rfl rfl (by kernel_rfl) Try.func3 (by kernel_rfl)
    (of_decide_eq_true (by kernel_rfl)) (by unfold Func.isWrapper; first | (rw [if_pos (by decide +kernel)]; kernel_rfl) | (rw [if_neg (by decide +kernel)]; exact ⟨rfl, rfl⟩))
    (fun os started H enc _ => lifted os started H enc)
theorem proved : Rows.MemPartsSaid := over
end Go.Proofs.Ytllpfadjdecjiaa.memParts
namespace Go.Proofs.Ytllpfadjdecjiaa
/-- The row, under a short name, for the claim. -/
theorem memParts_holds : Rows.MemPartsSaid := memParts.proved
end Go.Proofs.Ytllpfadjdecjiaa
