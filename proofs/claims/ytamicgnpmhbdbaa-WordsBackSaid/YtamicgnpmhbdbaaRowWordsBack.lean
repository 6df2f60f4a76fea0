/- The row of WordsBack: for every input the law returns true, and each argument reads behind the call as it read before. No condition. -/
import Derived.Test.YtamicgnpmhbdbaaRows
import Derived.Test.YtamicgnpmhbdbaaHandWordsBack
import Derived.WalkKit
import Derived.ProofKit
import Derived.OpenShut
import Derived.ShutString
import Derived.ChangeOld
import Derived.Below
import Derived.SizedLaws
import Derived.Carry
namespace Go.Proofs.Ytamicgnpmhbdbaa.wordsBack
open Go.ChangeShapes Go.WideShapes Go.ChangeAt Go.RowKit
open Go.ChangeMaps (open_string shut_string)
set_option linter.unusedVariables false
set_option linter.unusedSimpArgs false
theorem own : ownKnob Try.prog.godebug = none := by kernel_rfl
theorem laidOut : laidOutB Try.prog = true := by kernel_rfl
theorem list5 {α : Type} {xs : List α} (h : xs.length = 5) : ∃ y0 y1 y2 y3 y4, xs = [y0, y1, y2, y3, y4] := by
  match xs, h with
  | [y0, y1, y2, y3, y4], _ => exact ⟨y0, y1, y2, y3, y4, rfl⟩
theorem cells3 : Try.prog.cellsOf 3 = 1 := by kernel_rfl
theorem cells4 : Try.prog.cellsOf 4 = 1 := by kernel_rfl
theorem cells9 : Try.prog.cellsOf 9 = 1 := by kernel_rfl
theorem cells22 : Try.prog.cellsOf 22 = 1 := by kernel_rfl
theorem cells24 : Try.prog.cellsOf 24 = 5 := by kernel_rfl
set_option maxRecDepth 100000 in
theorem lifted (os : Os) (started : os.Started) (H : Type) (enc : TypeId × Value → H) :
    ReturnsInHanded {} Try.checked os 5 .any (Rows.wordsBackSpec.pre6 enc Try.prog Try.f5 Rows.wordsBackRow.domain false) (Rows.wordsBackSpec.post enc Try.prog Try.f5 false true false false) := by
  refine returnsInHanded_of_change_sized (C := Try.checked) own started (by kernel_rfl) Try.func5
    (ChangeSpec.witness6 (enc := enc) (C := Try.checked) false ⟨#[], #[.agg #[.string ByteArray.empty, .int .i64 0, .int .i64 0, .int .u64 0, .bool false]], []⟩ 8 (by kernel_rfl) (by kernel_rfl) (by kernel_rfl) (by kernel_rfl)) ?_
  intro W base args ds gs before hval0 hW hcnd hsz0 _
  have hsz : (DataW.weightsEach Try.prog (Try.f5.params.toList ++ Rows.wordsBackSpec.plain.varTypes Try.prog) (ds ++ gs)).all (· ≤ reachBytes) = true := hsz0
  have hval : ∀ (j : Nat) t v, Try.f5.params[j]? = some t → args[j]? = some v → Value.okWide Try.prog W .any base t v := hval0
  have hW' := hW
  obtain ⟨p, q, hA0, hV, rfl, hfz, hnd⟩ := hW
  have hA : DataW.TrodAll enc Try.prog W 0 (fun _ => true) true Try.f5.params.toList args.toList ds p := hA0
  rw [Try.params5] at hA hval hsz
  obtain ⟨v0, vs0, d0, ds0, p0, q0, hargs, rfl, rfl, h0, r0⟩ := trodAll_cons hA
  obtain ⟨rfl, rfl, rfl⟩ := trodAll_nil r0
  obtain rfl : args = #[v0] := by cases args; simp_all
  obtain ⟨rfl, rfl⟩ := trodVars_none hV
  have k0 := h0
  have hl0 : ∀ x ∈ p0, x.block < W.heap.size := fun x hx => by simpa using hW'.lt x (by simp [hx])
  obtain ⟨ar0, rfl, hz0⟩ := okWide_struct Try.underlying24 (hval 0 24 v0 rfl rfl)
  have hz0' : ar0.toList.length = 5 := by rw [Array.length_toList, hz0, cells24]
  obtain ⟨c0_0, c0_1, c0_2, c0_3, c0_4, hc0⟩ := list5 hz0'
  obtain rfl : ar0 = #[c0_0, c0_1, c0_2, c0_3, c0_4] := by rw [← Array.toList_inj]; exact hc0
  clear hc0 hz0 hz0'
  obtain ⟨fu0, hf0⟩ := h0
  have hf0' : DataW.trod enc Try.prog W 0 (fun _ => true) true fu0 24 [c0_0, c0_1, c0_2, c0_3, c0_4] = some (d0, p0) := hf0
  clear hf0
  obtain ⟨xs6, m7, -, hx8, -, hl9, F10⟩ := DataW.trod_struct Try.underlying24 hf0'
  obtain ⟨y1, y2, y3, y4, y5, rfl⟩ := list5 hl9
  simp only [Prod.mk.injEq] at hx8
  obtain ⟨rfl, rfl⟩ := hx8
  have z11 : DataW.trod enc Try.prog W 0 (fun _ => true) true m7 9 [c0_0] = some y1 := by
    have q : DataW.trod enc Try.prog W 0 (fun _ => true) true m7 9 (([c0_0, c0_1, c0_2, c0_3, c0_4].drop 0).take (Try.prog.cellsOf 9)) = some y1 := F10 0 _ rfl
    rw [cells9] at q
    exact q
  obtain ⟨a0_0, e12, rfl, -⟩ := DataW.trod_string Try.underlying9 z11
  obtain rfl := List.singleton_inj.1 e12
  have z13 : DataW.trod enc Try.prog W 0 (fun _ => true) true m7 3 [c0_1] = some y2 := by
    have q : DataW.trod enc Try.prog W 0 (fun _ => true) true m7 3 (([Value.string a0_0, c0_1, c0_2, c0_3, c0_4].drop 1).take (Try.prog.cellsOf 3)) = some y2 := F10 1 _ rfl
    rw [cells3] at q
    exact q
  obtain ⟨a0_1, e14, rfl, wa0_1⟩ := DataW.trod_int Try.underlying3 z13
  obtain rfl := List.singleton_inj.1 e14
  have z15 : DataW.trod enc Try.prog W 0 (fun _ => true) true m7 3 [c0_2] = some y3 := by
    have q : DataW.trod enc Try.prog W 0 (fun _ => true) true m7 3 (([Value.string a0_0, Value.int .i64 a0_1, c0_2, c0_3, c0_4].drop 2).take (Try.prog.cellsOf 3)) = some y3 := F10 2 _ rfl
    rw [cells3] at q
    exact q
  obtain ⟨a0_2, e16, rfl, wa0_2⟩ := DataW.trod_int Try.underlying3 z15
  obtain rfl := List.singleton_inj.1 e16
  have z17 : DataW.trod enc Try.prog W 0 (fun _ => true) true m7 22 [c0_3] = some y4 := by
    have q : DataW.trod enc Try.prog W 0 (fun _ => true) true m7 22 (([Value.string a0_0, Value.int .i64 a0_1, Value.int .i64 a0_2, c0_3, c0_4].drop 3).take (Try.prog.cellsOf 22)) = some y4 := F10 3 _ rfl
    rw [cells22] at q
    exact q
  obtain ⟨a0_3, e18, rfl, wa0_3⟩ := DataW.trod_int Try.underlying22 z17
  obtain rfl := List.singleton_inj.1 e18
  have z19 : DataW.trod enc Try.prog W 0 (fun _ => true) true m7 4 [c0_4] = some y5 := by
    have q : DataW.trod enc Try.prog W 0 (fun _ => true) true m7 4 (([Value.string a0_0, Value.int .i64 a0_1, Value.int .i64 a0_2, Value.int .u64 a0_3, c0_4].drop 4).take (Try.prog.cellsOf 4)) = some y5 := F10 4 _ rfl
    rw [cells4] at q
    exact q
  obtain ⟨a0_4, e20, rfl⟩ := DataW.trod_bool Try.underlying4 z19
  obtain rfl := List.singleton_inj.1 e20
  have hw : a0_0.size ≤ 140737488351232 := by
    have z := List.all_eq_true.1 hsz
    have y : ∀ s : ByteArray, s.data.toList.length ∈ DataW.weightsEach Try.prog (#[24].toList ++ Rows.wordsBackSpec.plain.varTypes Try.prog) ([_] ++ []) → s.size ≤ 140737488351232 := fun s hs => by have := of_decide_eq_true (z _ hs); rw [Array.length_toList] at this; exact this
    refine y _ ?_
    all_goals simp [DataW.weightsEach, DataW.weights, Try.underlying3, Try.underlying4, Try.underlying9, Try.underlying22, Try.underlying24]
  clear hA0 hval0 hsz0 hsz
  refine (Hand.WordsBack a0_0 a0_1 a0_2 a0_3 a0_4 W hw wa0_1 wa0_2 wa0_3).mono fun e W' ⟨he, bel⟩ => ?_
  subst he
  exact ⟨_, rfl, _, _, _, [], _, [], hW', trodAll_mk1 (shut_bool Try.underlying4 _), (trodAll_cons_mk (Below.trod laidOut (by kernel_rfl) (of_decide_eq_true (by kernel_rfl)) k0 bel hl0) trodAll_mk0), rfl, bel.frame _, fun h => by cases h⟩
theorem over : Rows.wordsBackRow.holds Try.pinned (OpenSpec.ofChange Rows.wordsBackSpec) :=
  OpenClaim.holds_of_wide 5 Try.f5 rfl rfl rfl rfl rfl rfl rfl ⟨rfl, rfl, rfl, rfl, rfl⟩ rfl rfl rfl rfl rfl (by kernel_rfl) Try.func5 (by kernel_rfl)
    (of_decide_eq_true (by kernel_rfl)) (by unfold Func.isWrapper; first | (rw [if_pos (by decide +kernel)]; kernel_rfl) | (rw [if_neg (by decide +kernel)]; exact ⟨rfl, rfl⟩))
    (fun os started H enc _ => lifted os started H enc)
theorem proved : Rows.WordsBackSaid := over
end Go.Proofs.Ytamicgnpmhbdbaa.wordsBack
namespace Go.Proofs.Ytamicgnpmhbdbaa
/-- The row, under a short name, for the claim. -/
theorem wordsBack_holds : Rows.WordsBackSaid := wordsBack.proved
end Go.Proofs.Ytamicgnpmhbdbaa
