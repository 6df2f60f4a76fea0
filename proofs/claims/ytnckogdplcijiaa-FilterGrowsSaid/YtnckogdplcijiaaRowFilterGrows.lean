/- The row of FilterGrows: for every input the law returns true, and each argument reads behind the call as it read before. No condition. -/
import Derived.Test.YtnckogdplcijiaaRows
import Derived.Test.YtnckogdplcijiaaHandFilterGrows
import Derived.WalkKit
import Derived.ProofKit
import Derived.OpenShut
import Derived.ShutString
import Derived.ChangeOld
import Derived.Below
import Derived.SizedLaws
import Derived.Carry
import Derived.Test.YtnckogdplcijiaaRowSl
namespace Go.Proofs.Ytnckogdplcijiaa.filterGrows
open Go.ChangeShapes Go.WideShapes Go.ChangeAt Go.RowKit
open Go.ChangeMaps (open_string shut_string)
set_option linter.unusedVariables false
set_option linter.unusedSimpArgs false
theorem own : ownKnob Try.prog.godebug = none := by kernel_rfl
theorem laidOut : laidOutB Try.prog = true := by kernel_rfl
theorem list11 {α : Type} {xs : List α} (h : xs.length = 11) : ∃ y0 y1 y2 y3 y4 y5 y6 y7 y8 y9 y10, xs = [y0, y1, y2, y3, y4, y5, y6, y7, y8, y9, y10] := by
  match xs, h with
  | [y0, y1, y2, y3, y4, y5, y6, y7, y8, y9, y10], _ => exact ⟨y0, y1, y2, y3, y4, y5, y6, y7, y8, y9, y10, rfl⟩
theorem cells4 : Try.prog.cellsOf 4 = 1 := by kernel_rfl
theorem cells9 : Try.prog.cellsOf 9 = 1 := by kernel_rfl
theorem cells22 : Try.prog.cellsOf 22 = 1 := by kernel_rfl
theorem cells23 : Try.prog.cellsOf 23 = 1 := by kernel_rfl
theorem cells25 : Try.prog.cellsOf 25 = 11 := by kernel_rfl
set_option maxRecDepth 100000 in
theorem lifted (os : Os) (started : os.Started) (H : Type) (enc : TypeId × Value → H) :
    ReturnsInHanded {} Try.checked os 4 .any (Rows.filterGrowsSpec.pre6 enc Try.prog Try.f4 Rows.filterGrowsRow.domain false) (Rows.filterGrowsSpec.post enc Try.prog Try.f4 false true false false) := by
  refine returnsInHanded_of_change_sized (C := Try.checked) own started (by kernel_rfl) Try.func4
    (ChangeSpec.witness6 (enc := enc) (C := Try.checked) false ⟨#[], #[.agg #[.string ByteArray.empty, .bool false, .bool false, .bool false, .bool false, .bool false, .bool false, .slice none 0 0, .slice none 0 0, .bool false, .slice none 0 0], .string ByteArray.empty, .string ByteArray.empty], []⟩ 8 (by kernel_rfl) (by kernel_rfl) (by kernel_rfl) (by kernel_rfl)) ?_
  intro W base args ds gs before hval0 hW hcnd hsz0 _
  have hsz : (DataW.weightsEach Try.prog (Try.f4.params.toList ++ Rows.filterGrowsSpec.plain.varTypes Try.prog) (ds ++ gs)).all (· ≤ reachBytes) = true := hsz0
  have hval : ∀ (j : Nat) t v, Try.f4.params[j]? = some t → args[j]? = some v → Value.okWide Try.prog W .any base t v := hval0
  have hW' := hW
  obtain ⟨p, q, hA0, hV, rfl, hfz, hnd⟩ := hW
  have hA : DataW.TrodAll enc Try.prog W 0 (fun _ => true) true Try.f4.params.toList args.toList ds p := hA0
  rw [Try.params4] at hA hval hsz
  obtain ⟨v0, vs0, d0, ds0, p0, q0, hargs, rfl, rfl, h0, r0⟩ := trodAll_cons hA
  obtain ⟨v1, vs1, d1, ds1, p1, q1, rfl, rfl, rfl, h1, r1⟩ := trodAll_cons r0
  obtain ⟨v2, vs2, d2, ds2, p2, q2, rfl, rfl, rfl, h2, r2⟩ := trodAll_cons r1
  obtain ⟨rfl, rfl, rfl⟩ := trodAll_nil r2
  obtain rfl : args = #[v0, v1, v2] := by cases args; simp_all
  obtain ⟨rfl, rfl⟩ := trodVars_none hV
  have k0 := h0
  have k1 := h1
  have k2 := h2
  have hl0 : ∀ x ∈ p0, x.block < W.heap.size := fun x hx => by simpa using hW'.lt x (by simp [hx])
  obtain ⟨ar0, rfl, hz0⟩ := okWide_struct Try.underlying25 (hval 0 25 v0 rfl rfl)
  have hz0' : ar0.toList.length = 11 := by rw [Array.length_toList, hz0, cells25]
  obtain ⟨c0_0, c0_1, c0_2, c0_3, c0_4, c0_5, c0_6, c0_7, c0_8, c0_9, c0_10, hc0⟩ := list11 hz0'
  obtain rfl : ar0 = #[c0_0, c0_1, c0_2, c0_3, c0_4, c0_5, c0_6, c0_7, c0_8, c0_9, c0_10] := by rw [← Array.toList_inj]; exact hc0
  clear hc0 hz0 hz0'
  obtain ⟨fu0, hf0⟩ := h0
  have hf0' : DataW.trod enc Try.prog W 0 (fun _ => true) true fu0 25 [c0_0, c0_1, c0_2, c0_3, c0_4, c0_5, c0_6, c0_7, c0_8, c0_9, c0_10] = some (d0, p0) := hf0
  clear hf0
  obtain ⟨xs12, m13, -, hx14, -, hl15, F16⟩ := DataW.trod_struct Try.underlying25 hf0'
  obtain ⟨y1, y2, y3, y4, y5, y6, y7, y8, y9, y10, y11, rfl⟩ := list11 hl15
  simp only [Prod.mk.injEq] at hx14
  obtain ⟨rfl, rfl⟩ := hx14
  have z17 : DataW.trod enc Try.prog W 0 (fun _ => true) true m13 9 [c0_0] = some y1 := by
    have q : DataW.trod enc Try.prog W 0 (fun _ => true) true m13 9 (([c0_0, c0_1, c0_2, c0_3, c0_4, c0_5, c0_6, c0_7, c0_8, c0_9, c0_10].drop 0).take (Try.prog.cellsOf 9)) = some y1 := F16 0 _ rfl
    rw [cells9] at q
    exact q
  obtain ⟨a0_0, e18, rfl, -⟩ := DataW.trod_string Try.underlying9 z17
  obtain rfl := List.singleton_inj.1 e18
  have z19 : DataW.trod enc Try.prog W 0 (fun _ => true) true m13 4 [c0_1] = some y2 := by
    have q : DataW.trod enc Try.prog W 0 (fun _ => true) true m13 4 (([Value.string a0_0, c0_1, c0_2, c0_3, c0_4, c0_5, c0_6, c0_7, c0_8, c0_9, c0_10].drop 1).take (Try.prog.cellsOf 4)) = some y2 := F16 1 _ rfl
    rw [cells4] at q
    exact q
  obtain ⟨a0_1, e20, rfl⟩ := DataW.trod_bool Try.underlying4 z19
  obtain rfl := List.singleton_inj.1 e20
  have z21 : DataW.trod enc Try.prog W 0 (fun _ => true) true m13 4 [c0_2] = some y3 := by
    have q : DataW.trod enc Try.prog W 0 (fun _ => true) true m13 4 (([Value.string a0_0, Value.bool a0_1, c0_2, c0_3, c0_4, c0_5, c0_6, c0_7, c0_8, c0_9, c0_10].drop 2).take (Try.prog.cellsOf 4)) = some y3 := F16 2 _ rfl
    rw [cells4] at q
    exact q
  obtain ⟨a0_2, e22, rfl⟩ := DataW.trod_bool Try.underlying4 z21
  obtain rfl := List.singleton_inj.1 e22
  have z23 : DataW.trod enc Try.prog W 0 (fun _ => true) true m13 4 [c0_3] = some y4 := by
    have q : DataW.trod enc Try.prog W 0 (fun _ => true) true m13 4 (([Value.string a0_0, Value.bool a0_1, Value.bool a0_2, c0_3, c0_4, c0_5, c0_6, c0_7, c0_8, c0_9, c0_10].drop 3).take (Try.prog.cellsOf 4)) = some y4 := F16 3 _ rfl
    rw [cells4] at q
    exact q
  obtain ⟨a0_3, e24, rfl⟩ := DataW.trod_bool Try.underlying4 z23
  obtain rfl := List.singleton_inj.1 e24
  have z25 : DataW.trod enc Try.prog W 0 (fun _ => true) true m13 4 [c0_4] = some y5 := by
    have q : DataW.trod enc Try.prog W 0 (fun _ => true) true m13 4 (([Value.string a0_0, Value.bool a0_1, Value.bool a0_2, Value.bool a0_3, c0_4, c0_5, c0_6, c0_7, c0_8, c0_9, c0_10].drop 4).take (Try.prog.cellsOf 4)) = some y5 := F16 4 _ rfl
    rw [cells4] at q
    exact q
  obtain ⟨a0_4, e26, rfl⟩ := DataW.trod_bool Try.underlying4 z25
  obtain rfl := List.singleton_inj.1 e26
  have z27 : DataW.trod enc Try.prog W 0 (fun _ => true) true m13 4 [c0_5] = some y6 := by
    have q : DataW.trod enc Try.prog W 0 (fun _ => true) true m13 4 (([Value.string a0_0, Value.bool a0_1, Value.bool a0_2, Value.bool a0_3, Value.bool a0_4, c0_5, c0_6, c0_7, c0_8, c0_9, c0_10].drop 5).take (Try.prog.cellsOf 4)) = some y6 := F16 5 _ rfl
    rw [cells4] at q
    exact q
  obtain ⟨a0_5, e28, rfl⟩ := DataW.trod_bool Try.underlying4 z27
  obtain rfl := List.singleton_inj.1 e28
  have z29 : DataW.trod enc Try.prog W 0 (fun _ => true) true m13 4 [c0_6] = some y7 := by
    have q : DataW.trod enc Try.prog W 0 (fun _ => true) true m13 4 (([Value.string a0_0, Value.bool a0_1, Value.bool a0_2, Value.bool a0_3, Value.bool a0_4, Value.bool a0_5, c0_6, c0_7, c0_8, c0_9, c0_10].drop 6).take (Try.prog.cellsOf 4)) = some y7 := F16 6 _ rfl
    rw [cells4] at q
    exact q
  obtain ⟨a0_6, e30, rfl⟩ := DataW.trod_bool Try.underlying4 z29
  obtain rfl := List.singleton_inj.1 e30
  have z31 : DataW.trod enc Try.prog W 0 (fun _ => true) true m13 22 [c0_7] = some y8 := by
    have q : DataW.trod enc Try.prog W 0 (fun _ => true) true m13 22 (([Value.string a0_0, Value.bool a0_1, Value.bool a0_2, Value.bool a0_3, Value.bool a0_4, Value.bool a0_5, Value.bool a0_6, c0_7, c0_8, c0_9, c0_10].drop 7).take (Try.prog.cellsOf 22)) = some y8 := F16 7 _ rfl
    rw [cells22] at q
    exact q
  obtain ⟨a0_7_A, a0_7_n, a0_7_c, rfl⟩ := RowSl.isSlice Try.underlying22 z31
  obtain ⟨a0_7, ena0_7, lea0_7, mxa0_7, gda0_7, rda0_7⟩ := RowSl.strs Try.underlying22 Try.underlying9 (by kernel_rfl) z31
  subst ena0_7
  have z32 : DataW.trod enc Try.prog W 0 (fun _ => true) true m13 22 [c0_8] = some y9 := by
    have q : DataW.trod enc Try.prog W 0 (fun _ => true) true m13 22 (([Value.string a0_0, Value.bool a0_1, Value.bool a0_2, Value.bool a0_3, Value.bool a0_4, Value.bool a0_5, Value.bool a0_6, Value.slice a0_7_A a0_7.length a0_7_c, c0_8, c0_9, c0_10].drop 8).take (Try.prog.cellsOf 22)) = some y9 := F16 8 _ rfl
    rw [cells22] at q
    exact q
  obtain ⟨a0_8_A, a0_8_n, a0_8_c, rfl⟩ := RowSl.isSlice Try.underlying22 z32
  obtain ⟨a0_8, ena0_8, lea0_8, mxa0_8, gda0_8, rda0_8⟩ := RowSl.strs Try.underlying22 Try.underlying9 (by kernel_rfl) z32
  subst ena0_8
  have z33 : DataW.trod enc Try.prog W 0 (fun _ => true) true m13 4 [c0_9] = some y10 := by
    have q : DataW.trod enc Try.prog W 0 (fun _ => true) true m13 4 (([Value.string a0_0, Value.bool a0_1, Value.bool a0_2, Value.bool a0_3, Value.bool a0_4, Value.bool a0_5, Value.bool a0_6, Value.slice a0_7_A a0_7.length a0_7_c, Value.slice a0_8_A a0_8.length a0_8_c, c0_9, c0_10].drop 9).take (Try.prog.cellsOf 4)) = some y10 := F16 9 _ rfl
    rw [cells4] at q
    exact q
  obtain ⟨a0_9, e34, rfl⟩ := DataW.trod_bool Try.underlying4 z33
  obtain rfl := List.singleton_inj.1 e34
  have z35 : DataW.trod enc Try.prog W 0 (fun _ => true) true m13 23 [c0_10] = some y11 := by
    have q : DataW.trod enc Try.prog W 0 (fun _ => true) true m13 23 (([Value.string a0_0, Value.bool a0_1, Value.bool a0_2, Value.bool a0_3, Value.bool a0_4, Value.bool a0_5, Value.bool a0_6, Value.slice a0_7_A a0_7.length a0_7_c, Value.slice a0_8_A a0_8.length a0_8_c, Value.bool a0_9, c0_10].drop 10).take (Try.prog.cellsOf 23)) = some y11 := F16 10 _ rfl
    rw [cells23] at q
    exact q
  obtain ⟨a0_10_A, a0_10_n, a0_10_c, rfl⟩ := RowSl.isSlice Try.underlying23 z35
  obtain ⟨a0_10, ena0_10, lea0_10, mxa0_10, gda0_10, rda0_10⟩ := RowSl.ints Try.underlying23 Try.underlying3 (by kernel_rfl) z35
  subst ena0_10
  obtain ⟨a1, rfl, rfl, rfl, -⟩ := open_string Try.underlying9 (hval 1 9 v1 rfl rfl) h1
  obtain ⟨a2, rfl, rfl, rfl, -⟩ := open_string Try.underlying9 (hval 2 9 v2 rfl rfl) h2
  have hw : a0_0.size ≤ 140737488351232 ∧ a1.size ≤ 140737488351232 ∧ a2.size ≤ 140737488351232 := by
    have z := List.all_eq_true.1 hsz
    have y : ∀ s : ByteArray, s.data.toList.length ∈ DataW.weightsEach Try.prog (#[25, 9, 9].toList ++ Rows.filterGrowsSpec.plain.varTypes Try.prog) ([_, _, _] ++ []) → s.size ≤ 140737488351232 := fun s hs => by have := of_decide_eq_true (z _ hs); rw [Array.length_toList] at this; exact this
    refine ⟨y _ ?_, y _ ?_, y _ ?_⟩
    all_goals simp [DataW.weightsEach, DataW.weights, Try.underlying3, Try.underlying4, Try.underlying9, Try.underlying22, Try.underlying23, Try.underlying25]
  clear hA0 hval0 hsz0 hsz
  refine (Hand.FilterGrows ⟨a0_0, a0_1, a0_2, a0_3, a0_4, a0_5, a0_6, a0_7, a0_8, a0_9, a0_10⟩ ⟨a0_7_A, a0_7_c, a0_8_A, a0_8_c, a0_10_A, a0_10_c⟩ a1 a2 W ⟨rda0_7, rda0_8, rda0_10, lea0_7, lea0_8, lea0_10⟩ hw.2.1 hw.2.2).mono fun e W' ⟨he, bel⟩ => ?_
  subst he
  exact ⟨_, rfl, _, _, _, [], _, [], hW', trodAll_mk1 (shut_bool Try.underlying4 _), (trodAll_cons_mk (Below.trod laidOut (by kernel_rfl) (of_decide_eq_true (by kernel_rfl)) k0 bel hl0) (trodAll_cons_mk (shut_string Try.underlying9 (by have := hw.2.1; unfold maxLen; omega)) (trodAll_cons_mk (shut_string Try.underlying9 (by have := hw.2.2; unfold maxLen; omega)) trodAll_mk0))), rfl, bel.frame _, fun h => by cases h⟩
theorem over : Rows.filterGrowsRow.holds Try.pinned (OpenSpec.ofChange Rows.filterGrowsSpec) :=
  OpenClaim.holds_of_wide 4 Try.f4 rfl rfl rfl rfl rfl rfl rfl ⟨rfl, rfl, rfl, rfl, rfl⟩ rfl rfl rfl rfl rfl (by kernel_rfl) Try.func4 (by kernel_rfl)
    (of_decide_eq_true (by kernel_rfl)) (by unfold Func.isWrapper; first | (rw [if_pos (by decide +kernel)]; kernel_rfl) | (rw [if_neg (by decide +kernel)]; exact ⟨rfl, rfl⟩))
    (fun os started H enc _ => lifted os started H enc)
theorem proved : Rows.FilterGrowsSaid := over
end Go.Proofs.Ytnckogdplcijiaa.filterGrows
namespace Go.Proofs.Ytnckogdplcijiaa
/-- The row, under a short name, for the claim. -/
theorem filterGrows_holds : Rows.FilterGrowsSaid := filterGrows.proved
end Go.Proofs.Ytnckogdplcijiaa
