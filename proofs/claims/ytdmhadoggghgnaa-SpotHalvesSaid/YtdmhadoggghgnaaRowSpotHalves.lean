/- The row of SpotHalves: for every input the law returns true, and each argument reads behind the call as it read before. No condition. -/
import Derived.Test.YtdmhadoggghgnaaRows
import Derived.Test.YtdmhadoggghgnaaHandSpotHalves
import Derived.WalkKit
import Derived.ProofKit
import Derived.OpenShut
import Derived.ShutString
import Derived.ChangeOld
import Derived.Below
import Derived.SizedLaws
import Derived.Carry
namespace Go.Proofs.Ytdmhadoggghgnaa.spotHalves
open Go.ChangeShapes Go.WideShapes Go.ChangeAt Go.RowKit
open Go.ChangeMaps (open_string shut_string)
set_option linter.unusedVariables false
set_option linter.unusedSimpArgs false
theorem own : ownKnob Try.prog.godebug = none := by kernel_rfl
theorem laidOut : laidOutB Try.prog = true := by kernel_rfl
theorem list2 {α : Type} {xs : List α} (h : xs.length = 2) : ∃ y0 y1, xs = [y0, y1] := by
  match xs, h with
  | [y0, y1], _ => exact ⟨y0, y1, rfl⟩
theorem list3 {α : Type} {xs : List α} (h : xs.length = 3) : ∃ y0 y1 y2, xs = [y0, y1, y2] := by
  match xs, h with
  | [y0, y1, y2], _ => exact ⟨y0, y1, y2, rfl⟩
theorem list5 {α : Type} {xs : List α} (h : xs.length = 5) : ∃ y0 y1 y2 y3 y4, xs = [y0, y1, y2, y3, y4] := by
  match xs, h with
  | [y0, y1, y2, y3, y4], _ => exact ⟨y0, y1, y2, y3, y4, rfl⟩
theorem list9 {α : Type} {xs : List α} (h : xs.length = 9) : ∃ y0 y1 y2 y3 y4 y5 y6 y7 y8, xs = [y0, y1, y2, y3, y4, y5, y6, y7, y8] := by
  match xs, h with
  | [y0, y1, y2, y3, y4, y5, y6, y7, y8], _ => exact ⟨y0, y1, y2, y3, y4, y5, y6, y7, y8, rfl⟩
theorem cells3 : Try.prog.cellsOf 3 = 1 := by kernel_rfl
theorem cells4 : Try.prog.cellsOf 4 = 1 := by kernel_rfl
theorem cells23 : Try.prog.cellsOf 23 = 3 := by kernel_rfl
theorem cells25 : Try.prog.cellsOf 25 = 2 := by kernel_rfl
theorem cells27 : Try.prog.cellsOf 27 = 9 := by kernel_rfl
set_option maxRecDepth 100000 in
theorem lifted (os : Os) (started : os.Started) (H : Type) (enc : TypeId × Value → H) :
    ReturnsInHanded {} Try.checked os 9 .any (Rows.spotHalvesSpec.pre6 enc Try.prog Try.f9 Rows.spotHalvesRow.domain false) (Rows.spotHalvesSpec.post enc Try.prog Try.f9 false true false false) := by
  refine returnsInHanded_of_change_sized (C := Try.checked) own started (by kernel_rfl) Try.func9
    (ChangeSpec.witness6 (enc := enc) (C := Try.checked) false ⟨#[], #[.agg #[.int .i64 0, .bool false, .int .i64 0, .int .i64 0, .bool false, .int .i64 0, .bool false, .int .i64 0, .int .i64 0]], []⟩ 8 (by kernel_rfl) (by kernel_rfl) (by kernel_rfl) (by kernel_rfl)) ?_
  intro W base args ds gs before hval0 hW hcnd hsz0 _
  have hsz : (DataW.weightsEach Try.prog (Try.f9.params.toList ++ Rows.spotHalvesSpec.plain.varTypes Try.prog) (ds ++ gs)).all (· ≤ reachBytes) = true := hsz0
  have hval : ∀ (j : Nat) t v, Try.f9.params[j]? = some t → args[j]? = some v → Value.okWide Try.prog W .any base t v := hval0
  have hW' := hW
  obtain ⟨p, q, hA0, hV, rfl, hfz, hnd⟩ := hW
  have hA : DataW.TrodAll enc Try.prog W 0 (fun _ => true) true Try.f9.params.toList args.toList ds p := hA0
  rw [Try.params9] at hA hval hsz
  obtain ⟨v0, vs0, d0, ds0, p0, q0, hargs, rfl, rfl, h0, r0⟩ := trodAll_cons hA
  obtain ⟨rfl, rfl, rfl⟩ := trodAll_nil r0
  obtain rfl : args = #[v0] := by cases args; simp_all
  obtain ⟨rfl, rfl⟩ := trodVars_none hV
  have k0 := h0
  have hl0 : ∀ x ∈ p0, x.block < W.heap.size := fun x hx => by simpa using hW'.lt x (by simp [hx])
  obtain ⟨ar0, rfl, hz0⟩ := okWide_struct Try.underlying27 (hval 0 27 v0 rfl rfl)
  have hz0' : ar0.toList.length = 9 := by rw [Array.length_toList, hz0, cells27]
  obtain ⟨c0_0, c0_1, c0_2, c0_3, c0_4, c0_5, c0_6, c0_7, c0_8, hc0⟩ := list9 hz0'
  obtain rfl : ar0 = #[c0_0, c0_1, c0_2, c0_3, c0_4, c0_5, c0_6, c0_7, c0_8] := by rw [← Array.toList_inj]; exact hc0
  clear hc0 hz0 hz0'
  obtain ⟨fu0, hf0⟩ := h0
  have hf0' : DataW.trod enc Try.prog W 0 (fun _ => true) true fu0 27 [c0_0, c0_1, c0_2, c0_3, c0_4, c0_5, c0_6, c0_7, c0_8] = some (d0, p0) := hf0
  clear hf0
  obtain ⟨xs6, m7, -, hx8, -, hl9, F10⟩ := DataW.trod_struct Try.underlying27 hf0'
  obtain ⟨y1, y2, y3, y4, y5, rfl⟩ := list5 hl9
  simp only [Prod.mk.injEq] at hx8
  obtain ⟨rfl, rfl⟩ := hx8
  have z11 : DataW.trod enc Try.prog W 0 (fun _ => true) true m7 23 [c0_0, c0_1, c0_2] = some y1 := by
    have q : DataW.trod enc Try.prog W 0 (fun _ => true) true m7 23 (([c0_0, c0_1, c0_2, c0_3, c0_4, c0_5, c0_6, c0_7, c0_8].drop 0).take (Try.prog.cellsOf 23)) = some y1 := F10 0 _ rfl
    rw [cells23] at q
    exact q
  obtain ⟨xs15, m16, -, hx17, -, hl18, F19⟩ := DataW.trod_struct Try.underlying23 z11
  obtain ⟨y12, y13, y14, rfl⟩ := list3 hl18
  subst hx17
  have z20 : DataW.trod enc Try.prog W 0 (fun _ => true) true m16 3 [c0_0] = some y12 := by
    have q : DataW.trod enc Try.prog W 0 (fun _ => true) true m16 3 (([c0_0, c0_1, c0_2].drop 0).take (Try.prog.cellsOf 3)) = some y12 := F19 0 _ rfl
    rw [cells3] at q
    exact q
  obtain ⟨a0_0_0, e21, rfl, wa0_0_0⟩ := DataW.trod_int Try.underlying3 z20
  obtain rfl := List.singleton_inj.1 e21
  have z22 : DataW.trod enc Try.prog W 0 (fun _ => true) true m16 4 [c0_1] = some y13 := by
    have q : DataW.trod enc Try.prog W 0 (fun _ => true) true m16 4 (([Value.int .i64 a0_0_0, c0_1, c0_2].drop 1).take (Try.prog.cellsOf 4)) = some y13 := F19 1 _ rfl
    rw [cells4] at q
    exact q
  obtain ⟨a0_0_1, e23, rfl⟩ := DataW.trod_bool Try.underlying4 z22
  obtain rfl := List.singleton_inj.1 e23
  have z24 : DataW.trod enc Try.prog W 0 (fun _ => true) true m16 3 [c0_2] = some y14 := by
    have q : DataW.trod enc Try.prog W 0 (fun _ => true) true m16 3 (([Value.int .i64 a0_0_0, Value.bool a0_0_1, c0_2].drop 2).take (Try.prog.cellsOf 3)) = some y14 := F19 2 _ rfl
    rw [cells3] at q
    exact q
  obtain ⟨a0_0_2, e25, rfl, wa0_0_2⟩ := DataW.trod_int Try.underlying3 z24
  obtain rfl := List.singleton_inj.1 e25
  have z26 : DataW.trod enc Try.prog W 0 (fun _ => true) true m7 25 [c0_3, c0_4] = some y2 := by
    have q : DataW.trod enc Try.prog W 0 (fun _ => true) true m7 25 (([Value.int .i64 a0_0_0, Value.bool a0_0_1, Value.int .i64 a0_0_2, c0_3, c0_4, c0_5, c0_6, c0_7, c0_8].drop 3).take (Try.prog.cellsOf 25)) = some y2 := F10 1 _ rfl
    rw [cells25] at q
    exact q
  obtain ⟨xs29, m30, -, hx31, -, hl32, F33⟩ := DataW.trod_struct Try.underlying25 z26
  obtain ⟨y27, y28, rfl⟩ := list2 hl32
  subst hx31
  have z34 : DataW.trod enc Try.prog W 0 (fun _ => true) true m30 3 [c0_3] = some y27 := by
    have q : DataW.trod enc Try.prog W 0 (fun _ => true) true m30 3 (([c0_3, c0_4].drop 0).take (Try.prog.cellsOf 3)) = some y27 := F33 0 _ rfl
    rw [cells3] at q
    exact q
  obtain ⟨a0_1_0, e35, rfl, wa0_1_0⟩ := DataW.trod_int Try.underlying3 z34
  obtain rfl := List.singleton_inj.1 e35
  have z36 : DataW.trod enc Try.prog W 0 (fun _ => true) true m30 4 [c0_4] = some y28 := by
    have q : DataW.trod enc Try.prog W 0 (fun _ => true) true m30 4 (([Value.int .i64 a0_1_0, c0_4].drop 1).take (Try.prog.cellsOf 4)) = some y28 := F33 1 _ rfl
    rw [cells4] at q
    exact q
  obtain ⟨a0_1_1, e37, rfl⟩ := DataW.trod_bool Try.underlying4 z36
  obtain rfl := List.singleton_inj.1 e37
  have z38 : DataW.trod enc Try.prog W 0 (fun _ => true) true m7 25 [c0_5, c0_6] = some y3 := by
    have q : DataW.trod enc Try.prog W 0 (fun _ => true) true m7 25 (([Value.int .i64 a0_0_0, Value.bool a0_0_1, Value.int .i64 a0_0_2, Value.int .i64 a0_1_0, Value.bool a0_1_1, c0_5, c0_6, c0_7, c0_8].drop 5).take (Try.prog.cellsOf 25)) = some y3 := F10 2 _ rfl
    rw [cells25] at q
    exact q
  obtain ⟨xs41, m42, -, hx43, -, hl44, F45⟩ := DataW.trod_struct Try.underlying25 z38
  obtain ⟨y39, y40, rfl⟩ := list2 hl44
  subst hx43
  have z46 : DataW.trod enc Try.prog W 0 (fun _ => true) true m42 3 [c0_5] = some y39 := by
    have q : DataW.trod enc Try.prog W 0 (fun _ => true) true m42 3 (([c0_5, c0_6].drop 0).take (Try.prog.cellsOf 3)) = some y39 := F45 0 _ rfl
    rw [cells3] at q
    exact q
  obtain ⟨a0_2_0, e47, rfl, wa0_2_0⟩ := DataW.trod_int Try.underlying3 z46
  obtain rfl := List.singleton_inj.1 e47
  have z48 : DataW.trod enc Try.prog W 0 (fun _ => true) true m42 4 [c0_6] = some y40 := by
    have q : DataW.trod enc Try.prog W 0 (fun _ => true) true m42 4 (([Value.int .i64 a0_2_0, c0_6].drop 1).take (Try.prog.cellsOf 4)) = some y40 := F45 1 _ rfl
    rw [cells4] at q
    exact q
  obtain ⟨a0_2_1, e49, rfl⟩ := DataW.trod_bool Try.underlying4 z48
  obtain rfl := List.singleton_inj.1 e49
  have z50 : DataW.trod enc Try.prog W 0 (fun _ => true) true m7 3 [c0_7] = some y4 := by
    have q : DataW.trod enc Try.prog W 0 (fun _ => true) true m7 3 (([Value.int .i64 a0_0_0, Value.bool a0_0_1, Value.int .i64 a0_0_2, Value.int .i64 a0_1_0, Value.bool a0_1_1, Value.int .i64 a0_2_0, Value.bool a0_2_1, c0_7, c0_8].drop 7).take (Try.prog.cellsOf 3)) = some y4 := F10 3 _ rfl
    rw [cells3] at q
    exact q
  obtain ⟨a0_3, e51, rfl, wa0_3⟩ := DataW.trod_int Try.underlying3 z50
  obtain rfl := List.singleton_inj.1 e51
  have z52 : DataW.trod enc Try.prog W 0 (fun _ => true) true m7 3 [c0_8] = some y5 := by
    have q : DataW.trod enc Try.prog W 0 (fun _ => true) true m7 3 (([Value.int .i64 a0_0_0, Value.bool a0_0_1, Value.int .i64 a0_0_2, Value.int .i64 a0_1_0, Value.bool a0_1_1, Value.int .i64 a0_2_0, Value.bool a0_2_1, Value.int .i64 a0_3, c0_8].drop 8).take (Try.prog.cellsOf 3)) = some y5 := F10 4 _ rfl
    rw [cells3] at q
    exact q
  obtain ⟨a0_4, e53, rfl, wa0_4⟩ := DataW.trod_int Try.underlying3 z52
  obtain rfl := List.singleton_inj.1 e53
  clear hA0 hval0 hsz0 hsz
  refine (Hand.SpotHalves a0_0_0 a0_0_1 a0_0_2 a0_1_0 a0_1_1 a0_2_0 a0_2_1 a0_3 a0_4 W wa0_0_0 wa0_0_2 wa0_1_0 wa0_2_0 wa0_3 wa0_4).mono fun e W' ⟨he, bel⟩ => ?_
  subst he
  exact ⟨_, rfl, _, _, _, [], _, [], hW', trodAll_mk1 (shut_bool Try.underlying4 _), (trodAll_cons_mk (Below.trod laidOut (by kernel_rfl) (of_decide_eq_true (by kernel_rfl)) k0 bel hl0) trodAll_mk0), rfl, bel.frame _, fun h => by cases h⟩
theorem over : Rows.spotHalvesRow.holds Try.pinned (OpenSpec.ofChange Rows.spotHalvesSpec) :=
  OpenClaim.holds_of_wide 9 Try.f9 rfl rfl rfl rfl rfl rfl rfl ⟨rfl, rfl, rfl, rfl, rfl⟩ rfl rfl rfl rfl rfl (by kernel_rfl) Try.func9 (by kernel_rfl)
    (of_decide_eq_true (by kernel_rfl)) (by unfold Func.isWrapper; first | (rw [if_pos (by decide +kernel)]; kernel_rfl) | (rw [if_neg (by decide +kernel)]; exact ⟨rfl, rfl⟩))
    (fun os started H enc _ => lifted os started H enc)
theorem proved : Rows.SpotHalvesSaid := over
end Go.Proofs.Ytdmhadoggghgnaa.spotHalves
namespace Go.Proofs.Ytdmhadoggghgnaa
/-- The row, under a short name, for the claim. -/
theorem spotHalves_holds : Rows.SpotHalvesSaid := spotHalves.proved
end Go.Proofs.Ytdmhadoggghgnaa
