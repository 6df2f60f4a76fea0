/- The row of ControlBytes: for every input the law returns true, and each argument reads behind the call as it read before. No condition. -/
import Derived.Test.YtkgbhlcbjflnlaaRows
import Derived.Test.YtkgbhlcbjflnlaaZG52
import Derived.WalkKit
import Derived.ProofKit
import Derived.OpenShut
import Derived.ShutString
import Derived.ChangeOld
import Derived.Below
import Derived.SizedLaws
import Derived.Carry
import Derived.Deep.CondSized
import Derived.Test.YtkgbhlcbjflnlaaZRowSl
namespace Go.Proofs.Ytkgbhlcbjflnlaa.controlBytes
open Go.ChangeShapes Go.WideShapes Go.ChangeAt Go.RowKit
open Go.ChangeMaps (open_string shut_string)
set_option linter.unusedVariables false
set_option linter.unusedSimpArgs false
theorem own : ownKnob Try.prog.godebug = none := by kernel_rfl
theorem laidOut : laidOutB Try.prog = true := by kernel_rfl
theorem list4 {α : Type} {xs : List α} (h : xs.length = 4) : ∃ y0 y1 y2 y3, xs = [y0, y1, y2, y3] := by
  match xs, h with
  | [y0, y1, y2, y3], _ => exact ⟨y0, y1, y2, y3, rfl⟩
theorem list8 {α : Type} {xs : List α} (h : xs.length = 8) : ∃ y0 y1 y2 y3 y4 y5 y6 y7, xs = [y0, y1, y2, y3, y4, y5, y6, y7] := by
  match xs, h with
  | [y0, y1, y2, y3, y4, y5, y6, y7], _ => exact ⟨y0, y1, y2, y3, y4, y5, y6, y7, rfl⟩
theorem list11 {α : Type} {xs : List α} (h : xs.length = 11) : ∃ y0 y1 y2 y3 y4 y5 y6 y7 y8 y9 y10, xs = [y0, y1, y2, y3, y4, y5, y6, y7, y8, y9, y10] := by
  match xs, h with
  | [y0, y1, y2, y3, y4, y5, y6, y7, y8, y9, y10], _ => exact ⟨y0, y1, y2, y3, y4, y5, y6, y7, y8, y9, y10, rfl⟩
theorem cells3 : Try.prog.cellsOf 3 = 1 := by kernel_rfl
theorem cells4 : Try.prog.cellsOf 4 = 1 := by kernel_rfl
theorem cells9 : Try.prog.cellsOf 9 = 1 := by kernel_rfl
theorem cells22 : Try.prog.cellsOf 22 = 1 := by kernel_rfl
theorem cells23 : Try.prog.cellsOf 23 = 1 := by kernel_rfl
theorem cells27 : Try.prog.cellsOf 27 = 4 := by kernel_rfl
theorem cells37 : Try.prog.cellsOf 37 = 11 := by kernel_rfl
set_option maxRecDepth 100000 in
theorem lifted (os : Os) (started : os.Started) (H : Type) (enc : TypeId × Value → H) (F : Stop.Interp) :
    ReturnsInHanded {} Try.checked os 8 .any ((Rows.OpenSpec.upto Rows.controlBytesSpec).pre6 enc Try.prog Try.f8 Rows.controlBytesUptoRow.domain false) (((Rows.OpenSpec.upto Rows.controlBytesSpec).at F).post enc Try.prog Try.f8 false true false false) := by
  refine returnsInHanded_of_cond_sized (C := Try.checked) (s := Rows.OpenSpec.upto Rows.controlBytesSpec) (k := Rows.uptoSmall) rfl own started (by kernel_rfl) Try.func8
    (OpenSpec.witness (enc := enc) (C := Try.checked) (s := Rows.OpenSpec.upto Rows.controlBytesSpec) (k := Rows.uptoSmall) rfl false ⟨#[], #[.agg #[.int .i64 0, .int .i64 0, .int .i64 0, .bool false, .slice none 0 0, .slice none 0 0, .string ByteArray.empty, .int .i64 0, .slice none 0 0, .string ByteArray.empty, .int .i64 0]], []⟩ 8 (by kernel_rfl) (by kernel_rfl) (by kernel_rfl) rfl (by kernel_rfl) (by kernel_rfl)) ?_
  intro W base args ds gs before hval0 hW hcnd hkk hsz0 _
  have hsz : (DataW.weightsEach Try.prog (Try.f8.params.toList ++ Rows.controlBytesSpec.plain.varTypes Try.prog) (ds ++ gs)).all (· ≤ reachBytes) = true := hsz0
  have hval : ∀ (j : Nat) t v, Try.f8.params[j]? = some t → args[j]? = some v → Value.okWide Try.prog W .any base t v := hval0
  have hW' := hW
  obtain ⟨p, q, hA0, hV, rfl, hfz, hnd⟩ := hW
  have hA : DataW.TrodAll enc Try.prog W 0 (fun _ => true) true Try.f8.params.toList args.toList ds p := hA0
  rw [Try.params8] at hA hval hsz
  obtain ⟨v0, vs0, d0, ds0, p0, q0, hargs, rfl, rfl, h0, r0⟩ := trodAll_cons hA
  obtain ⟨rfl, rfl, rfl⟩ := trodAll_nil r0
  obtain rfl : args = #[v0] := by cases args; simp_all
  obtain ⟨rfl, rfl⟩ := trodVars_none hV
  have k0 := h0
  have hl0 : ∀ x ∈ p0, x.block < W.heap.size := fun x hx => by simpa using hW'.lt x (by simp [hx])
  obtain ⟨ar0, rfl, hz0⟩ := okWide_struct Try.underlying37 (hval 0 37 v0 rfl rfl)
  have hz0' : ar0.toList.length = 11 := by rw [Array.length_toList, hz0, cells37]
  obtain ⟨c0_0, c0_1, c0_2, c0_3, c0_4, c0_5, c0_6, c0_7, c0_8, c0_9, c0_10, hc0⟩ := list11 hz0'
  obtain rfl : ar0 = #[c0_0, c0_1, c0_2, c0_3, c0_4, c0_5, c0_6, c0_7, c0_8, c0_9, c0_10] := by rw [← Array.toList_inj]; exact hc0
  clear hc0 hz0 hz0'
  obtain ⟨fu0, hf0⟩ := h0
  have hf0' : DataW.trod enc Try.prog W 0 (fun _ => true) true fu0 37 [c0_0, c0_1, c0_2, c0_3, c0_4, c0_5, c0_6, c0_7, c0_8, c0_9, c0_10] = some (d0, p0) := hf0
  clear hf0
  obtain ⟨xs9, m10, -, hx11, -, hl12, F13⟩ := DataW.trod_struct Try.underlying37 hf0'
  obtain ⟨y1, y2, y3, y4, y5, y6, y7, y8, rfl⟩ := list8 hl12
  simp only [Prod.mk.injEq] at hx11
  obtain ⟨rfl, rfl⟩ := hx11
  have z14 : DataW.trod enc Try.prog W 0 (fun _ => true) true m10 3 [c0_0] = some y1 := by
    have q : DataW.trod enc Try.prog W 0 (fun _ => true) true m10 3 (([c0_0, c0_1, c0_2, c0_3, c0_4, c0_5, c0_6, c0_7, c0_8, c0_9, c0_10].drop 0).take (Try.prog.cellsOf 3)) = some y1 := F13 0 _ rfl
    rw [cells3] at q
    exact q
  obtain ⟨a0_0, e15, rfl, wa0_0⟩ := DataW.trod_int Try.underlying3 z14
  obtain rfl := List.singleton_inj.1 e15
  have z16 : DataW.trod enc Try.prog W 0 (fun _ => true) true m10 3 [c0_1] = some y2 := by
    have q : DataW.trod enc Try.prog W 0 (fun _ => true) true m10 3 (([Value.int .i64 a0_0, c0_1, c0_2, c0_3, c0_4, c0_5, c0_6, c0_7, c0_8, c0_9, c0_10].drop 1).take (Try.prog.cellsOf 3)) = some y2 := F13 1 _ rfl
    rw [cells3] at q
    exact q
  obtain ⟨a0_1, e17, rfl, wa0_1⟩ := DataW.trod_int Try.underlying3 z16
  obtain rfl := List.singleton_inj.1 e17
  have z18 : DataW.trod enc Try.prog W 0 (fun _ => true) true m10 3 [c0_2] = some y3 := by
    have q : DataW.trod enc Try.prog W 0 (fun _ => true) true m10 3 (([Value.int .i64 a0_0, Value.int .i64 a0_1, c0_2, c0_3, c0_4, c0_5, c0_6, c0_7, c0_8, c0_9, c0_10].drop 2).take (Try.prog.cellsOf 3)) = some y3 := F13 2 _ rfl
    rw [cells3] at q
    exact q
  obtain ⟨a0_2, e19, rfl, wa0_2⟩ := DataW.trod_int Try.underlying3 z18
  obtain rfl := List.singleton_inj.1 e19
  have z20 : DataW.trod enc Try.prog W 0 (fun _ => true) true m10 4 [c0_3] = some y4 := by
    have q : DataW.trod enc Try.prog W 0 (fun _ => true) true m10 4 (([Value.int .i64 a0_0, Value.int .i64 a0_1, Value.int .i64 a0_2, c0_3, c0_4, c0_5, c0_6, c0_7, c0_8, c0_9, c0_10].drop 3).take (Try.prog.cellsOf 4)) = some y4 := F13 3 _ rfl
    rw [cells4] at q
    exact q
  obtain ⟨a0_3, e21, rfl⟩ := DataW.trod_bool Try.underlying4 z20
  obtain rfl := List.singleton_inj.1 e21
  have z22 : DataW.trod enc Try.prog W 0 (fun _ => true) true m10 22 [c0_4] = some y5 := by
    have q : DataW.trod enc Try.prog W 0 (fun _ => true) true m10 22 (([Value.int .i64 a0_0, Value.int .i64 a0_1, Value.int .i64 a0_2, Value.bool a0_3, c0_4, c0_5, c0_6, c0_7, c0_8, c0_9, c0_10].drop 4).take (Try.prog.cellsOf 22)) = some y5 := F13 4 _ rfl
    rw [cells22] at q
    exact q
  obtain ⟨a0_4_A, a0_4_n, a0_4_c, rfl⟩ := RowSl.isSlice Try.underlying22 z22
  obtain ⟨a0_4, ena0_4, lea0_4, mxa0_4, gda0_4, rda0_4, bka0_4⟩ := RowSl.strsB Try.underlying22 Try.underlying9 (by kernel_rfl) z22
  subst ena0_4
  have z23 : DataW.trod enc Try.prog W 0 (fun _ => true) true m10 22 [c0_5] = some y6 := by
    have q : DataW.trod enc Try.prog W 0 (fun _ => true) true m10 22 (([Value.int .i64 a0_0, Value.int .i64 a0_1, Value.int .i64 a0_2, Value.bool a0_3, Value.slice a0_4_A a0_4.length a0_4_c, c0_5, c0_6, c0_7, c0_8, c0_9, c0_10].drop 5).take (Try.prog.cellsOf 22)) = some y6 := F13 5 _ rfl
    rw [cells22] at q
    exact q
  obtain ⟨a0_5_A, a0_5_n, a0_5_c, rfl⟩ := RowSl.isSlice Try.underlying22 z23
  obtain ⟨a0_5, ena0_5, lea0_5, mxa0_5, gda0_5, rda0_5, bka0_5⟩ := RowSl.strsB Try.underlying22 Try.underlying9 (by kernel_rfl) z23
  subst ena0_5
  have z24 : DataW.trod enc Try.prog W 0 (fun _ => true) true m10 9 [c0_6] = some y7 := by
    have q : DataW.trod enc Try.prog W 0 (fun _ => true) true m10 9 (([Value.int .i64 a0_0, Value.int .i64 a0_1, Value.int .i64 a0_2, Value.bool a0_3, Value.slice a0_4_A a0_4.length a0_4_c, Value.slice a0_5_A a0_5.length a0_5_c, c0_6, c0_7, c0_8, c0_9, c0_10].drop 6).take (Try.prog.cellsOf 9)) = some y7 := F13 6 _ rfl
    rw [cells9] at q
    exact q
  obtain ⟨a0_6, e25, rfl, -⟩ := DataW.trod_string Try.underlying9 z24
  obtain rfl := List.singleton_inj.1 e25
  have z26 : DataW.trod enc Try.prog W 0 (fun _ => true) true m10 27 [c0_7, c0_8, c0_9, c0_10] = some y8 := by
    have q : DataW.trod enc Try.prog W 0 (fun _ => true) true m10 27 (([Value.int .i64 a0_0, Value.int .i64 a0_1, Value.int .i64 a0_2, Value.bool a0_3, Value.slice a0_4_A a0_4.length a0_4_c, Value.slice a0_5_A a0_5.length a0_5_c, Value.string a0_6, c0_7, c0_8, c0_9, c0_10].drop 7).take (Try.prog.cellsOf 27)) = some y8 := F13 7 _ rfl
    rw [cells27] at q
    exact q
  obtain ⟨xs31, m32, -, hx33, -, hl34, F35⟩ := DataW.trod_struct Try.underlying27 z26
  obtain ⟨y27, y28, y29, y30, rfl⟩ := list4 hl34
  subst hx33
  have z36 : DataW.trod enc Try.prog W 0 (fun _ => true) true m32 3 [c0_7] = some y27 := by
    have q : DataW.trod enc Try.prog W 0 (fun _ => true) true m32 3 (([c0_7, c0_8, c0_9, c0_10].drop 0).take (Try.prog.cellsOf 3)) = some y27 := F35 0 _ rfl
    rw [cells3] at q
    exact q
  obtain ⟨a0_7_0, e37, rfl, wa0_7_0⟩ := DataW.trod_int Try.underlying3 z36
  obtain rfl := List.singleton_inj.1 e37
  have z38 : DataW.trod enc Try.prog W 0 (fun _ => true) true m32 23 [c0_8] = some y28 := by
    have q : DataW.trod enc Try.prog W 0 (fun _ => true) true m32 23 (([Value.int .i64 a0_7_0, c0_8, c0_9, c0_10].drop 1).take (Try.prog.cellsOf 23)) = some y28 := F35 1 _ rfl
    rw [cells23] at q
    exact q
  obtain ⟨a0_7_1_A, a0_7_1_n, a0_7_1_c, rfl⟩ := RowSl.isSlice Try.underlying23 z38
  obtain ⟨a0_7_1, ena0_7_1, lea0_7_1, mxa0_7_1, gda0_7_1, rda0_7_1⟩ := RowSl.ints Try.underlying23 Try.underlying3 (by kernel_rfl) z38
  subst ena0_7_1
  have z39 : DataW.trod enc Try.prog W 0 (fun _ => true) true m32 9 [c0_9] = some y29 := by
    have q : DataW.trod enc Try.prog W 0 (fun _ => true) true m32 9 (([Value.int .i64 a0_7_0, Value.slice a0_7_1_A a0_7_1.length a0_7_1_c, c0_9, c0_10].drop 2).take (Try.prog.cellsOf 9)) = some y29 := F35 2 _ rfl
    rw [cells9] at q
    exact q
  obtain ⟨a0_7_2, e40, rfl, -⟩ := DataW.trod_string Try.underlying9 z39
  obtain rfl := List.singleton_inj.1 e40
  have z41 : DataW.trod enc Try.prog W 0 (fun _ => true) true m32 3 [c0_10] = some y30 := by
    have q : DataW.trod enc Try.prog W 0 (fun _ => true) true m32 3 (([Value.int .i64 a0_7_0, Value.slice a0_7_1_A a0_7_1.length a0_7_1_c, Value.string a0_7_2, c0_10].drop 3).take (Try.prog.cellsOf 3)) = some y30 := F35 3 _ rfl
    rw [cells3] at q
    exact q
  obtain ⟨a0_7_3, e42, rfl, wa0_7_3⟩ := DataW.trod_int Try.underlying3 z41
  obtain rfl := List.singleton_inj.1 e42
  have hw : a0_6.size ≤ 140737488351232 ∧ a0_7_2.size ≤ 140737488351232 := by
    have z := List.all_eq_true.1 hsz
    have y : ∀ s : ByteArray, s.data.toList.length ∈ DataW.weightsEach Try.prog (#[37].toList ++ Rows.controlBytesSpec.plain.varTypes Try.prog) ([_] ++ []) → s.size ≤ 140737488351232 := fun s hs => by have := of_decide_eq_true (z _ hs); rw [Array.length_toList] at this; exact this
    refine ⟨y _ ?_, y _ ?_⟩
    all_goals simp [DataW.weightsEach, DataW.weights, Try.underlying3, Try.underlying4, Try.underlying9, Try.underlying22, Try.underlying23, Try.underlying27, Try.underlying37]
  have hs : RowSl.sumZ a0_4 + RowSl.sumZ a0_5 ≤ 1048576 := by
    have hb := of_decide_eq_true hkk
    simp only [List.append_nil, List.cons_append, List.nil_append, List.map_cons, List.map_nil, Rows.uptoBulkAll, Rows.uptoBulk] at hb
    omega
  clear hA0 hval0 hsz0 hsz
  refine (Hand.ControlBytes ⟨a0_0, a0_1, a0_2, a0_3, a0_4, a0_5, a0_6, a0_7_0, a0_7_1, a0_7_2, a0_7_3⟩ ⟨a0_4_A, a0_4_c, a0_5_A, a0_5_c, a0_7_1_A, a0_7_1_c⟩ W ⟨rda0_4, rda0_5, rda0_7_1, lea0_4, lea0_5, lea0_7_1⟩ hs (hw.1) (hw.2)).mono fun e W' ⟨he, bel⟩ => ?_
  subst he
  exact ⟨_, rfl, _, _, _, [], _, [], hW', trodAll_mk1 (shut_bool Try.underlying4 _), (trodAll_cons_mk (Below.trod laidOut (by kernel_rfl) (of_decide_eq_true (by kernel_rfl)) k0 bel hl0) trodAll_mk0), rfl, bel.frame _, fun h => by cases h⟩
theorem over : Rows.controlBytesUptoRow.holds Try.pinned (Rows.OpenSpec.upto Rows.controlBytesSpec) :=
  OpenClaim.holds_of_cond 8 Try.f8 rfl rfl rfl rfl rfl rfl rfl ⟨rfl, rfl, rfl, rfl, rfl⟩ rfl rfl rfl rfl rfl (by kernel_rfl) Try.func8 (by kernel_rfl)
    (of_decide_eq_true (by kernel_rfl)) (by unfold Func.isWrapper; first | (rw [if_pos (by decide +kernel)]; kernel_rfl) | (rw [if_neg (by decide +kernel)]; exact ⟨rfl, rfl⟩))
    (fun os started H enc _ F => lifted os started H enc F)
theorem proved : Rows.ControlBytesUptoSaid := over
end Go.Proofs.Ytkgbhlcbjflnlaa.controlBytes
namespace Go.Proofs.Ytkgbhlcbjflnlaa
/-- The row, under a short name, for the claim. -/
theorem controlBytes_holds : Rows.ControlBytesUptoSaid := controlBytes.proved
end Go.Proofs.Ytkgbhlcbjflnlaa
