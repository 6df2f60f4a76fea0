/- What functions of the program compute, each with the walk that shows it: by a program (a turned copy of the kit's print; wip/myprint.py). -/
import Derived.Test.YtdmhadoggghgnaaPx0
import Derived.Test.YtdmhadoggghgnaaPx4
import Derived.Test.YtdmhadoggghgnaaPx14
import Derived.Test.YtdmhadoggghgnaaPx15
namespace Go.Proofs.Ytdmhadoggghgnaa.P
open Go.RowKit Go.Proofs.YtdmhadoggghgnaaW.PrintWords Go.Proofs.YtdmhadoggghgnaaW.PrintLast Go.Proofs.YtdmhadoggghgnaaW.PrintMore
attribute [local go_sem] max2_int min2_int max_two min_two max_three min_three max_four min_four   -- for this text's walks alone
set_option linter.unusedVariables false
set_option linter.unusedSimpArgs false
abbrev q23_0 : Array Bool := #[false, false, false, false, false, false, false, false, false, false, false, false]
abbrev q23_1 : Array Bool := #[true, false, false, false, false, false, false, false, false, false, false, false]
abbrev q23_2 : Array Bool := #[true, true, false, false, false, false, false, false, false, false, false, false]
abbrev q23_3 : Array Bool := #[true, true, false, false, true, false, false, false, false, false, false, false]
abbrev q23_4 : Array Bool := #[true, true, false, false, true, false, true, false, false, false, false, false]
abbrev q23_5 : Array Bool := #[true, true, false, false, true, false, true, true, false, false, false, false]
abbrev q23_6 : Array Bool := #[true, true, true, false, true, false, true, true, false, false, false, false]
abbrev q23_7 : Array Bool := #[true, true, true, true, true, false, true, true, false, false, false, false]
abbrev q23_8 : Array Bool := #[true, true, true, true, true, true, true, true, false, false, false, false]
abbrev q23_9 : Array Bool := #[true, true, true, true, true, true, true, true, true, false, false, false]
abbrev q23_10 : Array Bool := #[true, true, true, true, true, true, true, true, true, true, false, false]
abbrev q23_11 : Array Bool := #[true, true, true, true, true, true, true, true, true, true, true, false]
abbrev q23_12 : Array Bool := #[true, true, true, true, true, true, true, true, true, true, true, true]
abbrev q23_13 : Array Bool := #[false, false, false, false, false, false, false, false, false, false, false, false, false, false, false, false, false, false, false, false, false, false, false, false, false, false, false, false, false, false]
abbrev q23_14 : Array Bool := #[false, false, false, true, false, false, false, false, false, false, false, false, false, false, false, false, false, false, false, false, false, false, false, false, false, false, false, false, false, false]
abbrev q23_15 : Array Bool := #[false, false, false, true, false, false, false, false, true, false, false, false, false, false, false, false, false, false, false, false, false, false, false, false, false, false, false, false, false, false]
abbrev q23_16 : Array Bool := #[true, false, false, true, false, false, false, false, true, false, false, false, false, false, false, false, false, false, false, false, false, false, false, false, false, false, false, false, false, false]
abbrev q23_17 : Array Bool := #[true, true, false, true, false, false, false, false, true, false, false, false, false, false, false, false, false, false, false, false, false, false, false, false, false, false, false, false, false, false]
abbrev q23_18 : Array Bool := #[true, true, true, true, false, false, false, false, true, false, false, false, false, false, false, false, false, false, false, false, false, false, false, false, false, false, false, false, false, false]
abbrev q23_19 : Array Bool := #[true, true, true, true, false, true, false, false, true, false, false, false, false, false, false, false, false, false, false, false, false, false, false, false, false, false, false, false, false, false]
abbrev q23_20 : Array Bool := #[true, true, true, true, false, true, true, false, true, false, false, false, false, false, false, false, false, false, false, false, false, false, false, false, false, false, false, false, false, false]
abbrev q23_21 : Array Bool := #[true, true, true, true, false, true, true, true, true, false, false, false, false, false, false, false, false, false, false, false, false, false, false, false, false, false, false, false, false, false]
abbrev q23_22 : Array Bool := #[true, true, true, true, true, true, true, true, true, false, false, false, false, false, false, false, false, false, false, false, false, false, false, false, false, false, false, false, false, false]
abbrev q23_23 : Array Bool := #[true, true, true, true, true, true, true, true, true, true, false, false, false, false, false, false, false, false, false, false, false, false, false, false, false, false, false, false, false, false]
abbrev q23_24 : Array Bool := #[true, true, true, true, true, true, true, true, true, true, true, false, false, false, false, false, false, false, false, false, false, false, false, false, false, false, false, false, false, false]
abbrev q23_25 : Array Bool := #[true, true, true, true, true, true, true, true, true, true, true, true, false, false, false, false, false, false, false, false, false, false, false, false, false, false, false, false, false, false]
abbrev q23_26 : Array Bool := #[true, true, true, true, true, true, true, true, true, true, true, true, true, false, false, false, false, false, false, false, false, false, false, false, false, false, false, false, false, false]
abbrev q23_27 : Array Bool := #[true, true, true, true, true, true, true, true, true, true, true, true, true, true, false, false, false, false, false, false, false, false, false, false, false, false, false, false, false, false]
abbrev q23_28 : Array Bool := #[true, true, true, true, true, true, true, true, true, true, true, true, true, true, true, false, false, false, false, false, false, false, false, false, false, false, false, false, false, false]
abbrev q23_29 : Array Bool := #[true, true, true, true, true, true, true, true, true, true, true, true, true, true, true, true, false, false, false, false, false, false, false, false, false, false, false, false, false, false]
abbrev q23_30 : Array Bool := #[true, true, true, true, true, true, true, true, true, true, true, true, true, true, true, true, true, false, false, false, false, false, false, false, false, false, false, false, false, false]
abbrev q23_31 : Array Bool := #[true, true, true, true, true, true, true, true, true, true, true, true, true, true, true, true, true, true, false, false, false, false, false, false, false, false, false, false, false, false]
abbrev q23_32 : Array Bool := #[true, true, true, true, true, true, true, true, true, true, true, true, true, true, true, true, true, true, true, false, false, false, false, false, false, false, false, false, false, false]
abbrev q23_33 : Array Bool := #[true, true, true, true, true, true, true, true, true, true, true, true, true, true, true, true, true, true, true, false, false, false, true, false, false, false, false, false, false, false]
abbrev q23_34 : Array Bool := #[true, true, true, true, true, true, true, true, true, true, true, true, true, true, true, true, true, true, true, true, false, false, true, false, false, false, false, false, false, false]
abbrev q23_35 : Array Bool := #[true, true, true, true, true, true, true, true, true, true, true, true, true, true, true, true, true, true, true, true, true, false, true, false, false, false, false, false, false, false]
abbrev q23_36 : Array Bool := #[true, true, true, true, true, true, true, true, true, true, true, true, true, true, true, true, true, true, true, true, true, true, true, false, false, false, false, false, false, false]
abbrev q23_37 : Array Bool := #[true, true, true, true, true, true, true, true, true, true, true, true, true, true, true, true, true, true, true, true, true, true, true, true, false, false, false, false, false, false]
abbrev q23_38 : Array Bool := #[true, true, true, true, true, true, true, true, true, true, true, true, true, true, true, true, true, true, true, true, true, true, true, true, true, false, false, false, false, false]
abbrev q23_39 : Array Bool := #[true, true, true, true, true, true, true, true, true, true, true, true, true, true, true, true, true, true, true, true, true, true, true, true, true, true, false, false, false, false]
abbrev q23_40 : Array Bool := #[true, true, true, true, true, true, true, true, true, true, true, true, true, true, true, true, true, true, true, true, true, true, true, true, true, true, true, false, false, false]
abbrev q23_41 : Array Bool := #[true, true, true, true, true, true, true, true, true, true, true, true, true, true, true, true, true, true, true, true, true, true, true, true, true, true, true, true, false, false]
abbrev q23_42 : Array Bool := #[true, true, true, true, true, true, true, true, true, true, true, true, true, true, true, true, true, true, true, true, true, true, true, true, true, true, true, true, true, false]
abbrev q23_43 : Array Bool := #[true, true, true, true, true, true, true, true, true, true, true, true, true, true, true, true, true, true, true, true, true, true, true, true, true, true, true, true, true, true]
abbrev q23_44 : Array Bool := #[true, true, true, true, true, true, true, true, true, true, true, false, false, false, true, false, false, false, false, false, false, false, false, false, false, false, false, false, false, false]
abbrev q23_45 : Array Bool := #[true, true, true, true, true, true, true, true, true, true, true, true, false, false, true, false, false, false, false, false, false, false, false, false, false, false, false, false, false, false]
abbrev q23_46 : Array Bool := #[true, true, true, true, true, true, true, true, true, true, true, true, true, false, true, false, false, false, false, false, false, false, false, false, false, false, false, false, false, false]

/-! ### aqueductlaw13_SpotParts: function 7 -/
def aqueductlaw13_SpotParts.j0 : Nat → Int → Bool → Int → Bool → Int → Bool → Int → Int → Bool → Int → Bool → Option (Bool)
  | 0, _, _, _, _, _, _, _, _, _, _, _ => none
  | k + 1, x3, x68, x265000, x265001, x266000, x266001, x266002, x270000, x270001, x274000, x274001 => if x68 = true then (some false) else ((spot_Need.f k x266000 x266001 x266002 x265000 x265001 x274000 x274001 x3).bind fun t274 => ((spot_Need.f k x266000 x266001 x266002 x265000 x265001 x270000 x270001 x3).bind fun t275 => (if t275 = true then (if (t274 == true) = true then ((spot_Need.f k x266000 x266001 x266002 x265000 x265001 x265000 x265001 x3).bind fun t276 => (if t276 = true then (some false) else ((aqueductlaw13_fixed.f k).bind fun t277 => (some t277)))) else (some false)) else ((spot_Need.f k x266000 x266001 x266002 x270000 x270001 x274000 x274001 x3).bind fun t278 => (if (t274 == t278) = true then ((spot_Need.f k x266000 x266001 x266002 x265000 x265001 x265000 x265001 x3).bind fun t279 => (if t279 = true then (some false) else ((aqueductlaw13_fixed.f k).bind fun t280 => (some t280)))) else (some false))))))
def aqueductlaw13_SpotParts.f (k : Nat) (a0_0 : Int) (a0_1 : Bool) (a0_2 : Int) (a0_3 : Int) (a0_4 : Bool) (a0_5 : Int) (a0_6 : Bool) (a0_7 : Int) (a0_8 : Int) : Option (Bool) := if (wrap64 (1 + (Go.bits .and .i64 a0_8 32767))) = 0 then (none) else (if (wrap64 ((wrap64 (1 + (Go.bits .and .i64 a0_8 32767))) + 1)) = 0 then (none) else (if (wrap64 ((wrap64 ((wrap64 (1 + (Go.bits .and .i64 a0_8 32767))) - (Int.tmod (Go.bits .and .i64 a0_7 65535) (wrap64 ((wrap64 (1 + (Go.bits .and .i64 a0_8 32767))) + 1))))) + 1)) = 0 then (none) else ((spot_Next.f k (Int.tmod (Go.bits .and .i64 a0_3 32767) (wrap64 (1 + (Go.bits .and .i64 a0_8 32767)))) a0_4 (Int.tmod (Go.bits .and .i64 a0_7 65535) (wrap64 ((wrap64 (1 + (Go.bits .and .i64 a0_8 32767))) + 1))) (wrap64 (1 + (Go.bits .and .i64 a0_8 32767)))).bind fun bt266 => ((spot_Next.f k bt266.1 bt266.2.1 (Int.tmod (Go.bits .and .i64 a0_5 65535) (wrap64 ((wrap64 ((wrap64 (1 + (Go.bits .and .i64 a0_8 32767))) - (Int.tmod (Go.bits .and .i64 a0_7 65535) (wrap64 ((wrap64 (1 + (Go.bits .and .i64 a0_8 32767))) + 1))))) + 1))) (wrap64 (1 + (Go.bits .and .i64 a0_8 32767)))).bind fun bt270 => (if bt266.2.2 = 0 then (aqueductlaw13_SpotParts.j0 k (wrap64 (1 + (Go.bits .and .i64 a0_8 32767))) (bt270.2.2 != 0) (Int.tmod (Go.bits .and .i64 a0_3 32767) (wrap64 (1 + (Go.bits .and .i64 a0_8 32767)))) a0_4 (Int.tmod (Go.bits .and .i64 a0_0 32767) (wrap64 (1 + (Go.bits .and .i64 a0_8 32767)))) a0_1 a0_2 bt266.1 bt266.2.1 bt270.1 bt270.2.1) else (aqueductlaw13_SpotParts.j0 k (wrap64 (1 + (Go.bits .and .i64 a0_8 32767))) true (Int.tmod (Go.bits .and .i64 a0_3 32767) (wrap64 (1 + (Go.bits .and .i64 a0_8 32767)))) a0_4 (Int.tmod (Go.bits .and .i64 a0_0 32767) (wrap64 (1 + (Go.bits .and .i64 a0_8 32767)))) a0_1 a0_2 bt266.1 bt266.2.1 bt270.1 bt270.2.1))))))
theorem aqueductlaw13_SpotParts.mono_l : ∀ k, (∀ y0 y1 y2 y3 y4 y5 y6 y7 y8 y9 y10, LeO (aqueductlaw13_SpotParts.j0 k y0 y1 y2 y3 y4 y5 y6 y7 y8 y9 y10) (aqueductlaw13_SpotParts.j0 (k + 1) y0 y1 y2 y3 y4 y5 y6 y7 y8 y9 y10))
  | 0 => fun _ _ _ _ _ _ _ _ _ _ _ r h => by simp [aqueductlaw13_SpotParts.j0] at h
  | k + 1 => by
    have ih0 := aqueductlaw13_SpotParts.mono_l k
    · intro y0 y1 y2 y3 y4 y5 y6 y7 y8 y9 y10
      unfold aqueductlaw13_SpotParts.j0
      repeat' first
      | (with_reducible exact ih0 _ _ _ _ _ _ _ _ _ _ _)
      | (with_reducible exact aqueductlaw13_fixed.mono _)
      | (with_reducible exact spot_Need.mono _ _ _ _ _ _ _ _ _)
      | (with_reducible exact spot_Next.mono _ _ _ _ _)
      | (with_reducible exact LeO.refl _)
      | (with_reducible exact LeO.none _)
      | (with_reducible refine LeO.ite ?_ ?_)
      | (with_reducible refine LeO.bind ?_ (fun _ => ?_))
      | exact ih0 _ _ _ _ _ _ _ _ _ _ _
      | exact aqueductlaw13_fixed.mono _
      | exact spot_Need.mono _ _ _ _ _ _ _ _ _
      | exact spot_Next.mono _ _ _ _ _
      | exact LeO.none _
      | refine LeO.ite ?_ ?_
      | refine LeO.bind ?_ (fun _ => ?_)
theorem aqueductlaw13_SpotParts.mono : ∀ a0 a1 a2 a3 a4 a5 a6 a7 a8 k, LeO (aqueductlaw13_SpotParts.f k a0 a1 a2 a3 a4 a5 a6 a7 a8) (aqueductlaw13_SpotParts.f (k + 1) a0 a1 a2 a3 a4 a5 a6 a7 a8) := by
  intro a0 a1 a2 a3 a4 a5 a6 a7 a8 k
  have ih0 := aqueductlaw13_SpotParts.mono_l k
  unfold aqueductlaw13_SpotParts.f
  repeat' first
      | (with_reducible exact ih0 _ _ _ _ _ _ _ _ _ _ _)
      | (with_reducible exact aqueductlaw13_fixed.mono _)
      | (with_reducible exact spot_Need.mono _ _ _ _ _ _ _ _ _)
      | (with_reducible exact spot_Next.mono _ _ _ _ _)
      | (with_reducible exact LeO.refl _)
      | (with_reducible exact LeO.none _)
      | (with_reducible refine LeO.ite ?_ ?_)
      | (with_reducible refine LeO.bind ?_ (fun _ => ?_))
      | exact ih0 _ _ _ _ _ _ _ _ _ _ _
      | exact aqueductlaw13_fixed.mono _
      | exact spot_Need.mono _ _ _ _ _ _ _ _ _
      | exact spot_Next.mono _ _ _ _ _
      | exact LeO.none _
      | refine LeO.ite ?_ ?_
      | refine LeO.bind ?_ (fun _ => ?_)
def aqueductlaw13_SpotParts.T2 : Bool × List (List Nat × List Nat) := (true, [([], []), ([0], [0]), ([1], [1]), ([2], [2]), ([], []), ([3, 4], [3, 4]), ([], []), ([6], [6]), ([7], [7]), ([5, 8], [5, 8]), ([], []), ([10, 9, 0, 1, 2, 3, 4, 5, 6, 7, 8, 9, 10], [9, 10])])
def aqueductlaw13_SpotParts.B2 : List Nat := [0, 1, 3, 7, 0, 31, 0, 64, 192, 511, 0, 2047]
theorem aqueductlaw13_SpotParts.tab2 : rtab .any (opsOf Try.f7 2) = aqueductlaw13_SpotParts.T2 := by kernel_rfl
theorem aqueductlaw13_SpotParts.bits2 : waitsOk aqueductlaw13_SpotParts.T2.2 aqueductlaw13_SpotParts.B2 = true := by kernel_rfl
def aqueductlaw13_SpotParts.T11 : Bool × List (List Nat × List Nat) := (true, [([], []), ([], []), ([], []), ([], []), ([0, 1, 2, 3], [0, 1, 2, 3]), ([], []), ([], []), ([], []), ([], []), ([5, 6, 7, 8, 4], [5, 6, 7, 8]), ([9, 9], [9]), ([10], [10]), ([10], [10]), ([10], [10]), ([10], [10]), ([11, 12, 13, 14, 10, 10], [10, 11, 12, 13, 14]), ([10, 15], [10, 15]), ([4, 16], [4, 16]), ([17, 15], [17]), ([18], [18]), ([18], [18]), ([18], [18]), ([18], [18]), ([19, 20, 21, 22, 18, 18], [18, 19, 20, 21, 22]), ([23, 18], [18, 23]), ([18, 24], [18, 24]), ([25, 23], [25]), ([26, 26], [26]), ([26, 27], [26, 27]), ([28, 27, 0, 1, 2, 3, 4, 5, 6, 7, 8, 9, 10, 11, 12, 13, 14, 15, 16, 17, 18, 19, 20, 21, 22, 23, 24, 25, 26, 27, 28], [28])])
def aqueductlaw13_SpotParts.B11 : List Nat := [0, 0, 0, 0, 15, 0, 0, 0, 0, 511, 1023, 2047, 2047, 2047, 2047, 32767, 65535, 131071, 262143, 524287, 524287, 524287, 524287, 8388607, 16777215, 33554431, 67108863, 134217727, 268435455, 536870911]
theorem aqueductlaw13_SpotParts.tab11 : rtab .any (opsOf Try.f7 11) = aqueductlaw13_SpotParts.T11 := by kernel_rfl
theorem aqueductlaw13_SpotParts.bits11 : waitsOk aqueductlaw13_SpotParts.T11.2 aqueductlaw13_SpotParts.B11 = true := by kernel_rfl
set_option maxHeartbeats 8000000 in
set_option maxRecDepth 100000 in
theorem aqueductlaw13_SpotParts.calls (k : Nat) (a0_0 : Int) (a0_1 : Bool) (a0_2 : Int) (a0_3 : Int) (a0_4 : Bool) (a0_5 : Int) (a0_6 : Bool) (a0_7 : Int) (a0_8 : Int) (r : Bool) (w : World) (h : aqueductlaw13_SpotParts.f k a0_0 a0_1 a0_2 a0_3 a0_4 a0_5 a0_6 a0_7 a0_8 = some r) (hr_ : r = true) :
    Calls Try.prog 7 #[.agg #[.int .i64 a0_0, .bool a0_1, .int .i64 a0_2, .int .i64 a0_3, .bool a0_4, .int .i64 a0_5, .bool a0_6, .int .i64 a0_7, .int .i64 a0_8]] w fun e w' => e = .returned (.bool r) ∧ Below w.heap.size w w' := by
  have hu27 := Try.underlying27
  have hu25 := Try.underlying25
  have hu23 := Try.underlying23
  have HB := Aside0.mk (Below.refl w.heap.size w)
  have H : (if (wrap64 (1 + (Go.bits .and .i64 a0_8 32767))) = 0 then (none) else (if (wrap64 ((wrap64 (1 + (Go.bits .and .i64 a0_8 32767))) + 1)) = 0 then (none) else (if (wrap64 ((wrap64 ((wrap64 (1 + (Go.bits .and .i64 a0_8 32767))) - (Int.tmod (Go.bits .and .i64 a0_7 65535) (wrap64 ((wrap64 (1 + (Go.bits .and .i64 a0_8 32767))) + 1))))) + 1)) = 0 then (none) else ((spot_Next.f k (Int.tmod (Go.bits .and .i64 a0_3 32767) (wrap64 (1 + (Go.bits .and .i64 a0_8 32767)))) a0_4 (Int.tmod (Go.bits .and .i64 a0_7 65535) (wrap64 ((wrap64 (1 + (Go.bits .and .i64 a0_8 32767))) + 1))) (wrap64 (1 + (Go.bits .and .i64 a0_8 32767)))).bind fun bt266 => ((spot_Next.f k bt266.1 bt266.2.1 (Int.tmod (Go.bits .and .i64 a0_5 65535) (wrap64 ((wrap64 ((wrap64 (1 + (Go.bits .and .i64 a0_8 32767))) - (Int.tmod (Go.bits .and .i64 a0_7 65535) (wrap64 ((wrap64 (1 + (Go.bits .and .i64 a0_8 32767))) + 1))))) + 1))) (wrap64 (1 + (Go.bits .and .i64 a0_8 32767)))).bind fun bt270 => (if bt266.2.2 = 0 then (aqueductlaw13_SpotParts.j0 k (wrap64 (1 + (Go.bits .and .i64 a0_8 32767))) (bt270.2.2 != 0) (Int.tmod (Go.bits .and .i64 a0_3 32767) (wrap64 (1 + (Go.bits .and .i64 a0_8 32767)))) a0_4 (Int.tmod (Go.bits .and .i64 a0_0 32767) (wrap64 (1 + (Go.bits .and .i64 a0_8 32767)))) a0_1 a0_2 bt266.1 bt266.2.1 bt270.1 bt270.2.1) else (aqueductlaw13_SpotParts.j0 k (wrap64 (1 + (Go.bits .and .i64 a0_8 32767))) true (Int.tmod (Go.bits .and .i64 a0_3 32767) (wrap64 (1 + (Go.bits .and .i64 a0_8 32767)))) a0_4 (Int.tmod (Go.bits .and .i64 a0_0 32767) (wrap64 (1 + (Go.bits .and .i64 a0_8 32767)))) a0_1 a0_2 bt266.1 bt266.2.1 bt270.1 bt270.2.1))))))) = some r := h
  clear h
  have HR_ := Aside0.mk hr_
  clear hr_
  by_cases c2 : (wrap64 (1 + (Go.bits .and .i64 a0_8 32767))) = 0
  · rw [if_pos c2] at H
    exact absurd H (by simp)
  · rw [if_neg c2] at H
    have c2b0 : ((wrap64 (1 + (Go.bits .and .i64 a0_8 32767))) == 0) = false := beq_eq_false_iff_ne.mpr c2
    have c2b1 : ((wrap64 (1 + (Go.bits .and .i64 a0_8 32767))) != 0) = true := bne_iff_ne.mpr c2
    by_cases c3 : (wrap64 ((wrap64 (1 + (Go.bits .and .i64 a0_8 32767))) + 1)) = 0
    · rw [if_pos c3] at H
      exact absurd H (by simp)
    · rw [if_neg c3] at H
      have c3b0 : ((wrap64 ((wrap64 (1 + (Go.bits .and .i64 a0_8 32767))) + 1)) == 0) = false := beq_eq_false_iff_ne.mpr c3
      have c3b1 : ((wrap64 ((wrap64 (1 + (Go.bits .and .i64 a0_8 32767))) + 1)) != 0) = true := bne_iff_ne.mpr c3
      by_cases c4 : (wrap64 ((wrap64 ((wrap64 (1 + (Go.bits .and .i64 a0_8 32767))) - (Int.tmod (Go.bits .and .i64 a0_7 65535) (wrap64 ((wrap64 (1 + (Go.bits .and .i64 a0_8 32767))) + 1))))) + 1)) = 0
      · rw [if_pos c4] at H
        exact absurd H (by simp)
      · rw [if_neg c4] at H
        have c4b0 : ((wrap64 ((wrap64 ((wrap64 (1 + (Go.bits .and .i64 a0_8 32767))) - (Int.tmod (Go.bits .and .i64 a0_7 65535) (wrap64 ((wrap64 (1 + (Go.bits .and .i64 a0_8 32767))) + 1))))) + 1)) == 0) = false := beq_eq_false_iff_ne.mpr c4
        have c4b1 : ((wrap64 ((wrap64 ((wrap64 (1 + (Go.bits .and .i64 a0_8 32767))) - (Int.tmod (Go.bits .and .i64 a0_7 65535) (wrap64 ((wrap64 (1 + (Go.bits .and .i64 a0_8 32767))) + 1))))) + 1)) != 0) = true := bne_iff_ne.mpr c4
        replace H := Option.bind_eq_some_iff.mp H
        obtain ⟨⟨t266, t267, t268⟩, A50, H⟩ := H
        replace H : ((spot_Next.f k t266 t267 (Int.tmod (Go.bits .and .i64 a0_5 65535) (wrap64 ((wrap64 ((wrap64 (1 + (Go.bits .and .i64 a0_8 32767))) - (Int.tmod (Go.bits .and .i64 a0_7 65535) (wrap64 ((wrap64 (1 + (Go.bits .and .i64 a0_8 32767))) + 1))))) + 1))) (wrap64 (1 + (Go.bits .and .i64 a0_8 32767)))).bind fun bt270 => (if t268 = 0 then (aqueductlaw13_SpotParts.j0 k (wrap64 (1 + (Go.bits .and .i64 a0_8 32767))) (bt270.2.2 != 0) (Int.tmod (Go.bits .and .i64 a0_3 32767) (wrap64 (1 + (Go.bits .and .i64 a0_8 32767)))) a0_4 (Int.tmod (Go.bits .and .i64 a0_0 32767) (wrap64 (1 + (Go.bits .and .i64 a0_8 32767)))) a0_1 a0_2 t266 t267 bt270.1 bt270.2.1) else (aqueductlaw13_SpotParts.j0 k (wrap64 (1 + (Go.bits .and .i64 a0_8 32767))) true (Int.tmod (Go.bits .and .i64 a0_3 32767) (wrap64 (1 + (Go.bits .and .i64 a0_8 32767)))) a0_4 (Int.tmod (Go.bits .and .i64 a0_0 32767) (wrap64 (1 + (Go.bits .and .i64 a0_8 32767)))) a0_1 a0_2 t266 t267 bt270.1 bt270.2.1))) = some r := H
        have A5 := Aside0.mk A50
        clear A50
        replace H := Option.bind_eq_some_iff.mp H
        obtain ⟨⟨t270, t271, t272⟩, A60, H⟩ := H
        replace H : (if t268 = 0 then (aqueductlaw13_SpotParts.j0 k (wrap64 (1 + (Go.bits .and .i64 a0_8 32767))) (t272 != 0) (Int.tmod (Go.bits .and .i64 a0_3 32767) (wrap64 (1 + (Go.bits .and .i64 a0_8 32767)))) a0_4 (Int.tmod (Go.bits .and .i64 a0_0 32767) (wrap64 (1 + (Go.bits .and .i64 a0_8 32767)))) a0_1 a0_2 t266 t267 t270 t271) else (aqueductlaw13_SpotParts.j0 k (wrap64 (1 + (Go.bits .and .i64 a0_8 32767))) true (Int.tmod (Go.bits .and .i64 a0_3 32767) (wrap64 (1 + (Go.bits .and .i64 a0_8 32767)))) a0_4 (Int.tmod (Go.bits .and .i64 a0_0 32767) (wrap64 (1 + (Go.bits .and .i64 a0_8 32767)))) a0_1 a0_2 t266 t267 t270 t271)) = some r := H
        have A6 := Aside0.mk A60
        clear A60
        have HC7 := Aside0.mk H
        clear H
        go_enter Try.func7, Try.ntmps7
        try go_wp2_with (first | ((with_reducible refine gate_dst (N := 1) rfl ?_); refine box_event ?hg (N := 1) ?hd (cs := #[.int .i64 a0_0, .bool a0_1, .int .i64 a0_2, .int .i64 a0_3, .bool a0_4, .int .i64 a0_5, .bool a0_6, .int .i64 a0_7, .int .i64 a0_8]) (t := 27) ?hr ?_; (case hd => rfl); (case hg => rfl); (case hr => first | (go_simp; done) | (go_simp; rfl)); intro gb263 hg w8 hbox hb; have n0_ := Aside0.mk (below_step (by repeat (first | (with_reducible first | exact HB.out | apply below_alloc | apply pw_below_drewN | apply below_drew1) | exact HB.out)) hb); have n1_ := Aside0.mk (hbox); have n2_ := Aside0.mk ((by rw [hg]; exact (below_size (by repeat (first | (with_reducible first | exact HB.out | apply below_alloc | apply pw_below_drewN | apply below_drew1) | exact HB.out))) : w.heap.size ≤ gb263)); have n3_ := Aside0.mk ((by rw [hg]; exact (below_size (by repeat (first | (with_reducible first | exact HB.out | apply below_alloc | apply pw_below_drewN | apply below_drew1) | exact HB.out))) : w.heap.size ≤ gb263)); clear HB; have HB := n0_; have BK263 := n1_; have GW263 := n2_; have GE263 := n3_; clear n0_ n1_ n2_ n3_; clear hb hbox hg; have hcz9_0 : w8.cell? ⟨gb263, 0, none⟩ = some (.int .i64 a0_0) := (blk_cell BK263.out 0).trans rfl; have hcz9_1 : w8.cell? ⟨gb263, 1, none⟩ = some (.bool a0_1) := (blk_cell BK263.out 1).trans rfl; have hcz9_2 : w8.cell? ⟨gb263, 2, none⟩ = some (.int .i64 a0_2) := (blk_cell BK263.out 2).trans rfl; have hcz9_3 : w8.cell? ⟨gb263, 3, none⟩ = some (.int .i64 a0_3) := (blk_cell BK263.out 3).trans rfl; have hcz9_4 : w8.cell? ⟨gb263, 4, none⟩ = some (.bool a0_4) := (blk_cell BK263.out 4).trans rfl; have hcz9_5 : w8.cell? ⟨gb263, 5, none⟩ = some (.int .i64 a0_5) := (blk_cell BK263.out 5).trans rfl; have hcz9_6 : w8.cell? ⟨gb263, 6, none⟩ = some (.bool a0_6) := (blk_cell BK263.out 6).trans rfl; have hcz9_7 : w8.cell? ⟨gb263, 7, none⟩ = some (.int .i64 a0_7) := (blk_cell BK263.out 7).trans rfl; have hcz9_8 : w8.cell? ⟨gb263, 8, none⟩ = some (.int .i64 a0_8) := (blk_cell BK263.out 8).trans rfl; have hfz9_0 := blk_frozen BK263.out 0; have hfz9_1 := blk_frozen BK263.out 1; have hfz9_2 := blk_frozen BK263.out 2; have hfz9_3 := blk_frozen BK263.out 3; have hfz9_4 := blk_frozen BK263.out 4; have hfz9_5 := blk_frozen BK263.out 5; have hfz9_6 := blk_frozen BK263.out 6; have hfz9_7 := blk_frozen BK263.out 7; have hfz9_8 := blk_frozen BK263.out 8))
        have n0_ := Aside0.mk (blk_drew BK263.out)
        have n1_ := Aside0.mk (below_drew1 HB.out)
        clear BK263
        clear HB
        have BK263 := n0_
        have HB := n1_
        clear n0_ n1_
        refine start_ (n := 12) (S := fun w' => w'.cell? ⟨gb263, 0, none⟩ = some (.int .i64 a0_0) ∧ w'.cell? ⟨gb263, 1, none⟩ = some (.bool a0_1) ∧ w'.cell? ⟨gb263, 2, none⟩ = some (.int .i64 a0_2) ∧ w'.cell? ⟨gb263, 3, none⟩ = some (.int .i64 a0_3) ∧ w'.cell? ⟨gb263, 4, none⟩ = some (.bool a0_4) ∧ w'.cell? ⟨gb263, 5, none⟩ = some (.int .i64 a0_5) ∧ w'.cell? ⟨gb263, 6, none⟩ = some (.bool a0_6) ∧ w'.cell? ⟨gb263, 7, none⟩ = some (.int .i64 a0_7) ∧ w'.cell? ⟨gb263, 8, none⟩ = some (.int .i64 a0_8)) (ds := []) q23_0 (by kernel_rfl) rfl rfl ⟨(blk_cell BK263.out 0).trans rfl, (blk_cell BK263.out 1).trans rfl, (blk_cell BK263.out 2).trans rfl, (blk_cell BK263.out 3).trans rfl, (blk_cell BK263.out 4).trans rfl, (blk_cell BK263.out 5).trans rfl, (blk_cell BK263.out 6).trans rfl, (blk_cell BK263.out 7).trans rfl, (blk_cell BK263.out 8).trans rfl⟩ (fun hHeld => ?_); refine with_tabW aqueductlaw13_SpotParts.tab2 aqueductlaw13_SpotParts.bits2 (fun HT_ HW_ => ?_)
        generalize w8.drew = w10 at BK263 HB hHeld ⊢
        refine pure_ (i := 0) (N := some 16) (v := ?_) (a' := ?_) q23_1 rfl rfl (any_of HT_.out (by kernel_rfl)) (fun _ _ _ h => h) (Or.inl ⟨by rfl, ?_⟩) ?_ ?_
        rotate_left
        · intro w'
          go_simp
          with_reducible rfl
        rotate_left
        · simp only [Act.put, List.setIfInBounds_toArray, List.set_cons_zero, List.set_cons_succ, i64_w, i32_w]
          rfl
        refine pure_ (i := 1) (N := some 17) (v := ?_) (a' := ?_) q23_2 rfl rfl (any_of HT_.out (by kernel_rfl)) (fun _ _ _ h => h) (Or.inl ⟨by rfl, ?_⟩) ?_ ?_
        rotate_left
        · intro w'
          go_simp
          with_reducible rfl
        rotate_left
        · simp only [Act.put, List.setIfInBounds_toArray, List.set_cons_zero, List.set_cons_succ, i64_w, i32_w]
          rfl
        refine pure_ (i := 4) (N := some 20) (v := ?_) (a' := ?_) q23_3 rfl rfl (any_of HT_.out (by kernel_rfl)) (fun _ _ _ h => h) (Or.inl ⟨by rfl, ?_⟩) ?_ ?_
        rotate_left
        · intro w'
          go_simp
          with_reducible rfl
        rotate_left
        · simp only [Act.put, List.setIfInBounds_toArray, List.set_cons_zero, List.set_cons_succ, i64_w, i32_w]
          rfl
        refine pure_ (i := 6) (N := some 22) (v := ?_) (a' := ?_) q23_4 rfl rfl (any_of HT_.out (by kernel_rfl)) (fun _ _ _ h => h) (Or.inl ⟨by rfl, ?_⟩) ?_ ?_
        rotate_left
        · intro w'
          go_simp
          with_reducible rfl
        rotate_left
        · simp only [Act.put, List.setIfInBounds_toArray, List.set_cons_zero, List.set_cons_succ, i64_w, i32_w]
          rfl
        refine pure_ (i := 7) (N := some 23) (v := ?_) (a' := ?_) q23_5 rfl rfl (any_of HT_.out (by kernel_rfl)) (fun _ _ _ h => h) (Or.inl ⟨by rfl, ?_⟩) ?_ ?_
        rotate_left
        · intro w'
          go_simp
          with_reducible rfl
        rotate_left
        · simp only [Act.put, List.setIfInBounds_toArray, List.set_cons_zero, List.set_cons_succ, i64_w, i32_w]
          rfl
        refine take_ (i := 2) (N := some 18) (v := ?_) (a' := ?_) q23_6 rfl rfl (take_ofW HT_.out HW_.out (by kernel_rfl)) (fun _ _ _ h => h) (Or.inl ⟨by rfl, ?_⟩) hHeld ?_ ?_
        rotate_left
        · rintro w' ⟨s0, s1, s2, s3, s4, s5, s6, s7, s8⟩
          go_simp
          with_reducible rfl
        rotate_left
        · simp only [Act.put, List.setIfInBounds_toArray, List.set_cons_zero, List.set_cons_succ, i64_w, i32_w]
          rfl
        refine pure_ (i := 3) (N := some 19) (v := ?_) (a' := ?_) q23_7 rfl rfl (any_of HT_.out (by kernel_rfl)) (fun _ _ _ h => h) (Or.inl ⟨by rfl, ?_⟩) ?_ ?_
        rotate_left
        · intro w'
          go_simp
          with_reducible rfl
        rotate_left
        · simp only [Act.put, List.setIfInBounds_toArray, List.set_cons_zero, List.set_cons_succ, i64_w, i32_w]
          rfl
        refine pure_ (i := 5) (N := some 21) (v := ?_) (a' := ?_) q23_8 rfl rfl (any_of HT_.out (by kernel_rfl)) (fun _ _ _ h => h) (Or.inl ⟨by rfl, ?_⟩) ?_ ?_
        rotate_left
        · intro w'
          go_simp
          with_reducible rfl
        rotate_left
        · simp only [Act.put, List.setIfInBounds_toArray, List.set_cons_zero, List.set_cons_succ, i64_w, i32_w]
          rfl
        refine take_ (i := 8) (N := some 24) (v := ?_) (a' := ?_) q23_9 rfl rfl (take_ofW HT_.out HW_.out (by kernel_rfl)) (fun _ _ _ h => h) (Or.inl ⟨by rfl, ?_⟩) hHeld ?_ ?_
        rotate_left
        · rintro w' ⟨s0, s1, s2, s3, s4, s5, s6, s7, s8⟩
          go_simp
          with_reducible rfl
        rotate_left
        · simp only [Act.put, List.setIfInBounds_toArray, List.set_cons_zero, List.set_cons_succ, i64_w, i32_w]
          rfl
        refine pure_ (i := 9) (N := some 25) (v := ?_) (a' := ?_) q23_10 rfl rfl (any_of HT_.out (by kernel_rfl)) (fun _ _ _ h => h) (Or.inl ⟨by rfl, ?_⟩) ?_ ?_
        rotate_left
        · intro w'
          go_simp
          with_reducible rfl
        rotate_left
        · simp only [Act.put, List.setIfInBounds_toArray, List.set_cons_zero, List.set_cons_succ, i64_w, i32_w]
          rfl
        refine one_ (i := 10) (N := some 4) q23_11 rfl rfl (one_of HT_.out (by kernel_rfl)) (by decide) (fun K hK => ?_)
        refine box_step ?hg (N := 4) ?hd (cs := #[.int .i64 0, .bool false]) (t := 25) ?hr ?_; (case hd => rfl); (case hg => rfl); (case hr => first | (go_simp; done) | (go_simp; rfl))
        intro gb264 hg w11 hbox hb
        have n0_ := Aside0.mk (blk_below (g := gb263) (o := .cells #[.int .i64 a0_0, .bool a0_1, .int .i64 a0_2, .int .i64 a0_3, .bool a0_4, .int .i64 a0_5, .bool a0_6, .int .i64 a0_7, .int .i64 a0_8] 27 (0, 0)) (by (with_reducible repeat (first | refine blk_drewN ?_ _ | refine blk_drew ?_ | refine blk_alloc ?_ _)); exact BK263.out) hb)
        have n1_ := Aside0.mk (below_step (by repeat (first | (with_reducible first | exact HB.out | apply below_alloc | apply pw_below_drewN | apply below_drew1 | refine below_set ?_ GE263.out) | exact HB.out)) hb)
        have n2_ := Aside0.mk (hbox)
        have n3_ := Aside0.mk ((by rw [hg]; exact (below_size (by repeat (first | (with_reducible first | exact HB.out | apply below_alloc | apply pw_below_drewN | apply below_drew1 | refine below_set ?_ GE263.out) | exact HB.out))) : w.heap.size ≤ gb264))
        have n4_ := Aside0.mk ((by rw [hg]; exact (below_size (by repeat (first | (with_reducible first | exact HB.out | apply below_alloc | apply pw_below_drewN | apply below_drew1 | refine below_set ?_ GE263.out) | exact HB.out))) : w.heap.size ≤ gb264))
        have n5_ := Aside0.mk ((by rw [hg]; exact Nat.ne_of_lt (blk_lt (g := gb263) (o := .cells #[.int .i64 a0_0, .bool a0_1, .int .i64 a0_2, .int .i64 a0_3, .bool a0_4, .int .i64 a0_5, .bool a0_6, .int .i64 a0_7, .int .i64 a0_8] 27 (0, 0)) (by (with_reducible repeat (first | refine blk_drewN ?_ _ | refine blk_drew ?_ | refine blk_alloc ?_ _)); exact BK263.out)) : gb263 ≠ gb264))
        have n6_ := Aside0.mk ((by rw [hg]; exact Nat.ne_of_gt (blk_lt (g := gb263) (o := .cells #[.int .i64 a0_0, .bool a0_1, .int .i64 a0_2, .int .i64 a0_3, .bool a0_4, .int .i64 a0_5, .bool a0_6, .int .i64 a0_7, .int .i64 a0_8] 27 (0, 0)) (by (with_reducible repeat (first | refine blk_drewN ?_ _ | refine blk_drew ?_ | refine blk_alloc ?_ _)); exact BK263.out)) : gb264 ≠ gb263))
        clear BK263
        clear HB
        have BK263 := n0_
        have HB := n1_
        have BK264 := n2_
        have GW264 := n3_
        have GE264 := n4_
        have NB263_264 := n5_
        have NB264_263 := n6_
        clear n0_ n1_ n2_ n3_ n4_ n5_ n6_
        clear hb hbox hg
        refine hK.out _ _ ⟨(blk_cell BK263.out 0).trans rfl, (blk_cell BK263.out 1).trans rfl, (blk_cell BK263.out 2).trans rfl, (blk_cell BK263.out 3).trans rfl, (blk_cell BK263.out 4).trans rfl, (blk_cell BK263.out 5).trans rfl, (blk_cell BK263.out 6).trans rfl, (blk_cell BK263.out 7).trans rfl, (blk_cell BK263.out 8).trans rfl⟩ (fun hHeld => ?_)
        clear hK K
        refine norm_ (a' := ?_) ?_ ?_
        rotate_left
        · show Act.put _ (some 4) _ = _
          simp only [Act.put, List.setIfInBounds_toArray, List.set_cons_zero, List.set_cons_succ, i64_w, i32_w]
          rfl
        refine one_ (i := 11) (N := none) q23_12 rfl rfl (one_of HT_.out (by kernel_rfl)) (by decide) (fun K hK => ?_)
        have hs12 : w11.cell? ⟨gb264, 0, none⟩ = some (.int .i64 0) := (blk_cell BK264.out 0).trans rfl
        have hfs12 := blk_frozen BK264.out 0
        have hns12_0 := NB263_264.out
        have hms12_0 := NB264_263.out
        have hs13 : w11.cell? ⟨gb264, 1, none⟩ = some (.bool false) := (blk_cell BK264.out 1).trans rfl
        have hfs13 := blk_frozen BK264.out 1
        have hns13_0 := NB263_264.out
        have hms13_0 := NB264_263.out
        refine skip_ (w1 := ?_) (by rfl) rfl ?_ ?_
        rotate_left
        · go_simp
          rfl
        refine hK.out _ _ ⟨((cell_far (p := ⟨gb264, _, none⟩) NB263_264.out _).trans (((cell_far (p := ⟨gb264, _, none⟩) NB263_264.out _).trans (hHeld.1)))), ((cell_far (p := ⟨gb264, _, none⟩) NB263_264.out _).trans (((cell_far (p := ⟨gb264, _, none⟩) NB263_264.out _).trans (hHeld.2.1)))), ((cell_far (p := ⟨gb264, _, none⟩) NB263_264.out _).trans (((cell_far (p := ⟨gb264, _, none⟩) NB263_264.out _).trans (hHeld.2.2.1)))), ((cell_far (p := ⟨gb264, _, none⟩) NB263_264.out _).trans (((cell_far (p := ⟨gb264, _, none⟩) NB263_264.out _).trans (hHeld.2.2.2.1)))), ((cell_far (p := ⟨gb264, _, none⟩) NB263_264.out _).trans (((cell_far (p := ⟨gb264, _, none⟩) NB263_264.out _).trans (hHeld.2.2.2.2.1)))), ((cell_far (p := ⟨gb264, _, none⟩) NB263_264.out _).trans (((cell_far (p := ⟨gb264, _, none⟩) NB263_264.out _).trans (hHeld.2.2.2.2.2.1)))), ((cell_far (p := ⟨gb264, _, none⟩) NB263_264.out _).trans (((cell_far (p := ⟨gb264, _, none⟩) NB263_264.out _).trans (hHeld.2.2.2.2.2.2.1)))), ((cell_far (p := ⟨gb264, _, none⟩) NB263_264.out _).trans (((cell_far (p := ⟨gb264, _, none⟩) NB263_264.out _).trans (hHeld.2.2.2.2.2.2.2.1)))), ((cell_far (p := ⟨gb264, _, none⟩) NB263_264.out _).trans (((cell_far (p := ⟨gb264, _, none⟩) NB263_264.out _).trans (hHeld.2.2.2.2.2.2.2.2))))⟩ (fun hHeld => ?_)
        clear hK K
        refine done_ (done_of HT_.out (by kernel_rfl)) ?_
        have hnb14 := NB263_264.out
        have hnc14 := NB264_263.out
        have hcz15_0 : w11.cell? ⟨gb263, 0, none⟩ = some (.int .i64 a0_0) := (blk_cell BK263.out 0).trans rfl
        have hcz15_1 : w11.cell? ⟨gb263, 1, none⟩ = some (.bool a0_1) := (blk_cell BK263.out 1).trans rfl
        have hcz15_2 : w11.cell? ⟨gb263, 2, none⟩ = some (.int .i64 a0_2) := (blk_cell BK263.out 2).trans rfl
        have hcz15_3 : w11.cell? ⟨gb263, 3, none⟩ = some (.int .i64 a0_3) := (blk_cell BK263.out 3).trans rfl
        have hcz15_4 : w11.cell? ⟨gb263, 4, none⟩ = some (.bool a0_4) := (blk_cell BK263.out 4).trans rfl
        have hcz15_5 : w11.cell? ⟨gb263, 5, none⟩ = some (.int .i64 a0_5) := (blk_cell BK263.out 5).trans rfl
        have hcz15_6 : w11.cell? ⟨gb263, 6, none⟩ = some (.bool a0_6) := (blk_cell BK263.out 6).trans rfl
        have hcz15_7 : w11.cell? ⟨gb263, 7, none⟩ = some (.int .i64 a0_7) := (blk_cell BK263.out 7).trans rfl
        have hcz15_8 : w11.cell? ⟨gb263, 8, none⟩ = some (.int .i64 a0_8) := (blk_cell BK263.out 8).trans rfl
        have hfz15_0 := blk_frozen BK263.out 0
        have hfz15_1 := blk_frozen BK263.out 1
        have hfz15_2 := blk_frozen BK263.out 2
        have hfz15_3 := blk_frozen BK263.out 3
        have hfz15_4 := blk_frozen BK263.out 4
        have hfz15_5 := blk_frozen BK263.out 5
        have hfz15_6 := blk_frozen BK263.out 6
        have hfz15_7 := blk_frozen BK263.out 7
        have hfz15_8 := blk_frozen BK263.out 8
        go_upto_region 9 with (first | ((with_reducible refine gate_dst (N := 7) rfl ?_); refine box_event ?hg (N := 7) ?hd (cs := #[.int .i64 0, .bool false, .int .i64 0]) (t := 23) ?hr ?_; (case hd => rfl); (case hg => rfl); (case hr => first | (go_simp; done) | (go_simp; rfl)); intro gb265 hg w16 hbox hb; have n0_ := Aside0.mk (blk_below (g := gb263) (o := .cells #[.int .i64 a0_0, .bool a0_1, .int .i64 a0_2, .int .i64 a0_3, .bool a0_4, .int .i64 a0_5, .bool a0_6, .int .i64 a0_7, .int .i64 a0_8] 27 (0, 0)) (by (with_reducible repeat (first | refine blk_drewN ?_ _ | refine blk_drew ?_ | refine blk_alloc ?_ _)); refine blk_far ?_ NB263_264.out _; (with_reducible repeat (first | refine blk_drewN ?_ _ | refine blk_drew ?_ | refine blk_alloc ?_ _)); refine blk_far ?_ NB263_264.out _; (with_reducible repeat (first | refine blk_drewN ?_ _ | refine blk_drew ?_ | refine blk_alloc ?_ _)); exact BK263.out) hb); have n1_ := Aside0.mk (blk_below (g := gb264) (o := .cells #[.int .i64 (Int.tmod (Go.bits .and .i64 a0_3 32767) (wrap64 (1 + (Go.bits .and .i64 a0_8 32767)))), .bool a0_4] 25 (0, 0)) (by (with_reducible repeat (first | refine blk_drewN ?_ _ | refine blk_drew ?_ | refine blk_alloc ?_ _)); refine blk_put (cs := #[.int .i64 (Int.tmod (Go.bits .and .i64 a0_3 32767) (wrap64 (1 + (Go.bits .and .i64 a0_8 32767)))), .bool false]) ?_ 1 _ rfl; (with_reducible repeat (first | refine blk_drewN ?_ _ | refine blk_drew ?_ | refine blk_alloc ?_ _)); refine blk_put (cs := #[.int .i64 0, .bool false]) ?_ 0 _ rfl; (with_reducible repeat (first | refine blk_drewN ?_ _ | refine blk_drew ?_ | refine blk_alloc ?_ _)); exact BK264.out) hb); have n2_ := Aside0.mk (below_step (by repeat (first | (with_reducible first | exact HB.out | apply below_alloc | apply pw_below_drewN | apply below_drew1 | refine below_set ?_ GE263.out | refine below_set ?_ GE264.out) | exact HB.out)) hb); have n3_ := Aside0.mk (hbox); have n4_ := Aside0.mk ((by rw [hg]; exact (below_size (by repeat (first | (with_reducible first | exact HB.out | apply below_alloc | apply pw_below_drewN | apply below_drew1 | refine below_set ?_ GE263.out | refine below_set ?_ GE264.out) | exact HB.out))) : w.heap.size ≤ gb265)); have n5_ := Aside0.mk ((by rw [hg]; exact (below_size (by repeat (first | (with_reducible first | exact HB.out | apply below_alloc | apply pw_below_drewN | apply below_drew1 | refine below_set ?_ GE263.out | refine below_set ?_ GE264.out) | exact HB.out))) : w.heap.size ≤ gb265)); have n6_ := Aside0.mk ((by rw [hg]; exact Nat.ne_of_lt (blk_lt (g := gb263) (o := .cells #[.int .i64 a0_0, .bool a0_1, .int .i64 a0_2, .int .i64 a0_3, .bool a0_4, .int .i64 a0_5, .bool a0_6, .int .i64 a0_7, .int .i64 a0_8] 27 (0, 0)) (by (with_reducible repeat (first | refine blk_drewN ?_ _ | refine blk_drew ?_ | refine blk_alloc ?_ _)); refine blk_far ?_ NB263_264.out _; (with_reducible repeat (first | refine blk_drewN ?_ _ | refine blk_drew ?_ | refine blk_alloc ?_ _)); refine blk_far ?_ NB263_264.out _; (with_reducible repeat (first | refine blk_drewN ?_ _ | refine blk_drew ?_ | refine blk_alloc ?_ _)); exact BK263.out)) : gb263 ≠ gb265)); have n7_ := Aside0.mk ((by rw [hg]; exact Nat.ne_of_gt (blk_lt (g := gb263) (o := .cells #[.int .i64 a0_0, .bool a0_1, .int .i64 a0_2, .int .i64 a0_3, .bool a0_4, .int .i64 a0_5, .bool a0_6, .int .i64 a0_7, .int .i64 a0_8] 27 (0, 0)) (by (with_reducible repeat (first | refine blk_drewN ?_ _ | refine blk_drew ?_ | refine blk_alloc ?_ _)); refine blk_far ?_ NB263_264.out _; (with_reducible repeat (first | refine blk_drewN ?_ _ | refine blk_drew ?_ | refine blk_alloc ?_ _)); refine blk_far ?_ NB263_264.out _; (with_reducible repeat (first | refine blk_drewN ?_ _ | refine blk_drew ?_ | refine blk_alloc ?_ _)); exact BK263.out)) : gb265 ≠ gb263)); have n8_ := Aside0.mk ((by rw [hg]; exact Nat.ne_of_lt (blk_lt (g := gb264) (o := .cells #[.int .i64 (Int.tmod (Go.bits .and .i64 a0_3 32767) (wrap64 (1 + (Go.bits .and .i64 a0_8 32767)))), .bool a0_4] 25 (0, 0)) (by (with_reducible repeat (first | refine blk_drewN ?_ _ | refine blk_drew ?_ | refine blk_alloc ?_ _)); refine blk_put (cs := #[.int .i64 (Int.tmod (Go.bits .and .i64 a0_3 32767) (wrap64 (1 + (Go.bits .and .i64 a0_8 32767)))), .bool false]) ?_ 1 _ rfl; (with_reducible repeat (first | refine blk_drewN ?_ _ | refine blk_drew ?_ | refine blk_alloc ?_ _)); refine blk_put (cs := #[.int .i64 0, .bool false]) ?_ 0 _ rfl; (with_reducible repeat (first | refine blk_drewN ?_ _ | refine blk_drew ?_ | refine blk_alloc ?_ _)); exact BK264.out)) : gb264 ≠ gb265)); have n9_ := Aside0.mk ((by rw [hg]; exact Nat.ne_of_gt (blk_lt (g := gb264) (o := .cells #[.int .i64 (Int.tmod (Go.bits .and .i64 a0_3 32767) (wrap64 (1 + (Go.bits .and .i64 a0_8 32767)))), .bool a0_4] 25 (0, 0)) (by (with_reducible repeat (first | refine blk_drewN ?_ _ | refine blk_drew ?_ | refine blk_alloc ?_ _)); refine blk_put (cs := #[.int .i64 (Int.tmod (Go.bits .and .i64 a0_3 32767) (wrap64 (1 + (Go.bits .and .i64 a0_8 32767)))), .bool false]) ?_ 1 _ rfl; (with_reducible repeat (first | refine blk_drewN ?_ _ | refine blk_drew ?_ | refine blk_alloc ?_ _)); refine blk_put (cs := #[.int .i64 0, .bool false]) ?_ 0 _ rfl; (with_reducible repeat (first | refine blk_drewN ?_ _ | refine blk_drew ?_ | refine blk_alloc ?_ _)); exact BK264.out)) : gb265 ≠ gb264)); clear BK263; clear BK264; clear HB; have BK263 := n0_; have BK264 := n1_; have HB := n2_; have BK265 := n3_; have GW265 := n4_; have GE265 := n5_; have NB263_265 := n6_; have NB265_263 := n7_; have NB264_265 := n8_; have NB265_264 := n9_; clear n0_ n1_ n2_ n3_ n4_ n5_ n6_ n7_ n8_ n9_; clear hb hbox hg; have hnb17 := NB265_263.out; have hnc17 := NB263_265.out; have hnb18 := NB265_264.out; have hnc18 := NB264_265.out; have hcz19_0 : w16.cell? ⟨gb265, 0, none⟩ = some (.int .i64 0) := (blk_cell BK265.out 0).trans rfl; have hcz19_1 : w16.cell? ⟨gb265, 1, none⟩ = some (.bool false) := (blk_cell BK265.out 1).trans rfl; have hcz19_2 : w16.cell? ⟨gb265, 2, none⟩ = some (.int .i64 0) := (blk_cell BK265.out 2).trans rfl; have hfz19_0 := blk_frozen BK265.out 0; have hfz19_1 := blk_frozen BK265.out 1; have hfz19_2 := blk_frozen BK265.out 2; have hcz20_0 : w16.cell? ⟨gb264, 0, none⟩ = some (.int .i64 (Int.tmod (Go.bits .and .i64 a0_3 32767) (wrap64 (1 + (Go.bits .and .i64 a0_8 32767))))) := (blk_cell BK264.out 0).trans rfl; have hcz20_1 : w16.cell? ⟨gb264, 1, none⟩ = some (.bool a0_4) := (blk_cell BK264.out 1).trans rfl; have hfz20_0 := blk_frozen BK264.out 0; have hfz20_1 := blk_frozen BK264.out 1) | ((with_reducible refine gate_callee (f := 10) rfl ?_); refine goesL_ (some 53) rfl rfl Try.func10 (by kernel_rfl) rfl #[.agg #[.int .i64 (Int.tmod (Go.bits .and .i64 a0_3 32767) (wrap64 (1 + (Go.bits .and .i64 a0_8 32767)))), .bool a0_4], .int .i64 (Int.tmod (Go.bits .and .i64 a0_7 65535) (wrap64 ((wrap64 (1 + (Go.bits .and .i64 a0_8 32767))) + 1))), .int .i64 (wrap64 (1 + (Go.bits .and .i64 a0_8 32767)))] rfl (by (try simp only [List.map_toArray, List.map_cons, List.map_nil]); first | done | rfl | (simp only [List.length_drop, List.length_take]; rfl)) ?_; (with_reducible refine (spot_Next.calls k (Int.tmod (Go.bits .and .i64 a0_3 32767) (wrap64 (1 + (Go.bits .and .i64 a0_8 32767)))) a0_4 (Int.tmod (Go.bits .and .i64 a0_7 65535) (wrap64 ((wrap64 (1 + (Go.bits .and .i64 a0_8 32767))) + 1))) (wrap64 (1 + (Go.bits .and .i64 a0_8 32767))) t266 t267 t268 _ A5.out).mono ?_); rintro e w21 ⟨rfl, hb⟩; refine ⟨_, rfl, ?_⟩; have n0_ := Aside0.mk (blk_below (g := gb263) (o := .cells #[.int .i64 a0_0, .bool a0_1, .int .i64 a0_2, .int .i64 a0_3, .bool a0_4, .int .i64 a0_5, .bool a0_6, .int .i64 a0_7, .int .i64 a0_8] 27 (0, 0)) (by (with_reducible repeat (first | refine blk_drewN ?_ _ | refine blk_drew ?_ | refine blk_alloc ?_ _)); refine blk_far ?_ NB263_265.out _; (with_reducible repeat (first | refine blk_drewN ?_ _ | refine blk_drew ?_ | refine blk_alloc ?_ _)); refine blk_far ?_ NB263_265.out _; (with_reducible repeat (first | refine blk_drewN ?_ _ | refine blk_drew ?_ | refine blk_alloc ?_ _)); refine blk_far ?_ NB263_265.out _; (with_reducible repeat (first | refine blk_drewN ?_ _ | refine blk_drew ?_ | refine blk_alloc ?_ _)); refine blk_far ?_ NB263_265.out _; (with_reducible repeat (first | refine blk_drewN ?_ _ | refine blk_drew ?_ | refine blk_alloc ?_ _)); exact BK263.out) hb); have n1_ := Aside0.mk (blk_below (g := gb264) (o := .cells #[.int .i64 (Int.tmod (Go.bits .and .i64 a0_3 32767) (wrap64 (1 + (Go.bits .and .i64 a0_8 32767)))), .bool a0_4] 25 (0, 0)) (by (with_reducible repeat (first | refine blk_drewN ?_ _ | refine blk_drew ?_ | refine blk_alloc ?_ _)); refine blk_far ?_ NB264_265.out _; (with_reducible repeat (first | refine blk_drewN ?_ _ | refine blk_drew ?_ | refine blk_alloc ?_ _)); refine blk_far ?_ NB264_265.out _; (with_reducible repeat (first | refine blk_drewN ?_ _ | refine blk_drew ?_ | refine blk_alloc ?_ _)); refine blk_far ?_ NB264_265.out _; (with_reducible repeat (first | refine blk_drewN ?_ _ | refine blk_drew ?_ | refine blk_alloc ?_ _)); refine blk_far ?_ NB264_265.out _; (with_reducible repeat (first | refine blk_drewN ?_ _ | refine blk_drew ?_ | refine blk_alloc ?_ _)); exact BK264.out) hb); have n2_ := Aside0.mk (blk_below (g := gb265) (o := .cells #[.int .i64 (Int.tmod (Go.bits .and .i64 a0_0 32767) (wrap64 (1 + (Go.bits .and .i64 a0_8 32767)))), .bool a0_1, .int .i64 a0_2] 23 (0, 0)) (by (with_reducible repeat (first | refine blk_drewN ?_ _ | refine blk_drew ?_ | refine blk_alloc ?_ _)); refine blk_put (cs := #[.int .i64 a0_0, .bool a0_1, .int .i64 a0_2]) ?_ 0 _ rfl; (with_reducible repeat (first | refine blk_drewN ?_ _ | refine blk_drew ?_ | refine blk_alloc ?_ _)); refine blk_put (cs := #[.int .i64 a0_0, .bool a0_1, .int .i64 0]) ?_ 2 _ rfl; (with_reducible repeat (first | refine blk_drewN ?_ _ | refine blk_drew ?_ | refine blk_alloc ?_ _)); refine blk_put (cs := #[.int .i64 a0_0, .bool false, .int .i64 0]) ?_ 1 _ rfl; (with_reducible repeat (first | refine blk_drewN ?_ _ | refine blk_drew ?_ | refine blk_alloc ?_ _)); refine blk_put (cs := #[.int .i64 0, .bool false, .int .i64 0]) ?_ 0 _ rfl; (with_reducible repeat (first | refine blk_drewN ?_ _ | refine blk_drew ?_ | refine blk_alloc ?_ _)); exact BK265.out) hb); have n3_ := Aside0.mk (below_step (by repeat (first | (with_reducible first | exact HB.out | apply below_alloc | apply pw_below_drewN | apply below_drew1 | refine below_set ?_ GE263.out | refine below_set ?_ GE264.out | refine below_set ?_ GE265.out) | exact HB.out)) hb); clear BK263; clear BK264; clear BK265; clear HB; have BK263 := n0_; have BK264 := n1_; have BK265 := n2_; have HB := n3_; clear n0_ n1_ n2_ n3_; (try clear hb); (try clear hb2); (try clear hk); (try clear hi)) | ((with_reducible refine gate_dst (N := 8) rfl ?_); refine box_event ?hg (N := 8) ?hd (cs := #[.int .i64 0, .bool false]) (t := 25) ?hr ?_; (case hd => rfl); (case hg => rfl); (case hr => first | (go_simp; done) | (go_simp; rfl)); intro gb269 hg w22 hbox hb; have n0_ := Aside0.mk (blk_below (g := gb263) (o := .cells #[.int .i64 a0_0, .bool a0_1, .int .i64 a0_2, .int .i64 a0_3, .bool a0_4, .int .i64 a0_5, .bool a0_6, .int .i64 a0_7, .int .i64 a0_8] 27 (0, 0)) (by (with_reducible repeat (first | refine blk_drewN ?_ _ | refine blk_drew ?_ | refine blk_alloc ?_ _)); exact BK263.out) hb); have n1_ := Aside0.mk (blk_below (g := gb264) (o := .cells #[.int .i64 (Int.tmod (Go.bits .and .i64 a0_3 32767) (wrap64 (1 + (Go.bits .and .i64 a0_8 32767)))), .bool a0_4] 25 (0, 0)) (by (with_reducible repeat (first | refine blk_drewN ?_ _ | refine blk_drew ?_ | refine blk_alloc ?_ _)); exact BK264.out) hb); have n2_ := Aside0.mk (blk_below (g := gb265) (o := .cells #[.int .i64 (Int.tmod (Go.bits .and .i64 a0_0 32767) (wrap64 (1 + (Go.bits .and .i64 a0_8 32767)))), .bool a0_1, .int .i64 a0_2] 23 (0, 0)) (by (with_reducible repeat (first | refine blk_drewN ?_ _ | refine blk_drew ?_ | refine blk_alloc ?_ _)); exact BK265.out) hb); have n3_ := Aside0.mk (below_step (by repeat (first | (with_reducible first | exact HB.out | apply below_alloc | apply pw_below_drewN | apply below_drew1 | refine below_set ?_ GE263.out | refine below_set ?_ GE264.out | refine below_set ?_ GE265.out) | exact HB.out)) hb); have n4_ := Aside0.mk (hbox); have n5_ := Aside0.mk ((by rw [hg]; exact (below_size (by repeat (first | (with_reducible first | exact HB.out | apply below_alloc | apply pw_below_drewN | apply below_drew1 | refine below_set ?_ GE263.out | refine below_set ?_ GE264.out | refine below_set ?_ GE265.out) | exact HB.out))) : w.heap.size ≤ gb269)); have n6_ := Aside0.mk ((by rw [hg]; exact (below_size (by repeat (first | (with_reducible first | exact HB.out | apply below_alloc | apply pw_below_drewN | apply below_drew1 | refine below_set ?_ GE263.out | refine below_set ?_ GE264.out | refine below_set ?_ GE265.out) | exact HB.out))) : w.heap.size ≤ gb269)); have n7_ := Aside0.mk ((by rw [hg]; exact Nat.ne_of_lt (blk_lt (g := gb263) (o := .cells #[.int .i64 a0_0, .bool a0_1, .int .i64 a0_2, .int .i64 a0_3, .bool a0_4, .int .i64 a0_5, .bool a0_6, .int .i64 a0_7, .int .i64 a0_8] 27 (0, 0)) (by (with_reducible repeat (first | refine blk_drewN ?_ _ | refine blk_drew ?_ | refine blk_alloc ?_ _)); exact BK263.out)) : gb263 ≠ gb269)); have n8_ := Aside0.mk ((by rw [hg]; exact Nat.ne_of_gt (blk_lt (g := gb263) (o := .cells #[.int .i64 a0_0, .bool a0_1, .int .i64 a0_2, .int .i64 a0_3, .bool a0_4, .int .i64 a0_5, .bool a0_6, .int .i64 a0_7, .int .i64 a0_8] 27 (0, 0)) (by (with_reducible repeat (first | refine blk_drewN ?_ _ | refine blk_drew ?_ | refine blk_alloc ?_ _)); exact BK263.out)) : gb269 ≠ gb263)); have n9_ := Aside0.mk ((by rw [hg]; exact Nat.ne_of_lt (blk_lt (g := gb264) (o := .cells #[.int .i64 (Int.tmod (Go.bits .and .i64 a0_3 32767) (wrap64 (1 + (Go.bits .and .i64 a0_8 32767)))), .bool a0_4] 25 (0, 0)) (by (with_reducible repeat (first | refine blk_drewN ?_ _ | refine blk_drew ?_ | refine blk_alloc ?_ _)); exact BK264.out)) : gb264 ≠ gb269)); have n10_ := Aside0.mk ((by rw [hg]; exact Nat.ne_of_gt (blk_lt (g := gb264) (o := .cells #[.int .i64 (Int.tmod (Go.bits .and .i64 a0_3 32767) (wrap64 (1 + (Go.bits .and .i64 a0_8 32767)))), .bool a0_4] 25 (0, 0)) (by (with_reducible repeat (first | refine blk_drewN ?_ _ | refine blk_drew ?_ | refine blk_alloc ?_ _)); exact BK264.out)) : gb269 ≠ gb264)); have n11_ := Aside0.mk ((by rw [hg]; exact Nat.ne_of_lt (blk_lt (g := gb265) (o := .cells #[.int .i64 (Int.tmod (Go.bits .and .i64 a0_0 32767) (wrap64 (1 + (Go.bits .and .i64 a0_8 32767)))), .bool a0_1, .int .i64 a0_2] 23 (0, 0)) (by (with_reducible repeat (first | refine blk_drewN ?_ _ | refine blk_drew ?_ | refine blk_alloc ?_ _)); exact BK265.out)) : gb265 ≠ gb269)); have n12_ := Aside0.mk ((by rw [hg]; exact Nat.ne_of_gt (blk_lt (g := gb265) (o := .cells #[.int .i64 (Int.tmod (Go.bits .and .i64 a0_0 32767) (wrap64 (1 + (Go.bits .and .i64 a0_8 32767)))), .bool a0_1, .int .i64 a0_2] 23 (0, 0)) (by (with_reducible repeat (first | refine blk_drewN ?_ _ | refine blk_drew ?_ | refine blk_alloc ?_ _)); exact BK265.out)) : gb269 ≠ gb265)); clear BK263; clear BK264; clear BK265; clear HB; have BK263 := n0_; have BK264 := n1_; have BK265 := n2_; have HB := n3_; have BK269 := n4_; have GW269 := n5_; have GE269 := n6_; have NB263_269 := n7_; have NB269_263 := n8_; have NB264_269 := n9_; have NB269_264 := n10_; have NB265_269 := n11_; have NB269_265 := n12_; clear n0_ n1_ n2_ n3_ n4_ n5_ n6_ n7_ n8_ n9_ n10_ n11_ n12_; clear hb hbox hg; have hnb23 := NB269_263.out; have hnc23 := NB263_269.out; have hnb24 := NB269_264.out; have hnc24 := NB264_269.out; have hnb25 := NB269_265.out; have hnc25 := NB265_269.out; have hcz26_0 : w22.cell? ⟨gb269, 0, none⟩ = some (.int .i64 0) := (blk_cell BK269.out 0).trans rfl; have hcz26_1 : w22.cell? ⟨gb269, 1, none⟩ = some (.bool false) := (blk_cell BK269.out 1).trans rfl; have hfz26_0 := blk_frozen BK269.out 0; have hfz26_1 := blk_frozen BK269.out 1) | ((with_reducible refine gate_callee (f := 10) rfl ?_); refine goesL_ (some 60) rfl rfl Try.func10 (by kernel_rfl) rfl #[.agg #[.int .i64 t266, .bool t267], .int .i64 (Int.tmod (Go.bits .and .i64 a0_5 65535) (wrap64 ((wrap64 ((wrap64 (1 + (Go.bits .and .i64 a0_8 32767))) - (Int.tmod (Go.bits .and .i64 a0_7 65535) (wrap64 ((wrap64 (1 + (Go.bits .and .i64 a0_8 32767))) + 1))))) + 1))), .int .i64 (wrap64 (1 + (Go.bits .and .i64 a0_8 32767)))] rfl (by (try simp only [List.map_toArray, List.map_cons, List.map_nil]); first | done | rfl | (simp only [List.length_drop, List.length_take]; rfl)) ?_; (with_reducible refine (spot_Next.calls k t266 t267 (Int.tmod (Go.bits .and .i64 a0_5 65535) (wrap64 ((wrap64 ((wrap64 (1 + (Go.bits .and .i64 a0_8 32767))) - (Int.tmod (Go.bits .and .i64 a0_7 65535) (wrap64 ((wrap64 (1 + (Go.bits .and .i64 a0_8 32767))) + 1))))) + 1))) (wrap64 (1 + (Go.bits .and .i64 a0_8 32767))) t270 t271 t272 _ A6.out).mono ?_); rintro e w27 ⟨rfl, hb⟩; refine ⟨_, rfl, ?_⟩; have n0_ := Aside0.mk (blk_below (g := gb263) (o := .cells #[.int .i64 a0_0, .bool a0_1, .int .i64 a0_2, .int .i64 a0_3, .bool a0_4, .int .i64 a0_5, .bool a0_6, .int .i64 a0_7, .int .i64 a0_8] 27 (0, 0)) (by (with_reducible repeat (first | refine blk_drewN ?_ _ | refine blk_drew ?_ | refine blk_alloc ?_ _)); refine blk_far ?_ NB263_269.out _; (with_reducible repeat (first | refine blk_drewN ?_ _ | refine blk_drew ?_ | refine blk_alloc ?_ _)); refine blk_far ?_ NB263_269.out _; (with_reducible repeat (first | refine blk_drewN ?_ _ | refine blk_drew ?_ | refine blk_alloc ?_ _)); exact BK263.out) hb); have n1_ := Aside0.mk (blk_below (g := gb264) (o := .cells #[.int .i64 (Int.tmod (Go.bits .and .i64 a0_3 32767) (wrap64 (1 + (Go.bits .and .i64 a0_8 32767)))), .bool a0_4] 25 (0, 0)) (by (with_reducible repeat (first | refine blk_drewN ?_ _ | refine blk_drew ?_ | refine blk_alloc ?_ _)); refine blk_far ?_ NB264_269.out _; (with_reducible repeat (first | refine blk_drewN ?_ _ | refine blk_drew ?_ | refine blk_alloc ?_ _)); refine blk_far ?_ NB264_269.out _; (with_reducible repeat (first | refine blk_drewN ?_ _ | refine blk_drew ?_ | refine blk_alloc ?_ _)); exact BK264.out) hb); have n2_ := Aside0.mk (blk_below (g := gb265) (o := .cells #[.int .i64 (Int.tmod (Go.bits .and .i64 a0_0 32767) (wrap64 (1 + (Go.bits .and .i64 a0_8 32767)))), .bool a0_1, .int .i64 a0_2] 23 (0, 0)) (by (with_reducible repeat (first | refine blk_drewN ?_ _ | refine blk_drew ?_ | refine blk_alloc ?_ _)); refine blk_far ?_ NB265_269.out _; (with_reducible repeat (first | refine blk_drewN ?_ _ | refine blk_drew ?_ | refine blk_alloc ?_ _)); refine blk_far ?_ NB265_269.out _; (with_reducible repeat (first | refine blk_drewN ?_ _ | refine blk_drew ?_ | refine blk_alloc ?_ _)); exact BK265.out) hb); have n3_ := Aside0.mk (blk_below (g := gb269) (o := .cells #[.int .i64 t266, .bool t267] 25 (0, 0)) (by (with_reducible repeat (first | refine blk_drewN ?_ _ | refine blk_drew ?_ | refine blk_alloc ?_ _)); refine blk_put (cs := #[.int .i64 t266, .bool false]) ?_ 1 _ rfl; (with_reducible repeat (first | refine blk_drewN ?_ _ | refine blk_drew ?_ | refine blk_alloc ?_ _)); refine blk_put (cs := #[.int .i64 0, .bool false]) ?_ 0 _ rfl; (with_reducible repeat (first | refine blk_drewN ?_ _ | refine blk_drew ?_ | refine blk_alloc ?_ _)); exact BK269.out) hb); have n4_ := Aside0.mk (below_step (by repeat (first | (with_reducible first | exact HB.out | apply below_alloc | apply pw_below_drewN | apply below_drew1 | refine below_set ?_ GE263.out | refine below_set ?_ GE264.out | refine below_set ?_ GE265.out | refine below_set ?_ GE269.out) | exact HB.out)) hb); clear BK263; clear BK264; clear BK265; clear BK269; clear HB; have BK263 := n0_; have BK264 := n1_; have BK265 := n2_; have BK269 := n3_; have HB := n4_; clear n0_ n1_ n2_ n3_ n4_; (try clear hb); (try clear hb2); (try clear hk); (try clear hi)) | ((with_reducible refine gate_dst (N := 10) rfl ?_); refine box_event ?hg (N := 10) ?hd (cs := #[.int .i64 0, .bool false]) (t := 25) ?hr ?_; (case hd => rfl); (case hg => rfl); (case hr => first | (go_simp; done) | (go_simp; rfl)); intro gb273 hg w28 hbox hb; have n0_ := Aside0.mk (blk_below (g := gb263) (o := .cells #[.int .i64 a0_0, .bool a0_1, .int .i64 a0_2, .int .i64 a0_3, .bool a0_4, .int .i64 a0_5, .bool a0_6, .int .i64 a0_7, .int .i64 a0_8] 27 (0, 0)) (by (with_reducible repeat (first | refine blk_drewN ?_ _ | refine blk_drew ?_ | refine blk_alloc ?_ _)); exact BK263.out) hb); have n1_ := Aside0.mk (blk_below (g := gb264) (o := .cells #[.int .i64 (Int.tmod (Go.bits .and .i64 a0_3 32767) (wrap64 (1 + (Go.bits .and .i64 a0_8 32767)))), .bool a0_4] 25 (0, 0)) (by (with_reducible repeat (first | refine blk_drewN ?_ _ | refine blk_drew ?_ | refine blk_alloc ?_ _)); exact BK264.out) hb); have n2_ := Aside0.mk (blk_below (g := gb265) (o := .cells #[.int .i64 (Int.tmod (Go.bits .and .i64 a0_0 32767) (wrap64 (1 + (Go.bits .and .i64 a0_8 32767)))), .bool a0_1, .int .i64 a0_2] 23 (0, 0)) (by (with_reducible repeat (first | refine blk_drewN ?_ _ | refine blk_drew ?_ | refine blk_alloc ?_ _)); exact BK265.out) hb); have n3_ := Aside0.mk (blk_below (g := gb269) (o := .cells #[.int .i64 t266, .bool t267] 25 (0, 0)) (by (with_reducible repeat (first | refine blk_drewN ?_ _ | refine blk_drew ?_ | refine blk_alloc ?_ _)); exact BK269.out) hb); have n4_ := Aside0.mk (below_step (by repeat (first | (with_reducible first | exact HB.out | apply below_alloc | apply pw_below_drewN | apply below_drew1 | refine below_set ?_ GE263.out | refine below_set ?_ GE264.out | refine below_set ?_ GE265.out | refine below_set ?_ GE269.out) | exact HB.out)) hb); have n5_ := Aside0.mk (hbox); have n6_ := Aside0.mk ((by rw [hg]; exact (below_size (by repeat (first | (with_reducible first | exact HB.out | apply below_alloc | apply pw_below_drewN | apply below_drew1 | refine below_set ?_ GE263.out | refine below_set ?_ GE264.out | refine below_set ?_ GE265.out | refine below_set ?_ GE269.out) | exact HB.out))) : w.heap.size ≤ gb273)); have n7_ := Aside0.mk ((by rw [hg]; exact (below_size (by repeat (first | (with_reducible first | exact HB.out | apply below_alloc | apply pw_below_drewN | apply below_drew1 | refine below_set ?_ GE263.out | refine below_set ?_ GE264.out | refine below_set ?_ GE265.out | refine below_set ?_ GE269.out) | exact HB.out))) : w.heap.size ≤ gb273)); have n8_ := Aside0.mk ((by rw [hg]; exact Nat.ne_of_lt (blk_lt (g := gb263) (o := .cells #[.int .i64 a0_0, .bool a0_1, .int .i64 a0_2, .int .i64 a0_3, .bool a0_4, .int .i64 a0_5, .bool a0_6, .int .i64 a0_7, .int .i64 a0_8] 27 (0, 0)) (by (with_reducible repeat (first | refine blk_drewN ?_ _ | refine blk_drew ?_ | refine blk_alloc ?_ _)); exact BK263.out)) : gb263 ≠ gb273)); have n9_ := Aside0.mk ((by rw [hg]; exact Nat.ne_of_gt (blk_lt (g := gb263) (o := .cells #[.int .i64 a0_0, .bool a0_1, .int .i64 a0_2, .int .i64 a0_3, .bool a0_4, .int .i64 a0_5, .bool a0_6, .int .i64 a0_7, .int .i64 a0_8] 27 (0, 0)) (by (with_reducible repeat (first | refine blk_drewN ?_ _ | refine blk_drew ?_ | refine blk_alloc ?_ _)); exact BK263.out)) : gb273 ≠ gb263)); have n10_ := Aside0.mk ((by rw [hg]; exact Nat.ne_of_lt (blk_lt (g := gb264) (o := .cells #[.int .i64 (Int.tmod (Go.bits .and .i64 a0_3 32767) (wrap64 (1 + (Go.bits .and .i64 a0_8 32767)))), .bool a0_4] 25 (0, 0)) (by (with_reducible repeat (first | refine blk_drewN ?_ _ | refine blk_drew ?_ | refine blk_alloc ?_ _)); exact BK264.out)) : gb264 ≠ gb273)); have n11_ := Aside0.mk ((by rw [hg]; exact Nat.ne_of_gt (blk_lt (g := gb264) (o := .cells #[.int .i64 (Int.tmod (Go.bits .and .i64 a0_3 32767) (wrap64 (1 + (Go.bits .and .i64 a0_8 32767)))), .bool a0_4] 25 (0, 0)) (by (with_reducible repeat (first | refine blk_drewN ?_ _ | refine blk_drew ?_ | refine blk_alloc ?_ _)); exact BK264.out)) : gb273 ≠ gb264)); have n12_ := Aside0.mk ((by rw [hg]; exact Nat.ne_of_lt (blk_lt (g := gb265) (o := .cells #[.int .i64 (Int.tmod (Go.bits .and .i64 a0_0 32767) (wrap64 (1 + (Go.bits .and .i64 a0_8 32767)))), .bool a0_1, .int .i64 a0_2] 23 (0, 0)) (by (with_reducible repeat (first | refine blk_drewN ?_ _ | refine blk_drew ?_ | refine blk_alloc ?_ _)); exact BK265.out)) : gb265 ≠ gb273)); have n13_ := Aside0.mk ((by rw [hg]; exact Nat.ne_of_gt (blk_lt (g := gb265) (o := .cells #[.int .i64 (Int.tmod (Go.bits .and .i64 a0_0 32767) (wrap64 (1 + (Go.bits .and .i64 a0_8 32767)))), .bool a0_1, .int .i64 a0_2] 23 (0, 0)) (by (with_reducible repeat (first | refine blk_drewN ?_ _ | refine blk_drew ?_ | refine blk_alloc ?_ _)); exact BK265.out)) : gb273 ≠ gb265)); have n14_ := Aside0.mk ((by rw [hg]; exact Nat.ne_of_lt (blk_lt (g := gb269) (o := .cells #[.int .i64 t266, .bool t267] 25 (0, 0)) (by (with_reducible repeat (first | refine blk_drewN ?_ _ | refine blk_drew ?_ | refine blk_alloc ?_ _)); exact BK269.out)) : gb269 ≠ gb273)); have n15_ := Aside0.mk ((by rw [hg]; exact Nat.ne_of_gt (blk_lt (g := gb269) (o := .cells #[.int .i64 t266, .bool t267] 25 (0, 0)) (by (with_reducible repeat (first | refine blk_drewN ?_ _ | refine blk_drew ?_ | refine blk_alloc ?_ _)); exact BK269.out)) : gb273 ≠ gb269)); clear BK263; clear BK264; clear BK265; clear BK269; clear HB; have BK263 := n0_; have BK264 := n1_; have BK265 := n2_; have BK269 := n3_; have HB := n4_; have BK273 := n5_; have GW273 := n6_; have GE273 := n7_; have NB263_273 := n8_; have NB273_263 := n9_; have NB264_273 := n10_; have NB273_264 := n11_; have NB265_273 := n12_; have NB273_265 := n13_; have NB269_273 := n14_; have NB273_269 := n15_; clear n0_ n1_ n2_ n3_ n4_ n5_ n6_ n7_ n8_ n9_ n10_ n11_ n12_ n13_ n14_ n15_; clear hb hbox hg; have hnb29 := NB273_263.out; have hnc29 := NB263_273.out; have hnb30 := NB273_264.out; have hnc30 := NB264_273.out; have hnb31 := NB273_265.out; have hnc31 := NB265_273.out; have hnb32 := NB273_269.out; have hnc32 := NB269_273.out; have hcz33_0 : w28.cell? ⟨gb273, 0, none⟩ = some (.int .i64 0) := (blk_cell BK273.out 0).trans rfl; have hcz33_1 : w28.cell? ⟨gb273, 1, none⟩ = some (.bool false) := (blk_cell BK273.out 1).trans rfl; have hfz33_0 := blk_frozen BK273.out 0; have hfz33_1 := blk_frozen BK273.out 1))
        (try simp only [Act.put, List.setIfInBounds_toArray, List.set_cons_zero, List.set_cons_succ])
        go_cut [68] (fun v68 wc => ∃ (kq : Nat) (x68_6 : Bool), v68 = .bool x68_6 ∧ Aside0 (aqueductlaw13_SpotParts.j0 kq (wrap64 (1 + (Go.bits .and .i64 a0_8 32767))) x68_6 (Int.tmod (Go.bits .and .i64 a0_3 32767) (wrap64 (1 + (Go.bits .and .i64 a0_8 32767)))) a0_4 (Int.tmod (Go.bits .and .i64 a0_0 32767) (wrap64 (1 + (Go.bits .and .i64 a0_8 32767)))) a0_1 a0_2 t266 t267 t270 t271 = some r) ∧ Aside0 (kq ≤ k) ∧ Aside0 (wc.heap[gb263]? = some (.cells #[.int .i64 a0_0, .bool a0_1, .int .i64 a0_2, .int .i64 a0_3, .bool a0_4, .int .i64 a0_5, .bool a0_6, .int .i64 a0_7, .int .i64 a0_8] 27 (0, 0))) ∧ Aside0 (wc.heap[gb264]? = some (.cells #[.int .i64 (Int.tmod (Go.bits .and .i64 a0_3 32767) (wrap64 (1 + (Go.bits .and .i64 a0_8 32767)))), .bool a0_4] 25 (0, 0))) ∧ Aside0 (wc.heap[gb265]? = some (.cells #[.int .i64 (Int.tmod (Go.bits .and .i64 a0_0 32767) (wrap64 (1 + (Go.bits .and .i64 a0_8 32767)))), .bool a0_1, .int .i64 a0_2] 23 (0, 0))) ∧ Aside0 (wc.heap[gb269]? = some (.cells #[.int .i64 t266, .bool t267] 25 (0, 0))) ∧ Aside0 (wc.heap[gb273]? = some (.cells #[.int .i64 t270, .bool t271] 25 (0, 0))) ∧ Aside0 (Below w.heap.size w wc))
        case first =>
          have H := HC7.out
          clear HC7
          by_cases c34 : t268 = 0
          · rw [if_pos c34] at H
            have c34b0 : (t268 == 0) = true := beq_iff_eq.mpr c34
            have c34b1 : (t268 != 0) = false := bne_eq_false_iff_eq.mpr c34
            clear c34
            (first | rw [c34b0] | (simp only [i64_w, i32_w]; rw [c34b0]) | skip)
            have H' := Aside0.mk H
            clear H
            go_wp2
            go_meet
            case rel => exact ⟨_, ((t272 != 0)), (by first | rfl | (simp; done) | (simp [*]; done)), H', ⟨by first | omega | exact Nat.le_refl _⟩, ⟨by (with_reducible repeat (first | refine blk_drewN ?_ _ | refine blk_drew ?_ | refine blk_alloc ?_ _)); refine blk_far ?_ NB263_273.out _; (with_reducible repeat (first | refine blk_drewN ?_ _ | refine blk_drew ?_ | refine blk_alloc ?_ _)); refine blk_far ?_ NB263_273.out _; (with_reducible repeat (first | refine blk_drewN ?_ _ | refine blk_drew ?_ | refine blk_alloc ?_ _)); exact BK263.out⟩, ⟨by (with_reducible repeat (first | refine blk_drewN ?_ _ | refine blk_drew ?_ | refine blk_alloc ?_ _)); refine blk_far ?_ NB264_273.out _; (with_reducible repeat (first | refine blk_drewN ?_ _ | refine blk_drew ?_ | refine blk_alloc ?_ _)); refine blk_far ?_ NB264_273.out _; (with_reducible repeat (first | refine blk_drewN ?_ _ | refine blk_drew ?_ | refine blk_alloc ?_ _)); exact BK264.out⟩, ⟨by (with_reducible repeat (first | refine blk_drewN ?_ _ | refine blk_drew ?_ | refine blk_alloc ?_ _)); refine blk_far ?_ NB265_273.out _; (with_reducible repeat (first | refine blk_drewN ?_ _ | refine blk_drew ?_ | refine blk_alloc ?_ _)); refine blk_far ?_ NB265_273.out _; (with_reducible repeat (first | refine blk_drewN ?_ _ | refine blk_drew ?_ | refine blk_alloc ?_ _)); exact BK265.out⟩, ⟨by (with_reducible repeat (first | refine blk_drewN ?_ _ | refine blk_drew ?_ | refine blk_alloc ?_ _)); refine blk_far ?_ NB269_273.out _; (with_reducible repeat (first | refine blk_drewN ?_ _ | refine blk_drew ?_ | refine blk_alloc ?_ _)); refine blk_far ?_ NB269_273.out _; (with_reducible repeat (first | refine blk_drewN ?_ _ | refine blk_drew ?_ | refine blk_alloc ?_ _)); exact BK269.out⟩, ⟨by (with_reducible repeat (first | refine blk_drewN ?_ _ | refine blk_drew ?_ | refine blk_alloc ?_ _)); refine blk_put (cs := #[.int .i64 t270, .bool false]) ?_ 1 _ rfl; (with_reducible repeat (first | refine blk_drewN ?_ _ | refine blk_drew ?_ | refine blk_alloc ?_ _)); refine blk_put (cs := #[.int .i64 0, .bool false]) ?_ 0 _ rfl; (with_reducible repeat (first | refine blk_drewN ?_ _ | refine blk_drew ?_ | refine blk_alloc ?_ _)); exact BK273.out⟩, ⟨by repeat (first | (with_reducible first | exact HB.out | apply below_alloc | apply pw_below_drewN | apply below_drew1 | refine below_set ?_ GE263.out | refine below_set ?_ GE264.out | refine below_set ?_ GE265.out | refine below_set ?_ GE269.out | refine below_set ?_ GE273.out) | exact HB.out)⟩⟩
          · rw [if_neg c34] at H
            have c34b0 : (t268 == 0) = false := beq_eq_false_iff_ne.mpr c34
            have c34b1 : (t268 != 0) = true := bne_iff_ne.mpr c34
            (first | rw [c34b0] | (simp only [i64_w, i32_w]; rw [c34b0]) | skip)
            have H' := Aside0.mk H
            clear H
            go_wp2
            go_meet
            case rel => exact ⟨_, (true), (by first | rfl | (simp; done) | (simp [*]; done)), H', ⟨by first | omega | exact Nat.le_refl _⟩, ⟨by (with_reducible repeat (first | refine blk_drewN ?_ _ | refine blk_drew ?_ | refine blk_alloc ?_ _)); refine blk_far ?_ NB263_273.out _; (with_reducible repeat (first | refine blk_drewN ?_ _ | refine blk_drew ?_ | refine blk_alloc ?_ _)); refine blk_far ?_ NB263_273.out _; (with_reducible repeat (first | refine blk_drewN ?_ _ | refine blk_drew ?_ | refine blk_alloc ?_ _)); exact BK263.out⟩, ⟨by (with_reducible repeat (first | refine blk_drewN ?_ _ | refine blk_drew ?_ | refine blk_alloc ?_ _)); refine blk_far ?_ NB264_273.out _; (with_reducible repeat (first | refine blk_drewN ?_ _ | refine blk_drew ?_ | refine blk_alloc ?_ _)); refine blk_far ?_ NB264_273.out _; (with_reducible repeat (first | refine blk_drewN ?_ _ | refine blk_drew ?_ | refine blk_alloc ?_ _)); exact BK264.out⟩, ⟨by (with_reducible repeat (first | refine blk_drewN ?_ _ | refine blk_drew ?_ | refine blk_alloc ?_ _)); refine blk_far ?_ NB265_273.out _; (with_reducible repeat (first | refine blk_drewN ?_ _ | refine blk_drew ?_ | refine blk_alloc ?_ _)); refine blk_far ?_ NB265_273.out _; (with_reducible repeat (first | refine blk_drewN ?_ _ | refine blk_drew ?_ | refine blk_alloc ?_ _)); exact BK265.out⟩, ⟨by (with_reducible repeat (first | refine blk_drewN ?_ _ | refine blk_drew ?_ | refine blk_alloc ?_ _)); refine blk_far ?_ NB269_273.out _; (with_reducible repeat (first | refine blk_drewN ?_ _ | refine blk_drew ?_ | refine blk_alloc ?_ _)); refine blk_far ?_ NB269_273.out _; (with_reducible repeat (first | refine blk_drewN ?_ _ | refine blk_drew ?_ | refine blk_alloc ?_ _)); exact BK269.out⟩, ⟨by (with_reducible repeat (first | refine blk_drewN ?_ _ | refine blk_drew ?_ | refine blk_alloc ?_ _)); refine blk_put (cs := #[.int .i64 t270, .bool false]) ?_ 1 _ rfl; (with_reducible repeat (first | refine blk_drewN ?_ _ | refine blk_drew ?_ | refine blk_alloc ?_ _)); refine blk_put (cs := #[.int .i64 0, .bool false]) ?_ 0 _ rfl; (with_reducible repeat (first | refine blk_drewN ?_ _ | refine blk_drew ?_ | refine blk_alloc ?_ _)); exact BK273.out⟩, ⟨by repeat (first | (with_reducible first | exact HB.out | apply below_alloc | apply pw_below_drewN | apply below_drew1 | refine below_set ?_ GE263.out | refine below_set ?_ GE264.out | refine below_set ?_ GE265.out | refine below_set ?_ GE269.out | refine below_set ?_ GE273.out) | exact HB.out)⟩⟩
        case rest =>
          clear HC7
          try clear c1
          try clear c2
          try clear c2b0
          try clear c2b1
          try clear p2
          try clear c3
          try clear c3b0
          try clear c3b1
          try clear c4
          try clear c4b0
          try clear c4b1
          try clear p6
          try clear c7
          try clear c10
          try clear c14
          try clear c17
          try clear c18
          try clear c23
          try clear c24
          try clear c25
          try clear c29
          try clear c30
          try clear c31
          try clear c32
          try clear c34
          try clear c34b0
          try clear c34b1
          try clear hcz15_0
          try clear hcz15_1
          try clear hcz15_2
          try clear hcz15_3
          try clear hcz15_4
          try clear hcz15_5
          try clear hcz15_6
          try clear hcz15_7
          try clear hcz15_8
          try clear hcz19_0
          try clear hcz19_1
          try clear hcz19_2
          try clear hcz20_0
          try clear hcz20_1
          try clear hcz26_0
          try clear hcz26_1
          try clear hcz33_0
          try clear hcz33_1
          try clear hcz9_0
          try clear hcz9_1
          try clear hcz9_2
          try clear hcz9_3
          try clear hcz9_4
          try clear hcz9_5
          try clear hcz9_6
          try clear hcz9_7
          try clear hcz9_8
          try clear hfz15_0
          try clear hfz15_1
          try clear hfz15_2
          try clear hfz15_3
          try clear hfz15_4
          try clear hfz15_5
          try clear hfz15_6
          try clear hfz15_7
          try clear hfz15_8
          try clear hfz19_0
          try clear hfz19_1
          try clear hfz19_2
          try clear hfz20_0
          try clear hfz20_1
          try clear hfz26_0
          try clear hfz26_1
          try clear hfz33_0
          try clear hfz33_1
          try clear hfz9_0
          try clear hfz9_1
          try clear hfz9_2
          try clear hfz9_3
          try clear hfz9_4
          try clear hfz9_5
          try clear hfz9_6
          try clear hfz9_7
          try clear hfz9_8
          obtain ⟨kq, x68_6, rfl, HA, HJ6, BK263, BK264, BK265, BK269, BK273, HB⟩ := hcut
          cases kq with
          | zero => exact absurd HA.out (by simp [aqueductlaw13_SpotParts.j0])
          | succ kj6 =>
            have H := HA.out
            clear HA
            simp only [aqueductlaw13_SpotParts.j0] at H
            by_cases c35 : x68_6 = true
            · subst c35
              have H1 : (some false) = some r := by rw [if_pos rfl] at H; exact H
              clear H
              have H := H1
              clear H1
              obtain rfl := Option.some.inj H
              exact absurd HR_.out (by decide)
            · replace c35 := Bool.eq_false_iff.mpr c35
              subst c35
              have H1 : ((spot_Need.f kj6 (Int.tmod (Go.bits .and .i64 a0_0 32767) (wrap64 (1 + (Go.bits .and .i64 a0_8 32767)))) a0_1 a0_2 (Int.tmod (Go.bits .and .i64 a0_3 32767) (wrap64 (1 + (Go.bits .and .i64 a0_8 32767)))) a0_4 t270 t271 (wrap64 (1 + (Go.bits .and .i64 a0_8 32767)))).bind fun t274 => ((spot_Need.f kj6 (Int.tmod (Go.bits .and .i64 a0_0 32767) (wrap64 (1 + (Go.bits .and .i64 a0_8 32767)))) a0_1 a0_2 (Int.tmod (Go.bits .and .i64 a0_3 32767) (wrap64 (1 + (Go.bits .and .i64 a0_8 32767)))) a0_4 t266 t267 (wrap64 (1 + (Go.bits .and .i64 a0_8 32767)))).bind fun t275 => (if t275 = true then (if (t274 == true) = true then ((spot_Need.f kj6 (Int.tmod (Go.bits .and .i64 a0_0 32767) (wrap64 (1 + (Go.bits .and .i64 a0_8 32767)))) a0_1 a0_2 (Int.tmod (Go.bits .and .i64 a0_3 32767) (wrap64 (1 + (Go.bits .and .i64 a0_8 32767)))) a0_4 (Int.tmod (Go.bits .and .i64 a0_3 32767) (wrap64 (1 + (Go.bits .and .i64 a0_8 32767)))) a0_4 (wrap64 (1 + (Go.bits .and .i64 a0_8 32767)))).bind fun t276 => (if t276 = true then (some false) else ((aqueductlaw13_fixed.f kj6).bind fun t277 => (some t277)))) else (some false)) else ((spot_Need.f kj6 (Int.tmod (Go.bits .and .i64 a0_0 32767) (wrap64 (1 + (Go.bits .and .i64 a0_8 32767)))) a0_1 a0_2 t266 t267 t270 t271 (wrap64 (1 + (Go.bits .and .i64 a0_8 32767)))).bind fun t278 => (if (t274 == t278) = true then ((spot_Need.f kj6 (Int.tmod (Go.bits .and .i64 a0_0 32767) (wrap64 (1 + (Go.bits .and .i64 a0_8 32767)))) a0_1 a0_2 (Int.tmod (Go.bits .and .i64 a0_3 32767) (wrap64 (1 + (Go.bits .and .i64 a0_8 32767)))) a0_4 (Int.tmod (Go.bits .and .i64 a0_3 32767) (wrap64 (1 + (Go.bits .and .i64 a0_8 32767)))) a0_4 (wrap64 (1 + (Go.bits .and .i64 a0_8 32767)))).bind fun t279 => (if t279 = true then (some false) else ((aqueductlaw13_fixed.f kj6).bind fun t280 => (some t280)))) else (some false)))))) = some r := by rw [if_neg (show ¬ (false = true) by decide)] at H; exact H
              clear H
              have H := H1
              clear H1
              replace H := Option.bind_eq_some_iff.mp H
              obtain ⟨t274, A360, H⟩ := H
              replace H : ((spot_Need.f kj6 (Int.tmod (Go.bits .and .i64 a0_0 32767) (wrap64 (1 + (Go.bits .and .i64 a0_8 32767)))) a0_1 a0_2 (Int.tmod (Go.bits .and .i64 a0_3 32767) (wrap64 (1 + (Go.bits .and .i64 a0_8 32767)))) a0_4 t266 t267 (wrap64 (1 + (Go.bits .and .i64 a0_8 32767)))).bind fun t275 => (if t275 = true then (if (t274 == true) = true then ((spot_Need.f kj6 (Int.tmod (Go.bits .and .i64 a0_0 32767) (wrap64 (1 + (Go.bits .and .i64 a0_8 32767)))) a0_1 a0_2 (Int.tmod (Go.bits .and .i64 a0_3 32767) (wrap64 (1 + (Go.bits .and .i64 a0_8 32767)))) a0_4 (Int.tmod (Go.bits .and .i64 a0_3 32767) (wrap64 (1 + (Go.bits .and .i64 a0_8 32767)))) a0_4 (wrap64 (1 + (Go.bits .and .i64 a0_8 32767)))).bind fun t276 => (if t276 = true then (some false) else ((aqueductlaw13_fixed.f kj6).bind fun t277 => (some t277)))) else (some false)) else ((spot_Need.f kj6 (Int.tmod (Go.bits .and .i64 a0_0 32767) (wrap64 (1 + (Go.bits .and .i64 a0_8 32767)))) a0_1 a0_2 t266 t267 t270 t271 (wrap64 (1 + (Go.bits .and .i64 a0_8 32767)))).bind fun t278 => (if (t274 == t278) = true then ((spot_Need.f kj6 (Int.tmod (Go.bits .and .i64 a0_0 32767) (wrap64 (1 + (Go.bits .and .i64 a0_8 32767)))) a0_1 a0_2 (Int.tmod (Go.bits .and .i64 a0_3 32767) (wrap64 (1 + (Go.bits .and .i64 a0_8 32767)))) a0_4 (Int.tmod (Go.bits .and .i64 a0_3 32767) (wrap64 (1 + (Go.bits .and .i64 a0_8 32767)))) a0_4 (wrap64 (1 + (Go.bits .and .i64 a0_8 32767)))).bind fun t279 => (if t279 = true then (some false) else ((aqueductlaw13_fixed.f kj6).bind fun t280 => (some t280)))) else (some false))))) = some r := H
              have A36 := Aside0.mk A360
              clear A360
              replace H := Option.bind_eq_some_iff.mp H
              obtain ⟨t275, A370, H⟩ := H
              replace H : (if t275 = true then (if (t274 == true) = true then ((spot_Need.f kj6 (Int.tmod (Go.bits .and .i64 a0_0 32767) (wrap64 (1 + (Go.bits .and .i64 a0_8 32767)))) a0_1 a0_2 (Int.tmod (Go.bits .and .i64 a0_3 32767) (wrap64 (1 + (Go.bits .and .i64 a0_8 32767)))) a0_4 (Int.tmod (Go.bits .and .i64 a0_3 32767) (wrap64 (1 + (Go.bits .and .i64 a0_8 32767)))) a0_4 (wrap64 (1 + (Go.bits .and .i64 a0_8 32767)))).bind fun t276 => (if t276 = true then (some false) else ((aqueductlaw13_fixed.f kj6).bind fun t277 => (some t277)))) else (some false)) else ((spot_Need.f kj6 (Int.tmod (Go.bits .and .i64 a0_0 32767) (wrap64 (1 + (Go.bits .and .i64 a0_8 32767)))) a0_1 a0_2 t266 t267 t270 t271 (wrap64 (1 + (Go.bits .and .i64 a0_8 32767)))).bind fun t278 => (if (t274 == t278) = true then ((spot_Need.f kj6 (Int.tmod (Go.bits .and .i64 a0_0 32767) (wrap64 (1 + (Go.bits .and .i64 a0_8 32767)))) a0_1 a0_2 (Int.tmod (Go.bits .and .i64 a0_3 32767) (wrap64 (1 + (Go.bits .and .i64 a0_8 32767)))) a0_4 (Int.tmod (Go.bits .and .i64 a0_3 32767) (wrap64 (1 + (Go.bits .and .i64 a0_8 32767)))) a0_4 (wrap64 (1 + (Go.bits .and .i64 a0_8 32767)))).bind fun t279 => (if t279 = true then (some false) else ((aqueductlaw13_fixed.f kj6).bind fun t280 => (some t280)))) else (some false)))) = some r := H
              have A37 := Aside0.mk A370
              clear A370
              by_cases c38 : t275 = true
              · subst c38
                have H1 : (if (t274 == true) = true then ((spot_Need.f kj6 (Int.tmod (Go.bits .and .i64 a0_0 32767) (wrap64 (1 + (Go.bits .and .i64 a0_8 32767)))) a0_1 a0_2 (Int.tmod (Go.bits .and .i64 a0_3 32767) (wrap64 (1 + (Go.bits .and .i64 a0_8 32767)))) a0_4 (Int.tmod (Go.bits .and .i64 a0_3 32767) (wrap64 (1 + (Go.bits .and .i64 a0_8 32767)))) a0_4 (wrap64 (1 + (Go.bits .and .i64 a0_8 32767)))).bind fun t276 => (if t276 = true then (some false) else ((aqueductlaw13_fixed.f kj6).bind fun t277 => (some t277)))) else (some false)) = some r := by rw [if_pos rfl] at H; exact H
                clear H
                have H := H1
                clear H1
                by_cases c39 : (t274 == true) = true
                · rw [if_pos c39] at H
                  have c39b0 : (t274 == true) = true := c39
                  (try (have c39b1 : decide (t274 = true) = true := by simpa using c39))
                  (try (have c39b2 : (t274 == true) = true := by simpa using c39))
                  clear c39
                  replace H := Option.bind_eq_some_iff.mp H
                  obtain ⟨t276, A400, H⟩ := H
                  replace H : (if t276 = true then (some false) else ((aqueductlaw13_fixed.f kj6).bind fun t277 => (some t277))) = some r := H
                  have A40 := Aside0.mk A400
                  clear A400
                  by_cases c41 : t276 = true
                  · subst c41
                    have H1 : (some false) = some r := by rw [if_pos rfl] at H; exact H
                    clear H
                    have H := H1
                    clear H1
                    obtain rfl := Option.some.inj H
                    exact absurd HR_.out (by decide)
                  · replace c41 := Bool.eq_false_iff.mpr c41
                    subst c41
                    have H1 : ((aqueductlaw13_fixed.f kj6).bind fun t277 => (some t277)) = some r := by rw [if_neg (show ¬ (false = true) by decide)] at H; exact H
                    clear H
                    have H := H1
                    clear H1
                    replace H := Option.bind_eq_some_iff.mp H
                    obtain ⟨t277, A420, H⟩ := H
                    replace H : (some t277) = some r := H
                    have A42 := Aside0.mk A420
                    clear A420
                    obtain rfl := Option.some.inj H
                    try go_wp2
                    have n0_ := Aside0.mk (blk_drew BK263.out)
                    have n1_ := Aside0.mk (blk_drew BK264.out)
                    have n2_ := Aside0.mk (blk_drew BK265.out)
                    have n3_ := Aside0.mk (blk_drew BK269.out)
                    have n4_ := Aside0.mk (blk_drew BK273.out)
                    have n5_ := Aside0.mk (below_drew1 HB.out)
                    clear BK263
                    clear BK264
                    clear BK265
                    clear BK269
                    clear BK273
                    clear HB
                    have BK263 := n0_
                    have BK264 := n1_
                    have BK265 := n2_
                    have BK269 := n3_
                    have BK273 := n4_
                    have HB := n5_
                    clear n0_ n1_ n2_ n3_ n4_ n5_
                    refine start_ (n := 30) (S := fun w' => w'.cell? ⟨gb265, 0, none⟩ = some (.int .i64 (Int.tmod (Go.bits .and .i64 a0_0 32767) (wrap64 (1 + (Go.bits .and .i64 a0_8 32767))))) ∧ w'.cell? ⟨gb265, 1, none⟩ = some (.bool a0_1) ∧ w'.cell? ⟨gb265, 2, none⟩ = some (.int .i64 a0_2) ∧ w'.cell? ⟨gb264, 0, none⟩ = some (.int .i64 (Int.tmod (Go.bits .and .i64 a0_3 32767) (wrap64 (1 + (Go.bits .and .i64 a0_8 32767))))) ∧ w'.cell? ⟨gb264, 1, none⟩ = some (.bool a0_4) ∧ w'.cell? ⟨gb273, 0, none⟩ = some (.int .i64 t270) ∧ w'.cell? ⟨gb273, 1, none⟩ = some (.bool t271) ∧ w'.cell? ⟨gb269, 0, none⟩ = some (.int .i64 t266) ∧ w'.cell? ⟨gb269, 1, none⟩ = some (.bool t267)) (ds := []) q23_13 (by kernel_rfl) rfl rfl ⟨(blk_cell BK265.out 0).trans rfl, (blk_cell BK265.out 1).trans rfl, (blk_cell BK265.out 2).trans rfl, (blk_cell BK264.out 0).trans rfl, (blk_cell BK264.out 1).trans rfl, (blk_cell BK273.out 0).trans rfl, (blk_cell BK273.out 1).trans rfl, (blk_cell BK269.out 0).trans rfl, (blk_cell BK269.out 1).trans rfl⟩ (fun hHeld => ?_); refine with_tabW aqueductlaw13_SpotParts.tab11 aqueductlaw13_SpotParts.bits11 (fun HT_ HW_ => ?_)
                    generalize wc.drew = w43 at BK263 BK264 BK265 BK269 BK273 HB hHeld ⊢
                    refine pure_ (i := 3) (N := some 72) (v := ?_) (a' := ?_) q23_14 rfl rfl (any_of HT_.out (by kernel_rfl)) (fun _ _ _ h => h) (Or.inl ⟨by rfl, ?_⟩) ?_ ?_
                    rotate_left
                    · intro w'
                      go_simp
                      with_reducible rfl
                    rotate_left
                    · simp only [Act.put, List.setIfInBounds_toArray, List.set_cons_zero, List.set_cons_succ, i64_w, i32_w]
                      rfl
                    refine pure_ (i := 8) (N := some 77) (v := ?_) (a' := ?_) q23_15 rfl rfl (any_of HT_.out (by kernel_rfl)) (fun _ _ _ h => h) (Or.inl ⟨by rfl, ?_⟩) ?_ ?_
                    rotate_left
                    · intro w'
                      go_simp
                      with_reducible rfl
                    rotate_left
                    · simp only [Act.put, List.setIfInBounds_toArray, List.set_cons_zero, List.set_cons_succ, i64_w, i32_w]
                      rfl
                    refine take_ (i := 0) (N := some 69) (v := ?_) (a' := ?_) q23_16 rfl rfl (take_ofW HT_.out HW_.out (by kernel_rfl)) (fun _ _ _ h => h) (Or.inl ⟨by rfl, ?_⟩) hHeld ?_ ?_
                    rotate_left
                    · rintro w' ⟨s0, s1, s2, s3, s4, s5, s6, s7, s8⟩
                      go_simp
                      with_reducible rfl
                    rotate_left
                    · simp only [Act.put, List.setIfInBounds_toArray, List.set_cons_zero, List.set_cons_succ, i64_w, i32_w]
                      rfl
                    refine take_ (i := 1) (N := some 70) (v := ?_) (a' := ?_) q23_17 rfl rfl (take_ofW HT_.out HW_.out (by kernel_rfl)) (fun _ _ _ h => h) (Or.inl ⟨by rfl, ?_⟩) hHeld ?_ ?_
                    rotate_left
                    · rintro w' ⟨s0, s1, s2, s3, s4, s5, s6, s7, s8⟩
                      go_simp
                      with_reducible rfl
                    rotate_left
                    · simp only [Act.put, List.setIfInBounds_toArray, List.set_cons_zero, List.set_cons_succ, i64_w, i32_w]
                      rfl
                    refine take_ (i := 2) (N := some 71) (v := ?_) (a' := ?_) q23_18 rfl rfl (take_ofW HT_.out HW_.out (by kernel_rfl)) (fun _ _ _ h => h) (Or.inl ⟨by rfl, ?_⟩) hHeld ?_ ?_
                    rotate_left
                    · rintro w' ⟨s0, s1, s2, s3, s4, s5, s6, s7, s8⟩
                      go_simp
                      with_reducible rfl
                    rotate_left
                    · simp only [Act.put, List.setIfInBounds_toArray, List.set_cons_zero, List.set_cons_succ, i64_w, i32_w]
                      rfl
                    refine take_ (i := 5) (N := some 74) (v := ?_) (a' := ?_) q23_19 rfl rfl (take_ofW HT_.out HW_.out (by kernel_rfl)) (fun _ _ _ h => h) (Or.inl ⟨by rfl, ?_⟩) hHeld ?_ ?_
                    rotate_left
                    · rintro w' ⟨s0, s1, s2, s3, s4, s5, s6, s7, s8⟩
                      go_simp
                      with_reducible rfl
                    rotate_left
                    · simp only [Act.put, List.setIfInBounds_toArray, List.set_cons_zero, List.set_cons_succ, i64_w, i32_w]
                      rfl
                    refine take_ (i := 6) (N := some 75) (v := ?_) (a' := ?_) q23_20 rfl rfl (take_ofW HT_.out HW_.out (by kernel_rfl)) (fun _ _ _ h => h) (Or.inl ⟨by rfl, ?_⟩) hHeld ?_ ?_
                    rotate_left
                    · rintro w' ⟨s0, s1, s2, s3, s4, s5, s6, s7, s8⟩
                      go_simp
                      with_reducible rfl
                    rotate_left
                    · simp only [Act.put, List.setIfInBounds_toArray, List.set_cons_zero, List.set_cons_succ, i64_w, i32_w]
                      rfl
                    refine take_ (i := 7) (N := some 76) (v := ?_) (a' := ?_) q23_21 rfl rfl (take_ofW HT_.out HW_.out (by kernel_rfl)) (fun _ _ _ h => h) (Or.inl ⟨by rfl, ?_⟩) hHeld ?_ ?_
                    rotate_left
                    · rintro w' ⟨s0, s1, s2, s3, s4, s5, s6, s7, s8⟩
                      go_simp
                      with_reducible rfl
                    rotate_left
                    · simp only [Act.put, List.setIfInBounds_toArray, List.set_cons_zero, List.set_cons_succ, i64_w, i32_w]
                      rfl
                    refine one_ (i := 4) (N := some 73) q23_22 rfl rfl (one_of HT_.out (by kernel_rfl)) (by decide) (fun K hK => ?_)
                    refine goes_ Try.func21 (by kernel_rfl) rfl #[.agg #[.int .i64 (Int.tmod (Go.bits .and .i64 a0_0 32767) (wrap64 (1 + (Go.bits .and .i64 a0_8 32767)))), .bool a0_1, .int .i64 a0_2], .agg #[.int .i64 (Int.tmod (Go.bits .and .i64 a0_3 32767) (wrap64 (1 + (Go.bits .and .i64 a0_8 32767)))), .bool a0_4], .agg #[.int .i64 t270, .bool t271], .int .i64 (wrap64 (1 + (Go.bits .and .i64 a0_8 32767)))] (by rfl) rfl rfl (by (try simp only [List.map_toArray, List.map_cons, List.map_nil]); first | done | rfl | (simp only [List.length_drop, List.length_take]; rfl)) ?_
                    with_reducible refine (spot_Need.calls kj6 (Int.tmod (Go.bits .and .i64 a0_0 32767) (wrap64 (1 + (Go.bits .and .i64 a0_8 32767)))) a0_1 a0_2 (Int.tmod (Go.bits .and .i64 a0_3 32767) (wrap64 (1 + (Go.bits .and .i64 a0_8 32767)))) a0_4 t270 t271 (wrap64 (1 + (Go.bits .and .i64 a0_8 32767))) t274 _ A36.out).mono ?_
                    rintro e w44 ⟨rfl, hb⟩
                    refine ⟨_, rfl, ?_⟩
                    have n0_ := Aside0.mk (blk_below (g := gb263) (o := .cells #[.int .i64 a0_0, .bool a0_1, .int .i64 a0_2, .int .i64 a0_3, .bool a0_4, .int .i64 a0_5, .bool a0_6, .int .i64 a0_7, .int .i64 a0_8] 27 (0, 0)) (by (with_reducible repeat (first | refine blk_drewN ?_ _ | refine blk_drew ?_ | refine blk_alloc ?_ _)); exact BK263.out) hb)
                    have n1_ := Aside0.mk (blk_below (g := gb264) (o := .cells #[.int .i64 (Int.tmod (Go.bits .and .i64 a0_3 32767) (wrap64 (1 + (Go.bits .and .i64 a0_8 32767)))), .bool a0_4] 25 (0, 0)) (by (with_reducible repeat (first | refine blk_drewN ?_ _ | refine blk_drew ?_ | refine blk_alloc ?_ _)); exact BK264.out) hb)
                    have n2_ := Aside0.mk (blk_below (g := gb265) (o := .cells #[.int .i64 (Int.tmod (Go.bits .and .i64 a0_0 32767) (wrap64 (1 + (Go.bits .and .i64 a0_8 32767)))), .bool a0_1, .int .i64 a0_2] 23 (0, 0)) (by (with_reducible repeat (first | refine blk_drewN ?_ _ | refine blk_drew ?_ | refine blk_alloc ?_ _)); exact BK265.out) hb)
                    have n3_ := Aside0.mk (blk_below (g := gb269) (o := .cells #[.int .i64 t266, .bool t267] 25 (0, 0)) (by (with_reducible repeat (first | refine blk_drewN ?_ _ | refine blk_drew ?_ | refine blk_alloc ?_ _)); exact BK269.out) hb)
                    have n4_ := Aside0.mk (blk_below (g := gb273) (o := .cells #[.int .i64 t270, .bool t271] 25 (0, 0)) (by (with_reducible repeat (first | refine blk_drewN ?_ _ | refine blk_drew ?_ | refine blk_alloc ?_ _)); exact BK273.out) hb)
                    have n5_ := Aside0.mk (below_step (by repeat (first | (with_reducible first | exact HB.out | apply below_alloc | apply pw_below_drewN | apply below_drew1 | refine below_set ?_ GE263.out | refine below_set ?_ GE264.out | refine below_set ?_ GE265.out | refine below_set ?_ GE269.out | refine below_set ?_ GE273.out) | exact HB.out)) hb)
                    clear BK263
                    clear BK264
                    clear BK265
                    clear BK269
                    clear BK273
                    clear HB
                    have BK263 := n0_
                    have BK264 := n1_
                    have BK265 := n2_
                    have BK269 := n3_
                    have BK273 := n4_
                    have HB := n5_
                    clear n0_ n1_ n2_ n3_ n4_ n5_
                    (try clear hb)
                    (try clear hb2)
                    (try clear hk)
                    (try clear hi)
                    refine hK.out _ _ ⟨(blk_cell BK265.out 0).trans rfl, (blk_cell BK265.out 1).trans rfl, (blk_cell BK265.out 2).trans rfl, (blk_cell BK264.out 0).trans rfl, (blk_cell BK264.out 1).trans rfl, (blk_cell BK273.out 0).trans rfl, (blk_cell BK273.out 1).trans rfl, (blk_cell BK269.out 0).trans rfl, (blk_cell BK269.out 1).trans rfl⟩ (fun hHeld => ?_)
                    clear hK K
                    refine norm_ (a' := ?_) ?_ ?_
                    rotate_left
                    · show Act.put _ (some 73) _ = _
                      simp only [Act.put, List.setIfInBounds_toArray, List.set_cons_zero, List.set_cons_succ, i64_w, i32_w]
                      rfl
                    refine one_ (i := 9) (N := some 78) q23_23 rfl rfl (one_of HT_.out (by kernel_rfl)) (by decide) (fun K hK => ?_)
                    refine goes_ Try.func21 (by kernel_rfl) rfl #[.agg #[.int .i64 (Int.tmod (Go.bits .and .i64 a0_0 32767) (wrap64 (1 + (Go.bits .and .i64 a0_8 32767)))), .bool a0_1, .int .i64 a0_2], .agg #[.int .i64 (Int.tmod (Go.bits .and .i64 a0_3 32767) (wrap64 (1 + (Go.bits .and .i64 a0_8 32767)))), .bool a0_4], .agg #[.int .i64 t266, .bool t267], .int .i64 (wrap64 (1 + (Go.bits .and .i64 a0_8 32767)))] (by rfl) rfl rfl (by (try simp only [List.map_toArray, List.map_cons, List.map_nil]); first | done | rfl | (simp only [List.length_drop, List.length_take]; rfl)) ?_
                    with_reducible refine (spot_Need.calls kj6 (Int.tmod (Go.bits .and .i64 a0_0 32767) (wrap64 (1 + (Go.bits .and .i64 a0_8 32767)))) a0_1 a0_2 (Int.tmod (Go.bits .and .i64 a0_3 32767) (wrap64 (1 + (Go.bits .and .i64 a0_8 32767)))) a0_4 t266 t267 (wrap64 (1 + (Go.bits .and .i64 a0_8 32767))) true _ A37.out).mono ?_
                    rintro e w45 ⟨rfl, hb⟩
                    refine ⟨_, rfl, ?_⟩
                    have n0_ := Aside0.mk (blk_below (g := gb263) (o := .cells #[.int .i64 a0_0, .bool a0_1, .int .i64 a0_2, .int .i64 a0_3, .bool a0_4, .int .i64 a0_5, .bool a0_6, .int .i64 a0_7, .int .i64 a0_8] 27 (0, 0)) (by (with_reducible repeat (first | refine blk_drewN ?_ _ | refine blk_drew ?_ | refine blk_alloc ?_ _)); exact BK263.out) hb)
                    have n1_ := Aside0.mk (blk_below (g := gb264) (o := .cells #[.int .i64 (Int.tmod (Go.bits .and .i64 a0_3 32767) (wrap64 (1 + (Go.bits .and .i64 a0_8 32767)))), .bool a0_4] 25 (0, 0)) (by (with_reducible repeat (first | refine blk_drewN ?_ _ | refine blk_drew ?_ | refine blk_alloc ?_ _)); exact BK264.out) hb)
                    have n2_ := Aside0.mk (blk_below (g := gb265) (o := .cells #[.int .i64 (Int.tmod (Go.bits .and .i64 a0_0 32767) (wrap64 (1 + (Go.bits .and .i64 a0_8 32767)))), .bool a0_1, .int .i64 a0_2] 23 (0, 0)) (by (with_reducible repeat (first | refine blk_drewN ?_ _ | refine blk_drew ?_ | refine blk_alloc ?_ _)); exact BK265.out) hb)
                    have n3_ := Aside0.mk (blk_below (g := gb269) (o := .cells #[.int .i64 t266, .bool t267] 25 (0, 0)) (by (with_reducible repeat (first | refine blk_drewN ?_ _ | refine blk_drew ?_ | refine blk_alloc ?_ _)); exact BK269.out) hb)
                    have n4_ := Aside0.mk (blk_below (g := gb273) (o := .cells #[.int .i64 t270, .bool t271] 25 (0, 0)) (by (with_reducible repeat (first | refine blk_drewN ?_ _ | refine blk_drew ?_ | refine blk_alloc ?_ _)); exact BK273.out) hb)
                    have n5_ := Aside0.mk (below_step (by repeat (first | (with_reducible first | exact HB.out | apply below_alloc | apply pw_below_drewN | apply below_drew1 | refine below_set ?_ GE263.out | refine below_set ?_ GE264.out | refine below_set ?_ GE265.out | refine below_set ?_ GE269.out | refine below_set ?_ GE273.out) | exact HB.out)) hb)
                    clear BK263
                    clear BK264
                    clear BK265
                    clear BK269
                    clear BK273
                    clear HB
                    have BK263 := n0_
                    have BK264 := n1_
                    have BK265 := n2_
                    have BK269 := n3_
                    have BK273 := n4_
                    have HB := n5_
                    clear n0_ n1_ n2_ n3_ n4_ n5_
                    (try clear hb)
                    (try clear hb2)
                    (try clear hk)
                    (try clear hi)
                    refine hK.out _ _ ⟨(blk_cell BK265.out 0).trans rfl, (blk_cell BK265.out 1).trans rfl, (blk_cell BK265.out 2).trans rfl, (blk_cell BK264.out 0).trans rfl, (blk_cell BK264.out 1).trans rfl, (blk_cell BK273.out 0).trans rfl, (blk_cell BK273.out 1).trans rfl, (blk_cell BK269.out 0).trans rfl, (blk_cell BK269.out 1).trans rfl⟩ (fun hHeld => ?_)
                    clear hK K
                    refine norm_ (a' := ?_) ?_ ?_
                    rotate_left
                    · show Act.put _ (some 78) _ = _
                      simp only [Act.put, List.setIfInBounds_toArray, List.set_cons_zero, List.set_cons_succ, i64_w, i32_w]
                      rfl
                    refine pure_ (i := 10) (N := some 79) (v := ?_) (a' := ?_) q23_24 rfl rfl (any_of HT_.out (by kernel_rfl)) (fun _ _ _ h => h) (Or.inl ⟨by rfl, ?_⟩) ?_ ?_
                    rotate_left
                    · intro w'
                      go_simp
                      with_reducible rfl
                    rotate_left
                    · simp only [Act.put, List.setIfInBounds_toArray, List.set_cons_zero, List.set_cons_succ, i64_w, i32_w]
                      rfl
                    refine pure_ (i := 11) (N := some 80) (v := undef) (a' := ?_) q23_25 rfl rfl (any_of HT_.out (by kernel_rfl)) (fun _ _ _ h => h) (Or.inr ⟨by rfl, rfl⟩) ?_ ?_
                    rotate_left
                    · simp only [Act.put, List.setIfInBounds_toArray, List.set_cons_zero, List.set_cons_succ, i64_w, i32_w]
                      rfl
                    refine pure_ (i := 12) (N := some 81) (v := undef) (a' := ?_) q23_26 rfl rfl (any_of HT_.out (by kernel_rfl)) (fun _ _ _ h => h) (Or.inr ⟨by rfl, rfl⟩) ?_ ?_
                    rotate_left
                    · simp only [Act.put, List.setIfInBounds_toArray, List.set_cons_zero, List.set_cons_succ, i64_w, i32_w]
                      rfl
                    refine pure_ (i := 13) (N := some 82) (v := undef) (a' := ?_) q23_27 rfl rfl (any_of HT_.out (by kernel_rfl)) (fun _ _ _ h => h) (Or.inr ⟨by rfl, rfl⟩) ?_ ?_
                    rotate_left
                    · simp only [Act.put, List.setIfInBounds_toArray, List.set_cons_zero, List.set_cons_succ, i64_w, i32_w]
                      rfl
                    refine pure_ (i := 14) (N := some 83) (v := undef) (a' := ?_) q23_28 rfl rfl (any_of HT_.out (by kernel_rfl)) (fun _ _ _ h => h) (Or.inr ⟨by rfl, rfl⟩) ?_ ?_
                    rotate_left
                    · simp only [Act.put, List.setIfInBounds_toArray, List.set_cons_zero, List.set_cons_succ, i64_w, i32_w]
                      rfl
                    refine pure_ (i := 15) (N := some 84) (v := undef) (a' := ?_) q23_29 rfl rfl (any_of HT_.out (by kernel_rfl)) (fun _ _ _ h => h) (Or.inr ⟨by rfl, rfl⟩) ?_ ?_
                    rotate_left
                    · simp only [Act.put, List.setIfInBounds_toArray, List.set_cons_zero, List.set_cons_succ, i64_w, i32_w]
                      rfl
                    refine pure_ (i := 16) (N := some 85) (v := ?_) (a' := ?_) q23_30 rfl rfl (any_of HT_.out (by kernel_rfl)) (fun _ _ _ h => h) (Or.inl ⟨by rfl, ?_⟩) ?_ ?_
                    rotate_left
                    · intro w'
                      go_simp
                      with_reducible rfl
                    rotate_left
                    · simp only [Act.put, List.setIfInBounds_toArray, List.set_cons_zero, List.set_cons_succ, i64_w, i32_w]
                      rfl
                    refine pure_ (i := 17) (N := some 86) (v := ?_) (a' := ?_) q23_31 rfl rfl (any_of HT_.out (by kernel_rfl)) (fun _ _ _ h => h) (Or.inl ⟨by rfl, ?_⟩) ?_ ?_
                    rotate_left
                    · intro w'
                      go_simp
                      with_reducible rfl
                    rotate_left
                    · simp only [Act.put, List.setIfInBounds_toArray, List.set_cons_zero, List.set_cons_succ, i64_w, i32_w]
                      rfl
                    refine pure_ (i := 18) (N := some 87) (v := ?_) (a' := ?_) q23_32 rfl rfl (any_of HT_.out (by kernel_rfl)) (fun _ _ _ h => h) (Or.inl ⟨by rfl, ?_⟩) ?_ ?_
                    rotate_left
                    · intro w'
                      go_simp
                      with_reducible rfl
                    rotate_left
                    · simp only [Act.put, List.setIfInBounds_toArray, List.set_cons_zero, List.set_cons_succ, i64_w, i32_w]
                      rfl
                    refine pure_ (i := 22) (N := some 91) (v := ?_) (a' := ?_) q23_33 rfl rfl (any_of HT_.out (by kernel_rfl)) (fun _ _ _ h => h) (Or.inl ⟨by rfl, ?_⟩) ?_ ?_
                    rotate_left
                    · intro w'
                      go_simp
                      with_reducible rfl
                    rotate_left
                    · simp only [Act.put, List.setIfInBounds_toArray, List.set_cons_zero, List.set_cons_succ, i64_w, i32_w]
                      rfl
                    refine take_ (i := 19) (N := some 88) (v := ?_) (a' := ?_) q23_34 rfl rfl (take_ofW HT_.out HW_.out (by kernel_rfl)) (fun _ _ _ h => h) (Or.inl ⟨by rfl, ?_⟩) hHeld ?_ ?_
                    rotate_left
                    · rintro w' ⟨s0, s1, s2, s3, s4, s5, s6, s7, s8⟩
                      go_simp
                      with_reducible rfl
                    rotate_left
                    · simp only [Act.put, List.setIfInBounds_toArray, List.set_cons_zero, List.set_cons_succ, i64_w, i32_w]
                      rfl
                    refine take_ (i := 20) (N := some 89) (v := ?_) (a' := ?_) q23_35 rfl rfl (take_ofW HT_.out HW_.out (by kernel_rfl)) (fun _ _ _ h => h) (Or.inl ⟨by rfl, ?_⟩) hHeld ?_ ?_
                    rotate_left
                    · rintro w' ⟨s0, s1, s2, s3, s4, s5, s6, s7, s8⟩
                      go_simp
                      with_reducible rfl
                    rotate_left
                    · simp only [Act.put, List.setIfInBounds_toArray, List.set_cons_zero, List.set_cons_succ, i64_w, i32_w]
                      rfl
                    refine take_ (i := 21) (N := some 90) (v := ?_) (a' := ?_) q23_36 rfl rfl (take_ofW HT_.out HW_.out (by kernel_rfl)) (fun _ _ _ h => h) (Or.inl ⟨by rfl, ?_⟩) hHeld ?_ ?_
                    rotate_left
                    · rintro w' ⟨s0, s1, s2, s3, s4, s5, s6, s7, s8⟩
                      go_simp
                      with_reducible rfl
                    rotate_left
                    · simp only [Act.put, List.setIfInBounds_toArray, List.set_cons_zero, List.set_cons_succ, i64_w, i32_w]
                      rfl
                    refine one_ (i := 23) (N := some 92) q23_37 rfl rfl (one_of HT_.out (by kernel_rfl)) (by decide) (fun K hK => ?_)
                    refine goes_ Try.func21 (by kernel_rfl) rfl #[.agg #[.int .i64 (Int.tmod (Go.bits .and .i64 a0_0 32767) (wrap64 (1 + (Go.bits .and .i64 a0_8 32767)))), .bool a0_1, .int .i64 a0_2], .agg #[.int .i64 (Int.tmod (Go.bits .and .i64 a0_3 32767) (wrap64 (1 + (Go.bits .and .i64 a0_8 32767)))), .bool a0_4], .agg #[.int .i64 (Int.tmod (Go.bits .and .i64 a0_3 32767) (wrap64 (1 + (Go.bits .and .i64 a0_8 32767)))), .bool a0_4], .int .i64 (wrap64 (1 + (Go.bits .and .i64 a0_8 32767)))] (by rfl) rfl rfl (by (try simp only [List.map_toArray, List.map_cons, List.map_nil]); first | done | rfl | (simp only [List.length_drop, List.length_take]; rfl)) ?_
                    with_reducible refine (spot_Need.calls kj6 (Int.tmod (Go.bits .and .i64 a0_0 32767) (wrap64 (1 + (Go.bits .and .i64 a0_8 32767)))) a0_1 a0_2 (Int.tmod (Go.bits .and .i64 a0_3 32767) (wrap64 (1 + (Go.bits .and .i64 a0_8 32767)))) a0_4 (Int.tmod (Go.bits .and .i64 a0_3 32767) (wrap64 (1 + (Go.bits .and .i64 a0_8 32767)))) a0_4 (wrap64 (1 + (Go.bits .and .i64 a0_8 32767))) false _ A40.out).mono ?_
                    rintro e w46 ⟨rfl, hb⟩
                    refine ⟨_, rfl, ?_⟩
                    have n0_ := Aside0.mk (blk_below (g := gb263) (o := .cells #[.int .i64 a0_0, .bool a0_1, .int .i64 a0_2, .int .i64 a0_3, .bool a0_4, .int .i64 a0_5, .bool a0_6, .int .i64 a0_7, .int .i64 a0_8] 27 (0, 0)) (by (with_reducible repeat (first | refine blk_drewN ?_ _ | refine blk_drew ?_ | refine blk_alloc ?_ _)); exact BK263.out) hb)
                    have n1_ := Aside0.mk (blk_below (g := gb264) (o := .cells #[.int .i64 (Int.tmod (Go.bits .and .i64 a0_3 32767) (wrap64 (1 + (Go.bits .and .i64 a0_8 32767)))), .bool a0_4] 25 (0, 0)) (by (with_reducible repeat (first | refine blk_drewN ?_ _ | refine blk_drew ?_ | refine blk_alloc ?_ _)); exact BK264.out) hb)
                    have n2_ := Aside0.mk (blk_below (g := gb265) (o := .cells #[.int .i64 (Int.tmod (Go.bits .and .i64 a0_0 32767) (wrap64 (1 + (Go.bits .and .i64 a0_8 32767)))), .bool a0_1, .int .i64 a0_2] 23 (0, 0)) (by (with_reducible repeat (first | refine blk_drewN ?_ _ | refine blk_drew ?_ | refine blk_alloc ?_ _)); exact BK265.out) hb)
                    have n3_ := Aside0.mk (blk_below (g := gb269) (o := .cells #[.int .i64 t266, .bool t267] 25 (0, 0)) (by (with_reducible repeat (first | refine blk_drewN ?_ _ | refine blk_drew ?_ | refine blk_alloc ?_ _)); exact BK269.out) hb)
                    have n4_ := Aside0.mk (blk_below (g := gb273) (o := .cells #[.int .i64 t270, .bool t271] 25 (0, 0)) (by (with_reducible repeat (first | refine blk_drewN ?_ _ | refine blk_drew ?_ | refine blk_alloc ?_ _)); exact BK273.out) hb)
                    have n5_ := Aside0.mk (below_step (by repeat (first | (with_reducible first | exact HB.out | apply below_alloc | apply pw_below_drewN | apply below_drew1 | refine below_set ?_ GE263.out | refine below_set ?_ GE264.out | refine below_set ?_ GE265.out | refine below_set ?_ GE269.out | refine below_set ?_ GE273.out) | exact HB.out)) hb)
                    clear BK263
                    clear BK264
                    clear BK265
                    clear BK269
                    clear BK273
                    clear HB
                    have BK263 := n0_
                    have BK264 := n1_
                    have BK265 := n2_
                    have BK269 := n3_
                    have BK273 := n4_
                    have HB := n5_
                    clear n0_ n1_ n2_ n3_ n4_ n5_
                    (try clear hb)
                    (try clear hb2)
                    (try clear hk)
                    (try clear hi)
                    refine hK.out _ _ ⟨(blk_cell BK265.out 0).trans rfl, (blk_cell BK265.out 1).trans rfl, (blk_cell BK265.out 2).trans rfl, (blk_cell BK264.out 0).trans rfl, (blk_cell BK264.out 1).trans rfl, (blk_cell BK273.out 0).trans rfl, (blk_cell BK273.out 1).trans rfl, (blk_cell BK269.out 0).trans rfl, (blk_cell BK269.out 1).trans rfl⟩ (fun hHeld => ?_)
                    clear hK K
                    refine norm_ (a' := ?_) ?_ ?_
                    rotate_left
                    · show Act.put _ (some 92) _ = _
                      simp only [Act.put, List.setIfInBounds_toArray, List.set_cons_zero, List.set_cons_succ, i64_w, i32_w]
                      rfl
                    refine pure_ (i := 24) (N := some 93) (v := ?_) (a' := ?_) q23_38 rfl rfl (any_of HT_.out (by kernel_rfl)) (fun _ _ _ h => h) (Or.inl ⟨by rfl, ?_⟩) ?_ ?_
                    rotate_left
                    · intro w'
                      go_simp
                      with_reducible rfl
                    rotate_left
                    · simp only [Act.put, List.setIfInBounds_toArray, List.set_cons_zero, List.set_cons_succ, i64_w, i32_w]
                      rfl
                    refine pure_ (i := 25) (N := some 94) (v := ?_) (a' := ?_) q23_39 rfl rfl (any_of HT_.out (by kernel_rfl)) (fun _ _ _ h => h) (Or.inl ⟨by rfl, ?_⟩) ?_ ?_
                    rotate_left
                    · intro w'
                      go_simp
                      with_reducible rfl
                    rotate_left
                    · simp only [Act.put, List.setIfInBounds_toArray, List.set_cons_zero, List.set_cons_succ, i64_w, i32_w]
                      rfl
                    refine pure_ (i := 26) (N := some 95) (v := ?_) (a' := ?_) q23_40 rfl rfl (any_of HT_.out (by kernel_rfl)) (fun _ _ _ h => h) (Or.inl ⟨by rfl, ?_⟩) ?_ ?_
                    rotate_left
                    · intro w'
                      go_simp
                      with_reducible rfl
                    rotate_left
                    · simp only [Act.put, List.setIfInBounds_toArray, List.set_cons_zero, List.set_cons_succ, i64_w, i32_w]
                      rfl
                    refine one_ (i := 27) (N := some 96) q23_41 rfl rfl (one_of HT_.out (by kernel_rfl)) (by decide) (fun K hK => ?_)
                    refine goes_ Try.func14 (by kernel_rfl) rfl #[] (by rfl) rfl rfl (by (try simp only [List.map_toArray, List.map_cons, List.map_nil]); first | done | rfl | (simp only [List.length_drop, List.length_take]; rfl)) ?_
                    with_reducible refine (aqueductlaw13_fixed.calls kj6  t277 _ A42.out).mono ?_
                    rintro e w47 ⟨rfl, hb⟩
                    refine ⟨_, rfl, ?_⟩
                    have n0_ := Aside0.mk (blk_below (g := gb263) (o := .cells #[.int .i64 a0_0, .bool a0_1, .int .i64 a0_2, .int .i64 a0_3, .bool a0_4, .int .i64 a0_5, .bool a0_6, .int .i64 a0_7, .int .i64 a0_8] 27 (0, 0)) (by (with_reducible repeat (first | refine blk_drewN ?_ _ | refine blk_drew ?_ | refine blk_alloc ?_ _)); exact BK263.out) hb)
                    have n1_ := Aside0.mk (blk_below (g := gb264) (o := .cells #[.int .i64 (Int.tmod (Go.bits .and .i64 a0_3 32767) (wrap64 (1 + (Go.bits .and .i64 a0_8 32767)))), .bool a0_4] 25 (0, 0)) (by (with_reducible repeat (first | refine blk_drewN ?_ _ | refine blk_drew ?_ | refine blk_alloc ?_ _)); exact BK264.out) hb)
                    have n2_ := Aside0.mk (blk_below (g := gb265) (o := .cells #[.int .i64 (Int.tmod (Go.bits .and .i64 a0_0 32767) (wrap64 (1 + (Go.bits .and .i64 a0_8 32767)))), .bool a0_1, .int .i64 a0_2] 23 (0, 0)) (by (with_reducible repeat (first | refine blk_drewN ?_ _ | refine blk_drew ?_ | refine blk_alloc ?_ _)); exact BK265.out) hb)
                    have n3_ := Aside0.mk (blk_below (g := gb269) (o := .cells #[.int .i64 t266, .bool t267] 25 (0, 0)) (by (with_reducible repeat (first | refine blk_drewN ?_ _ | refine blk_drew ?_ | refine blk_alloc ?_ _)); exact BK269.out) hb)
                    have n4_ := Aside0.mk (blk_below (g := gb273) (o := .cells #[.int .i64 t270, .bool t271] 25 (0, 0)) (by (with_reducible repeat (first | refine blk_drewN ?_ _ | refine blk_drew ?_ | refine blk_alloc ?_ _)); exact BK273.out) hb)
                    have n5_ := Aside0.mk (below_step (by repeat (first | (with_reducible first | exact HB.out | apply below_alloc | apply pw_below_drewN | apply below_drew1 | refine below_set ?_ GE263.out | refine below_set ?_ GE264.out | refine below_set ?_ GE265.out | refine below_set ?_ GE269.out | refine below_set ?_ GE273.out) | exact HB.out)) hb)
                    clear BK263
                    clear BK264
                    clear BK265
                    clear BK269
                    clear BK273
                    clear HB
                    have BK263 := n0_
                    have BK264 := n1_
                    have BK265 := n2_
                    have BK269 := n3_
                    have BK273 := n4_
                    have HB := n5_
                    clear n0_ n1_ n2_ n3_ n4_ n5_
                    (try clear hb)
                    (try clear hb2)
                    (try clear hk)
                    (try clear hi)
                    refine hK.out _ _ ⟨(blk_cell BK265.out 0).trans rfl, (blk_cell BK265.out 1).trans rfl, (blk_cell BK265.out 2).trans rfl, (blk_cell BK264.out 0).trans rfl, (blk_cell BK264.out 1).trans rfl, (blk_cell BK273.out 0).trans rfl, (blk_cell BK273.out 1).trans rfl, (blk_cell BK269.out 0).trans rfl, (blk_cell BK269.out 1).trans rfl⟩ (fun hHeld => ?_)
                    clear hK K
                    refine norm_ (a' := ?_) ?_ ?_
                    rotate_left
                    · show Act.put _ (some 96) _ = _
                      simp only [Act.put, List.setIfInBounds_toArray, List.set_cons_zero, List.set_cons_succ, i64_w, i32_w]
                      rfl
                    refine pure_ (i := 28) (N := some 97) (v := ?_) (a' := ?_) q23_42 rfl rfl (any_of HT_.out (by kernel_rfl)) (fun _ _ _ h => h) (Or.inl ⟨by rfl, ?_⟩) ?_ ?_
                    rotate_left
                    · intro w'
                      go_simp
                      with_reducible rfl
                    rotate_left
                    · simp only [Act.put, List.setIfInBounds_toArray, List.set_cons_zero, List.set_cons_succ, i64_w, i32_w]
                      rfl
                    refine pure_ (i := 29) (N := some 2) (v := ?_) (a' := ?_) q23_43 rfl rfl (any_of HT_.out (by kernel_rfl)) (fun _ _ _ h => h) (Or.inl ⟨by rfl, ?_⟩) ?_ ?_
                    rotate_left
                    · intro w'
                      go_simp
                      with_reducible rfl
                    rotate_left
                    · simp only [Act.put, List.setIfInBounds_toArray, List.set_cons_zero, List.set_cons_succ, i64_w, i32_w]
                      rfl
                    refine done_ (done_of HT_.out (by kernel_rfl)) ?_
                    try go_wp2
                    go_ret
                    exact ⟨by first | rfl | (simp [errW_none, errW_some] <;> rfl) | (simp [*, errW_none, errW_some] <;> rfl), by repeat (first | (with_reducible first | exact HB.out | apply below_alloc | apply pw_below_drewN | apply below_drew1 | refine below_set ?_ GE263.out | refine below_set ?_ GE264.out | refine below_set ?_ GE265.out | refine below_set ?_ GE269.out | refine below_set ?_ GE273.out) | exact HB.out)⟩
                · rw [if_neg c39] at H
                  have c39b0 : (t274 == true) = false := by simpa using c39
                  (try (have c39b1 : decide (t274 = true) = false := by simpa using c39))
                  (try (have c39b2 : (t274 == true) = false := by simpa using c39))
                  (try (have c39b3 : ¬ (t274 = true) := by simpa using c39))
                  clear c39
                  obtain rfl := Option.some.inj H
                  exact absurd HR_.out (by decide)
              · replace c38 := Bool.eq_false_iff.mpr c38
                subst c38
                have H1 : ((spot_Need.f kj6 (Int.tmod (Go.bits .and .i64 a0_0 32767) (wrap64 (1 + (Go.bits .and .i64 a0_8 32767)))) a0_1 a0_2 t266 t267 t270 t271 (wrap64 (1 + (Go.bits .and .i64 a0_8 32767)))).bind fun t278 => (if (t274 == t278) = true then ((spot_Need.f kj6 (Int.tmod (Go.bits .and .i64 a0_0 32767) (wrap64 (1 + (Go.bits .and .i64 a0_8 32767)))) a0_1 a0_2 (Int.tmod (Go.bits .and .i64 a0_3 32767) (wrap64 (1 + (Go.bits .and .i64 a0_8 32767)))) a0_4 (Int.tmod (Go.bits .and .i64 a0_3 32767) (wrap64 (1 + (Go.bits .and .i64 a0_8 32767)))) a0_4 (wrap64 (1 + (Go.bits .and .i64 a0_8 32767)))).bind fun t279 => (if t279 = true then (some false) else ((aqueductlaw13_fixed.f kj6).bind fun t280 => (some t280)))) else (some false))) = some r := by rw [if_neg (show ¬ (false = true) by decide)] at H; exact H
                clear H
                have H := H1
                clear H1
                replace H := Option.bind_eq_some_iff.mp H
                obtain ⟨t278, A480, H⟩ := H
                replace H : (if (t274 == t278) = true then ((spot_Need.f kj6 (Int.tmod (Go.bits .and .i64 a0_0 32767) (wrap64 (1 + (Go.bits .and .i64 a0_8 32767)))) a0_1 a0_2 (Int.tmod (Go.bits .and .i64 a0_3 32767) (wrap64 (1 + (Go.bits .and .i64 a0_8 32767)))) a0_4 (Int.tmod (Go.bits .and .i64 a0_3 32767) (wrap64 (1 + (Go.bits .and .i64 a0_8 32767)))) a0_4 (wrap64 (1 + (Go.bits .and .i64 a0_8 32767)))).bind fun t279 => (if t279 = true then (some false) else ((aqueductlaw13_fixed.f kj6).bind fun t280 => (some t280)))) else (some false)) = some r := H
                have A48 := Aside0.mk A480
                clear A480
                by_cases c49 : (t274 == t278) = true
                · rw [if_pos c49] at H
                  have c49b0 : (t274 == t278) = true := c49
                  (try (have c49b1 : decide (t274 = t278) = true := by simpa using c49))
                  (try (have c49b2 : (t274 == t278) = true := by simpa using c49))
                  clear c49
                  replace H := Option.bind_eq_some_iff.mp H
                  obtain ⟨t279, A500, H⟩ := H
                  replace H : (if t279 = true then (some false) else ((aqueductlaw13_fixed.f kj6).bind fun t280 => (some t280))) = some r := H
                  have A50 := Aside0.mk A500
                  clear A500
                  by_cases c51 : t279 = true
                  · subst c51
                    have H1 : (some false) = some r := by rw [if_pos rfl] at H; exact H
                    clear H
                    have H := H1
                    clear H1
                    obtain rfl := Option.some.inj H
                    exact absurd HR_.out (by decide)
                  · replace c51 := Bool.eq_false_iff.mpr c51
                    subst c51
                    have H1 : ((aqueductlaw13_fixed.f kj6).bind fun t280 => (some t280)) = some r := by rw [if_neg (show ¬ (false = true) by decide)] at H; exact H
                    clear H
                    have H := H1
                    clear H1
                    replace H := Option.bind_eq_some_iff.mp H
                    obtain ⟨t280, A520, H⟩ := H
                    replace H : (some t280) = some r := H
                    have A52 := Aside0.mk A520
                    clear A520
                    obtain rfl := Option.some.inj H
                    try go_wp2
                    have n0_ := Aside0.mk (blk_drew BK263.out)
                    have n1_ := Aside0.mk (blk_drew BK264.out)
                    have n2_ := Aside0.mk (blk_drew BK265.out)
                    have n3_ := Aside0.mk (blk_drew BK269.out)
                    have n4_ := Aside0.mk (blk_drew BK273.out)
                    have n5_ := Aside0.mk (below_drew1 HB.out)
                    clear BK263
                    clear BK264
                    clear BK265
                    clear BK269
                    clear BK273
                    clear HB
                    have BK263 := n0_
                    have BK264 := n1_
                    have BK265 := n2_
                    have BK269 := n3_
                    have BK273 := n4_
                    have HB := n5_
                    clear n0_ n1_ n2_ n3_ n4_ n5_
                    refine start_ (n := 30) (S := fun w' => w'.cell? ⟨gb265, 0, none⟩ = some (.int .i64 (Int.tmod (Go.bits .and .i64 a0_0 32767) (wrap64 (1 + (Go.bits .and .i64 a0_8 32767))))) ∧ w'.cell? ⟨gb265, 1, none⟩ = some (.bool a0_1) ∧ w'.cell? ⟨gb265, 2, none⟩ = some (.int .i64 a0_2) ∧ w'.cell? ⟨gb264, 0, none⟩ = some (.int .i64 (Int.tmod (Go.bits .and .i64 a0_3 32767) (wrap64 (1 + (Go.bits .and .i64 a0_8 32767))))) ∧ w'.cell? ⟨gb264, 1, none⟩ = some (.bool a0_4) ∧ w'.cell? ⟨gb273, 0, none⟩ = some (.int .i64 t270) ∧ w'.cell? ⟨gb273, 1, none⟩ = some (.bool t271) ∧ w'.cell? ⟨gb269, 0, none⟩ = some (.int .i64 t266) ∧ w'.cell? ⟨gb269, 1, none⟩ = some (.bool t267)) (ds := []) q23_13 (by kernel_rfl) rfl rfl ⟨(blk_cell BK265.out 0).trans rfl, (blk_cell BK265.out 1).trans rfl, (blk_cell BK265.out 2).trans rfl, (blk_cell BK264.out 0).trans rfl, (blk_cell BK264.out 1).trans rfl, (blk_cell BK273.out 0).trans rfl, (blk_cell BK273.out 1).trans rfl, (blk_cell BK269.out 0).trans rfl, (blk_cell BK269.out 1).trans rfl⟩ (fun hHeld => ?_); refine with_tabW aqueductlaw13_SpotParts.tab11 aqueductlaw13_SpotParts.bits11 (fun HT_ HW_ => ?_)
                    generalize wc.drew = w53 at BK263 BK264 BK265 BK269 BK273 HB hHeld ⊢
                    refine pure_ (i := 3) (N := some 72) (v := ?_) (a' := ?_) q23_14 rfl rfl (any_of HT_.out (by kernel_rfl)) (fun _ _ _ h => h) (Or.inl ⟨by rfl, ?_⟩) ?_ ?_
                    rotate_left
                    · intro w'
                      go_simp
                      with_reducible rfl
                    rotate_left
                    · simp only [Act.put, List.setIfInBounds_toArray, List.set_cons_zero, List.set_cons_succ, i64_w, i32_w]
                      rfl
                    refine pure_ (i := 8) (N := some 77) (v := ?_) (a' := ?_) q23_15 rfl rfl (any_of HT_.out (by kernel_rfl)) (fun _ _ _ h => h) (Or.inl ⟨by rfl, ?_⟩) ?_ ?_
                    rotate_left
                    · intro w'
                      go_simp
                      with_reducible rfl
                    rotate_left
                    · simp only [Act.put, List.setIfInBounds_toArray, List.set_cons_zero, List.set_cons_succ, i64_w, i32_w]
                      rfl
                    refine take_ (i := 0) (N := some 69) (v := ?_) (a' := ?_) q23_16 rfl rfl (take_ofW HT_.out HW_.out (by kernel_rfl)) (fun _ _ _ h => h) (Or.inl ⟨by rfl, ?_⟩) hHeld ?_ ?_
                    rotate_left
                    · rintro w' ⟨s0, s1, s2, s3, s4, s5, s6, s7, s8⟩
                      go_simp
                      with_reducible rfl
                    rotate_left
                    · simp only [Act.put, List.setIfInBounds_toArray, List.set_cons_zero, List.set_cons_succ, i64_w, i32_w]
                      rfl
                    refine take_ (i := 1) (N := some 70) (v := ?_) (a' := ?_) q23_17 rfl rfl (take_ofW HT_.out HW_.out (by kernel_rfl)) (fun _ _ _ h => h) (Or.inl ⟨by rfl, ?_⟩) hHeld ?_ ?_
                    rotate_left
                    · rintro w' ⟨s0, s1, s2, s3, s4, s5, s6, s7, s8⟩
                      go_simp
                      with_reducible rfl
                    rotate_left
                    · simp only [Act.put, List.setIfInBounds_toArray, List.set_cons_zero, List.set_cons_succ, i64_w, i32_w]
                      rfl
                    refine take_ (i := 2) (N := some 71) (v := ?_) (a' := ?_) q23_18 rfl rfl (take_ofW HT_.out HW_.out (by kernel_rfl)) (fun _ _ _ h => h) (Or.inl ⟨by rfl, ?_⟩) hHeld ?_ ?_
                    rotate_left
                    · rintro w' ⟨s0, s1, s2, s3, s4, s5, s6, s7, s8⟩
                      go_simp
                      with_reducible rfl
                    rotate_left
                    · simp only [Act.put, List.setIfInBounds_toArray, List.set_cons_zero, List.set_cons_succ, i64_w, i32_w]
                      rfl
                    refine take_ (i := 5) (N := some 74) (v := ?_) (a' := ?_) q23_19 rfl rfl (take_ofW HT_.out HW_.out (by kernel_rfl)) (fun _ _ _ h => h) (Or.inl ⟨by rfl, ?_⟩) hHeld ?_ ?_
                    rotate_left
                    · rintro w' ⟨s0, s1, s2, s3, s4, s5, s6, s7, s8⟩
                      go_simp
                      with_reducible rfl
                    rotate_left
                    · simp only [Act.put, List.setIfInBounds_toArray, List.set_cons_zero, List.set_cons_succ, i64_w, i32_w]
                      rfl
                    refine take_ (i := 6) (N := some 75) (v := ?_) (a' := ?_) q23_20 rfl rfl (take_ofW HT_.out HW_.out (by kernel_rfl)) (fun _ _ _ h => h) (Or.inl ⟨by rfl, ?_⟩) hHeld ?_ ?_
                    rotate_left
                    · rintro w' ⟨s0, s1, s2, s3, s4, s5, s6, s7, s8⟩
                      go_simp
                      with_reducible rfl
                    rotate_left
                    · simp only [Act.put, List.setIfInBounds_toArray, List.set_cons_zero, List.set_cons_succ, i64_w, i32_w]
                      rfl
                    refine take_ (i := 7) (N := some 76) (v := ?_) (a' := ?_) q23_21 rfl rfl (take_ofW HT_.out HW_.out (by kernel_rfl)) (fun _ _ _ h => h) (Or.inl ⟨by rfl, ?_⟩) hHeld ?_ ?_
                    rotate_left
                    · rintro w' ⟨s0, s1, s2, s3, s4, s5, s6, s7, s8⟩
                      go_simp
                      with_reducible rfl
                    rotate_left
                    · simp only [Act.put, List.setIfInBounds_toArray, List.set_cons_zero, List.set_cons_succ, i64_w, i32_w]
                      rfl
                    refine one_ (i := 4) (N := some 73) q23_22 rfl rfl (one_of HT_.out (by kernel_rfl)) (by decide) (fun K hK => ?_)
                    refine goes_ Try.func21 (by kernel_rfl) rfl #[.agg #[.int .i64 (Int.tmod (Go.bits .and .i64 a0_0 32767) (wrap64 (1 + (Go.bits .and .i64 a0_8 32767)))), .bool a0_1, .int .i64 a0_2], .agg #[.int .i64 (Int.tmod (Go.bits .and .i64 a0_3 32767) (wrap64 (1 + (Go.bits .and .i64 a0_8 32767)))), .bool a0_4], .agg #[.int .i64 t270, .bool t271], .int .i64 (wrap64 (1 + (Go.bits .and .i64 a0_8 32767)))] (by rfl) rfl rfl (by (try simp only [List.map_toArray, List.map_cons, List.map_nil]); first | done | rfl | (simp only [List.length_drop, List.length_take]; rfl)) ?_
                    with_reducible refine (spot_Need.calls kj6 (Int.tmod (Go.bits .and .i64 a0_0 32767) (wrap64 (1 + (Go.bits .and .i64 a0_8 32767)))) a0_1 a0_2 (Int.tmod (Go.bits .and .i64 a0_3 32767) (wrap64 (1 + (Go.bits .and .i64 a0_8 32767)))) a0_4 t270 t271 (wrap64 (1 + (Go.bits .and .i64 a0_8 32767))) t274 _ A36.out).mono ?_
                    rintro e w54 ⟨rfl, hb⟩
                    refine ⟨_, rfl, ?_⟩
                    have n0_ := Aside0.mk (blk_below (g := gb263) (o := .cells #[.int .i64 a0_0, .bool a0_1, .int .i64 a0_2, .int .i64 a0_3, .bool a0_4, .int .i64 a0_5, .bool a0_6, .int .i64 a0_7, .int .i64 a0_8] 27 (0, 0)) (by (with_reducible repeat (first | refine blk_drewN ?_ _ | refine blk_drew ?_ | refine blk_alloc ?_ _)); exact BK263.out) hb)
                    have n1_ := Aside0.mk (blk_below (g := gb264) (o := .cells #[.int .i64 (Int.tmod (Go.bits .and .i64 a0_3 32767) (wrap64 (1 + (Go.bits .and .i64 a0_8 32767)))), .bool a0_4] 25 (0, 0)) (by (with_reducible repeat (first | refine blk_drewN ?_ _ | refine blk_drew ?_ | refine blk_alloc ?_ _)); exact BK264.out) hb)
                    have n2_ := Aside0.mk (blk_below (g := gb265) (o := .cells #[.int .i64 (Int.tmod (Go.bits .and .i64 a0_0 32767) (wrap64 (1 + (Go.bits .and .i64 a0_8 32767)))), .bool a0_1, .int .i64 a0_2] 23 (0, 0)) (by (with_reducible repeat (first | refine blk_drewN ?_ _ | refine blk_drew ?_ | refine blk_alloc ?_ _)); exact BK265.out) hb)
                    have n3_ := Aside0.mk (blk_below (g := gb269) (o := .cells #[.int .i64 t266, .bool t267] 25 (0, 0)) (by (with_reducible repeat (first | refine blk_drewN ?_ _ | refine blk_drew ?_ | refine blk_alloc ?_ _)); exact BK269.out) hb)
                    have n4_ := Aside0.mk (blk_below (g := gb273) (o := .cells #[.int .i64 t270, .bool t271] 25 (0, 0)) (by (with_reducible repeat (first | refine blk_drewN ?_ _ | refine blk_drew ?_ | refine blk_alloc ?_ _)); exact BK273.out) hb)
                    have n5_ := Aside0.mk (below_step (by repeat (first | (with_reducible first | exact HB.out | apply below_alloc | apply pw_below_drewN | apply below_drew1 | refine below_set ?_ GE263.out | refine below_set ?_ GE264.out | refine below_set ?_ GE265.out | refine below_set ?_ GE269.out | refine below_set ?_ GE273.out) | exact HB.out)) hb)
                    clear BK263
                    clear BK264
                    clear BK265
                    clear BK269
                    clear BK273
                    clear HB
                    have BK263 := n0_
                    have BK264 := n1_
                    have BK265 := n2_
                    have BK269 := n3_
                    have BK273 := n4_
                    have HB := n5_
                    clear n0_ n1_ n2_ n3_ n4_ n5_
                    (try clear hb)
                    (try clear hb2)
                    (try clear hk)
                    (try clear hi)
                    refine hK.out _ _ ⟨(blk_cell BK265.out 0).trans rfl, (blk_cell BK265.out 1).trans rfl, (blk_cell BK265.out 2).trans rfl, (blk_cell BK264.out 0).trans rfl, (blk_cell BK264.out 1).trans rfl, (blk_cell BK273.out 0).trans rfl, (blk_cell BK273.out 1).trans rfl, (blk_cell BK269.out 0).trans rfl, (blk_cell BK269.out 1).trans rfl⟩ (fun hHeld => ?_)
                    clear hK K
                    refine norm_ (a' := ?_) ?_ ?_
                    rotate_left
                    · show Act.put _ (some 73) _ = _
                      simp only [Act.put, List.setIfInBounds_toArray, List.set_cons_zero, List.set_cons_succ, i64_w, i32_w]
                      rfl
                    refine one_ (i := 9) (N := some 78) q23_23 rfl rfl (one_of HT_.out (by kernel_rfl)) (by decide) (fun K hK => ?_)
                    refine goes_ Try.func21 (by kernel_rfl) rfl #[.agg #[.int .i64 (Int.tmod (Go.bits .and .i64 a0_0 32767) (wrap64 (1 + (Go.bits .and .i64 a0_8 32767)))), .bool a0_1, .int .i64 a0_2], .agg #[.int .i64 (Int.tmod (Go.bits .and .i64 a0_3 32767) (wrap64 (1 + (Go.bits .and .i64 a0_8 32767)))), .bool a0_4], .agg #[.int .i64 t266, .bool t267], .int .i64 (wrap64 (1 + (Go.bits .and .i64 a0_8 32767)))] (by rfl) rfl rfl (by (try simp only [List.map_toArray, List.map_cons, List.map_nil]); first | done | rfl | (simp only [List.length_drop, List.length_take]; rfl)) ?_
                    with_reducible refine (spot_Need.calls kj6 (Int.tmod (Go.bits .and .i64 a0_0 32767) (wrap64 (1 + (Go.bits .and .i64 a0_8 32767)))) a0_1 a0_2 (Int.tmod (Go.bits .and .i64 a0_3 32767) (wrap64 (1 + (Go.bits .and .i64 a0_8 32767)))) a0_4 t266 t267 (wrap64 (1 + (Go.bits .and .i64 a0_8 32767))) false _ A37.out).mono ?_
                    rintro e w55 ⟨rfl, hb⟩
                    refine ⟨_, rfl, ?_⟩
                    have n0_ := Aside0.mk (blk_below (g := gb263) (o := .cells #[.int .i64 a0_0, .bool a0_1, .int .i64 a0_2, .int .i64 a0_3, .bool a0_4, .int .i64 a0_5, .bool a0_6, .int .i64 a0_7, .int .i64 a0_8] 27 (0, 0)) (by (with_reducible repeat (first | refine blk_drewN ?_ _ | refine blk_drew ?_ | refine blk_alloc ?_ _)); exact BK263.out) hb)
                    have n1_ := Aside0.mk (blk_below (g := gb264) (o := .cells #[.int .i64 (Int.tmod (Go.bits .and .i64 a0_3 32767) (wrap64 (1 + (Go.bits .and .i64 a0_8 32767)))), .bool a0_4] 25 (0, 0)) (by (with_reducible repeat (first | refine blk_drewN ?_ _ | refine blk_drew ?_ | refine blk_alloc ?_ _)); exact BK264.out) hb)
                    have n2_ := Aside0.mk (blk_below (g := gb265) (o := .cells #[.int .i64 (Int.tmod (Go.bits .and .i64 a0_0 32767) (wrap64 (1 + (Go.bits .and .i64 a0_8 32767)))), .bool a0_1, .int .i64 a0_2] 23 (0, 0)) (by (with_reducible repeat (first | refine blk_drewN ?_ _ | refine blk_drew ?_ | refine blk_alloc ?_ _)); exact BK265.out) hb)
                    have n3_ := Aside0.mk (blk_below (g := gb269) (o := .cells #[.int .i64 t266, .bool t267] 25 (0, 0)) (by (with_reducible repeat (first | refine blk_drewN ?_ _ | refine blk_drew ?_ | refine blk_alloc ?_ _)); exact BK269.out) hb)
                    have n4_ := Aside0.mk (blk_below (g := gb273) (o := .cells #[.int .i64 t270, .bool t271] 25 (0, 0)) (by (with_reducible repeat (first | refine blk_drewN ?_ _ | refine blk_drew ?_ | refine blk_alloc ?_ _)); exact BK273.out) hb)
                    have n5_ := Aside0.mk (below_step (by repeat (first | (with_reducible first | exact HB.out | apply below_alloc | apply pw_below_drewN | apply below_drew1 | refine below_set ?_ GE263.out | refine below_set ?_ GE264.out | refine below_set ?_ GE265.out | refine below_set ?_ GE269.out | refine below_set ?_ GE273.out) | exact HB.out)) hb)
                    clear BK263
                    clear BK264
                    clear BK265
                    clear BK269
                    clear BK273
                    clear HB
                    have BK263 := n0_
                    have BK264 := n1_
                    have BK265 := n2_
                    have BK269 := n3_
                    have BK273 := n4_
                    have HB := n5_
                    clear n0_ n1_ n2_ n3_ n4_ n5_
                    (try clear hb)
                    (try clear hb2)
                    (try clear hk)
                    (try clear hi)
                    refine hK.out _ _ ⟨(blk_cell BK265.out 0).trans rfl, (blk_cell BK265.out 1).trans rfl, (blk_cell BK265.out 2).trans rfl, (blk_cell BK264.out 0).trans rfl, (blk_cell BK264.out 1).trans rfl, (blk_cell BK273.out 0).trans rfl, (blk_cell BK273.out 1).trans rfl, (blk_cell BK269.out 0).trans rfl, (blk_cell BK269.out 1).trans rfl⟩ (fun hHeld => ?_)
                    clear hK K
                    refine norm_ (a' := ?_) ?_ ?_
                    rotate_left
                    · show Act.put _ (some 78) _ = _
                      simp only [Act.put, List.setIfInBounds_toArray, List.set_cons_zero, List.set_cons_succ, i64_w, i32_w]
                      rfl
                    refine pure_ (i := 10) (N := some 79) (v := ?_) (a' := ?_) q23_24 rfl rfl (any_of HT_.out (by kernel_rfl)) (fun _ _ _ h => h) (Or.inl ⟨by rfl, ?_⟩) ?_ ?_
                    rotate_left
                    · intro w'
                      go_simp
                      with_reducible rfl
                    rotate_left
                    · simp only [Act.put, List.setIfInBounds_toArray, List.set_cons_zero, List.set_cons_succ, i64_w, i32_w]
                      rfl
                    refine pure_ (i := 14) (N := some 83) (v := ?_) (a' := ?_) q23_44 rfl rfl (any_of HT_.out (by kernel_rfl)) (fun _ _ _ h => h) (Or.inl ⟨by rfl, ?_⟩) ?_ ?_
                    rotate_left
                    · intro w'
                      go_simp
                      with_reducible rfl
                    rotate_left
                    · simp only [Act.put, List.setIfInBounds_toArray, List.set_cons_zero, List.set_cons_succ, i64_w, i32_w]
                      rfl
                    refine take_ (i := 11) (N := some 80) (v := ?_) (a' := ?_) q23_45 rfl rfl (take_ofW HT_.out HW_.out (by kernel_rfl)) (fun _ _ _ h => h) (Or.inl ⟨by rfl, ?_⟩) hHeld ?_ ?_
                    rotate_left
                    · rintro w' ⟨s0, s1, s2, s3, s4, s5, s6, s7, s8⟩
                      go_simp
                      with_reducible rfl
                    rotate_left
                    · simp only [Act.put, List.setIfInBounds_toArray, List.set_cons_zero, List.set_cons_succ, i64_w, i32_w]
                      rfl
                    refine take_ (i := 12) (N := some 81) (v := ?_) (a' := ?_) q23_46 rfl rfl (take_ofW HT_.out HW_.out (by kernel_rfl)) (fun _ _ _ h => h) (Or.inl ⟨by rfl, ?_⟩) hHeld ?_ ?_
                    rotate_left
                    · rintro w' ⟨s0, s1, s2, s3, s4, s5, s6, s7, s8⟩
                      go_simp
                      with_reducible rfl
                    rotate_left
                    · simp only [Act.put, List.setIfInBounds_toArray, List.set_cons_zero, List.set_cons_succ, i64_w, i32_w]
                      rfl
                    refine take_ (i := 13) (N := some 82) (v := ?_) (a' := ?_) q23_28 rfl rfl (take_ofW HT_.out HW_.out (by kernel_rfl)) (fun _ _ _ h => h) (Or.inl ⟨by rfl, ?_⟩) hHeld ?_ ?_
                    rotate_left
                    · rintro w' ⟨s0, s1, s2, s3, s4, s5, s6, s7, s8⟩
                      go_simp
                      with_reducible rfl
                    rotate_left
                    · simp only [Act.put, List.setIfInBounds_toArray, List.set_cons_zero, List.set_cons_succ, i64_w, i32_w]
                      rfl
                    refine one_ (i := 15) (N := some 84) q23_29 rfl rfl (one_of HT_.out (by kernel_rfl)) (by decide) (fun K hK => ?_)
                    refine goes_ Try.func21 (by kernel_rfl) rfl #[.agg #[.int .i64 (Int.tmod (Go.bits .and .i64 a0_0 32767) (wrap64 (1 + (Go.bits .and .i64 a0_8 32767)))), .bool a0_1, .int .i64 a0_2], .agg #[.int .i64 t266, .bool t267], .agg #[.int .i64 t270, .bool t271], .int .i64 (wrap64 (1 + (Go.bits .and .i64 a0_8 32767)))] (by rfl) rfl rfl (by (try simp only [List.map_toArray, List.map_cons, List.map_nil]); first | done | rfl | (simp only [List.length_drop, List.length_take]; rfl)) ?_
                    with_reducible refine (spot_Need.calls kj6 (Int.tmod (Go.bits .and .i64 a0_0 32767) (wrap64 (1 + (Go.bits .and .i64 a0_8 32767)))) a0_1 a0_2 t266 t267 t270 t271 (wrap64 (1 + (Go.bits .and .i64 a0_8 32767))) t278 _ A48.out).mono ?_
                    rintro e w56 ⟨rfl, hb⟩
                    refine ⟨_, rfl, ?_⟩
                    have n0_ := Aside0.mk (blk_below (g := gb263) (o := .cells #[.int .i64 a0_0, .bool a0_1, .int .i64 a0_2, .int .i64 a0_3, .bool a0_4, .int .i64 a0_5, .bool a0_6, .int .i64 a0_7, .int .i64 a0_8] 27 (0, 0)) (by (with_reducible repeat (first | refine blk_drewN ?_ _ | refine blk_drew ?_ | refine blk_alloc ?_ _)); exact BK263.out) hb)
                    have n1_ := Aside0.mk (blk_below (g := gb264) (o := .cells #[.int .i64 (Int.tmod (Go.bits .and .i64 a0_3 32767) (wrap64 (1 + (Go.bits .and .i64 a0_8 32767)))), .bool a0_4] 25 (0, 0)) (by (with_reducible repeat (first | refine blk_drewN ?_ _ | refine blk_drew ?_ | refine blk_alloc ?_ _)); exact BK264.out) hb)
                    have n2_ := Aside0.mk (blk_below (g := gb265) (o := .cells #[.int .i64 (Int.tmod (Go.bits .and .i64 a0_0 32767) (wrap64 (1 + (Go.bits .and .i64 a0_8 32767)))), .bool a0_1, .int .i64 a0_2] 23 (0, 0)) (by (with_reducible repeat (first | refine blk_drewN ?_ _ | refine blk_drew ?_ | refine blk_alloc ?_ _)); exact BK265.out) hb)
                    have n3_ := Aside0.mk (blk_below (g := gb269) (o := .cells #[.int .i64 t266, .bool t267] 25 (0, 0)) (by (with_reducible repeat (first | refine blk_drewN ?_ _ | refine blk_drew ?_ | refine blk_alloc ?_ _)); exact BK269.out) hb)
                    have n4_ := Aside0.mk (blk_below (g := gb273) (o := .cells #[.int .i64 t270, .bool t271] 25 (0, 0)) (by (with_reducible repeat (first | refine blk_drewN ?_ _ | refine blk_drew ?_ | refine blk_alloc ?_ _)); exact BK273.out) hb)
                    have n5_ := Aside0.mk (below_step (by repeat (first | (with_reducible first | exact HB.out | apply below_alloc | apply pw_below_drewN | apply below_drew1 | refine below_set ?_ GE263.out | refine below_set ?_ GE264.out | refine below_set ?_ GE265.out | refine below_set ?_ GE269.out | refine below_set ?_ GE273.out) | exact HB.out)) hb)
                    clear BK263
                    clear BK264
                    clear BK265
                    clear BK269
                    clear BK273
                    clear HB
                    have BK263 := n0_
                    have BK264 := n1_
                    have BK265 := n2_
                    have BK269 := n3_
                    have BK273 := n4_
                    have HB := n5_
                    clear n0_ n1_ n2_ n3_ n4_ n5_
                    (try clear hb)
                    (try clear hb2)
                    (try clear hk)
                    (try clear hi)
                    refine hK.out _ _ ⟨(blk_cell BK265.out 0).trans rfl, (blk_cell BK265.out 1).trans rfl, (blk_cell BK265.out 2).trans rfl, (blk_cell BK264.out 0).trans rfl, (blk_cell BK264.out 1).trans rfl, (blk_cell BK273.out 0).trans rfl, (blk_cell BK273.out 1).trans rfl, (blk_cell BK269.out 0).trans rfl, (blk_cell BK269.out 1).trans rfl⟩ (fun hHeld => ?_)
                    clear hK K
                    refine norm_ (a' := ?_) ?_ ?_
                    rotate_left
                    · show Act.put _ (some 84) _ = _
                      simp only [Act.put, List.setIfInBounds_toArray, List.set_cons_zero, List.set_cons_succ, i64_w, i32_w]
                      rfl
                    refine pure_ (i := 16) (N := some 85) (v := ?_) (a' := ?_) q23_30 rfl rfl (any_of HT_.out (by kernel_rfl)) (fun _ _ _ h => h) (Or.inl ⟨by rfl, ?_⟩) ?_ ?_
                    rotate_left
                    · intro w'
                      go_simp
                      with_reducible rfl
                    rotate_left
                    · simp only [Act.put, List.setIfInBounds_toArray, List.set_cons_zero, List.set_cons_succ, i64_w, i32_w]
                      rfl
                    refine pure_ (i := 17) (N := some 86) (v := ?_) (a' := ?_) q23_31 rfl rfl (any_of HT_.out (by kernel_rfl)) (fun _ _ _ h => h) (Or.inl ⟨by rfl, ?_⟩) ?_ ?_
                    rotate_left
                    · intro w'
                      go_simp
                      with_reducible rfl
                    rotate_left
                    · simp only [Act.put, List.setIfInBounds_toArray, List.set_cons_zero, List.set_cons_succ, i64_w, i32_w]
                      rfl
                    refine pure_ (i := 18) (N := some 87) (v := ?_) (a' := ?_) q23_32 rfl rfl (any_of HT_.out (by kernel_rfl)) (fun _ _ _ h => h) (Or.inl ⟨by rfl, ?_⟩) ?_ ?_
                    rotate_left
                    · intro w'
                      go_simp
                      with_reducible rfl
                    rotate_left
                    · simp only [Act.put, List.setIfInBounds_toArray, List.set_cons_zero, List.set_cons_succ, i64_w, i32_w]
                      rfl
                    refine pure_ (i := 22) (N := some 91) (v := ?_) (a' := ?_) q23_33 rfl rfl (any_of HT_.out (by kernel_rfl)) (fun _ _ _ h => h) (Or.inl ⟨by rfl, ?_⟩) ?_ ?_
                    rotate_left
                    · intro w'
                      go_simp
                      with_reducible rfl
                    rotate_left
                    · simp only [Act.put, List.setIfInBounds_toArray, List.set_cons_zero, List.set_cons_succ, i64_w, i32_w]
                      rfl
                    refine take_ (i := 19) (N := some 88) (v := ?_) (a' := ?_) q23_34 rfl rfl (take_ofW HT_.out HW_.out (by kernel_rfl)) (fun _ _ _ h => h) (Or.inl ⟨by rfl, ?_⟩) hHeld ?_ ?_
                    rotate_left
                    · rintro w' ⟨s0, s1, s2, s3, s4, s5, s6, s7, s8⟩
                      go_simp
                      with_reducible rfl
                    rotate_left
                    · simp only [Act.put, List.setIfInBounds_toArray, List.set_cons_zero, List.set_cons_succ, i64_w, i32_w]
                      rfl
                    refine take_ (i := 20) (N := some 89) (v := ?_) (a' := ?_) q23_35 rfl rfl (take_ofW HT_.out HW_.out (by kernel_rfl)) (fun _ _ _ h => h) (Or.inl ⟨by rfl, ?_⟩) hHeld ?_ ?_
                    rotate_left
                    · rintro w' ⟨s0, s1, s2, s3, s4, s5, s6, s7, s8⟩
                      go_simp
                      with_reducible rfl
                    rotate_left
                    · simp only [Act.put, List.setIfInBounds_toArray, List.set_cons_zero, List.set_cons_succ, i64_w, i32_w]
                      rfl
                    refine take_ (i := 21) (N := some 90) (v := ?_) (a' := ?_) q23_36 rfl rfl (take_ofW HT_.out HW_.out (by kernel_rfl)) (fun _ _ _ h => h) (Or.inl ⟨by rfl, ?_⟩) hHeld ?_ ?_
                    rotate_left
                    · rintro w' ⟨s0, s1, s2, s3, s4, s5, s6, s7, s8⟩
                      go_simp
                      with_reducible rfl
                    rotate_left
                    · simp only [Act.put, List.setIfInBounds_toArray, List.set_cons_zero, List.set_cons_succ, i64_w, i32_w]
                      rfl
                    refine one_ (i := 23) (N := some 92) q23_37 rfl rfl (one_of HT_.out (by kernel_rfl)) (by decide) (fun K hK => ?_)
                    refine goes_ Try.func21 (by kernel_rfl) rfl #[.agg #[.int .i64 (Int.tmod (Go.bits .and .i64 a0_0 32767) (wrap64 (1 + (Go.bits .and .i64 a0_8 32767)))), .bool a0_1, .int .i64 a0_2], .agg #[.int .i64 (Int.tmod (Go.bits .and .i64 a0_3 32767) (wrap64 (1 + (Go.bits .and .i64 a0_8 32767)))), .bool a0_4], .agg #[.int .i64 (Int.tmod (Go.bits .and .i64 a0_3 32767) (wrap64 (1 + (Go.bits .and .i64 a0_8 32767)))), .bool a0_4], .int .i64 (wrap64 (1 + (Go.bits .and .i64 a0_8 32767)))] (by rfl) rfl rfl (by (try simp only [List.map_toArray, List.map_cons, List.map_nil]); first | done | rfl | (simp only [List.length_drop, List.length_take]; rfl)) ?_
                    with_reducible refine (spot_Need.calls kj6 (Int.tmod (Go.bits .and .i64 a0_0 32767) (wrap64 (1 + (Go.bits .and .i64 a0_8 32767)))) a0_1 a0_2 (Int.tmod (Go.bits .and .i64 a0_3 32767) (wrap64 (1 + (Go.bits .and .i64 a0_8 32767)))) a0_4 (Int.tmod (Go.bits .and .i64 a0_3 32767) (wrap64 (1 + (Go.bits .and .i64 a0_8 32767)))) a0_4 (wrap64 (1 + (Go.bits .and .i64 a0_8 32767))) false _ A50.out).mono ?_
                    rintro e w57 ⟨rfl, hb⟩
                    refine ⟨_, rfl, ?_⟩
                    have n0_ := Aside0.mk (blk_below (g := gb263) (o := .cells #[.int .i64 a0_0, .bool a0_1, .int .i64 a0_2, .int .i64 a0_3, .bool a0_4, .int .i64 a0_5, .bool a0_6, .int .i64 a0_7, .int .i64 a0_8] 27 (0, 0)) (by (with_reducible repeat (first | refine blk_drewN ?_ _ | refine blk_drew ?_ | refine blk_alloc ?_ _)); exact BK263.out) hb)
                    have n1_ := Aside0.mk (blk_below (g := gb264) (o := .cells #[.int .i64 (Int.tmod (Go.bits .and .i64 a0_3 32767) (wrap64 (1 + (Go.bits .and .i64 a0_8 32767)))), .bool a0_4] 25 (0, 0)) (by (with_reducible repeat (first | refine blk_drewN ?_ _ | refine blk_drew ?_ | refine blk_alloc ?_ _)); exact BK264.out) hb)
                    have n2_ := Aside0.mk (blk_below (g := gb265) (o := .cells #[.int .i64 (Int.tmod (Go.bits .and .i64 a0_0 32767) (wrap64 (1 + (Go.bits .and .i64 a0_8 32767)))), .bool a0_1, .int .i64 a0_2] 23 (0, 0)) (by (with_reducible repeat (first | refine blk_drewN ?_ _ | refine blk_drew ?_ | refine blk_alloc ?_ _)); exact BK265.out) hb)
                    have n3_ := Aside0.mk (blk_below (g := gb269) (o := .cells #[.int .i64 t266, .bool t267] 25 (0, 0)) (by (with_reducible repeat (first | refine blk_drewN ?_ _ | refine blk_drew ?_ | refine blk_alloc ?_ _)); exact BK269.out) hb)
                    have n4_ := Aside0.mk (blk_below (g := gb273) (o := .cells #[.int .i64 t270, .bool t271] 25 (0, 0)) (by (with_reducible repeat (first | refine blk_drewN ?_ _ | refine blk_drew ?_ | refine blk_alloc ?_ _)); exact BK273.out) hb)
                    have n5_ := Aside0.mk (below_step (by repeat (first | (with_reducible first | exact HB.out | apply below_alloc | apply pw_below_drewN | apply below_drew1 | refine below_set ?_ GE263.out | refine below_set ?_ GE264.out | refine below_set ?_ GE265.out | refine below_set ?_ GE269.out | refine below_set ?_ GE273.out) | exact HB.out)) hb)
                    clear BK263
                    clear BK264
                    clear BK265
                    clear BK269
                    clear BK273
                    clear HB
                    have BK263 := n0_
                    have BK264 := n1_
                    have BK265 := n2_
                    have BK269 := n3_
                    have BK273 := n4_
                    have HB := n5_
                    clear n0_ n1_ n2_ n3_ n4_ n5_
                    (try clear hb)
                    (try clear hb2)
                    (try clear hk)
                    (try clear hi)
                    refine hK.out _ _ ⟨(blk_cell BK265.out 0).trans rfl, (blk_cell BK265.out 1).trans rfl, (blk_cell BK265.out 2).trans rfl, (blk_cell BK264.out 0).trans rfl, (blk_cell BK264.out 1).trans rfl, (blk_cell BK273.out 0).trans rfl, (blk_cell BK273.out 1).trans rfl, (blk_cell BK269.out 0).trans rfl, (blk_cell BK269.out 1).trans rfl⟩ (fun hHeld => ?_)
                    clear hK K
                    refine norm_ (a' := ?_) ?_ ?_
                    rotate_left
                    · show Act.put _ (some 92) _ = _
                      simp only [Act.put, List.setIfInBounds_toArray, List.set_cons_zero, List.set_cons_succ, i64_w, i32_w]
                      rfl
                    refine pure_ (i := 24) (N := some 93) (v := ?_) (a' := ?_) q23_38 rfl rfl (any_of HT_.out (by kernel_rfl)) (fun _ _ _ h => h) (Or.inl ⟨by rfl, ?_⟩) ?_ ?_
                    rotate_left
                    · intro w'
                      go_simp
                      with_reducible rfl
                    rotate_left
                    · simp only [Act.put, List.setIfInBounds_toArray, List.set_cons_zero, List.set_cons_succ, i64_w, i32_w]
                      rfl
                    refine pure_ (i := 25) (N := some 94) (v := ?_) (a' := ?_) q23_39 rfl rfl (any_of HT_.out (by kernel_rfl)) (fun _ _ _ h => h) (Or.inl ⟨by rfl, ?_⟩) ?_ ?_
                    rotate_left
                    · intro w'
                      go_simp
                      with_reducible rfl
                    rotate_left
                    · simp only [Act.put, List.setIfInBounds_toArray, List.set_cons_zero, List.set_cons_succ, i64_w, i32_w]
                      rfl
                    refine pure_ (i := 26) (N := some 95) (v := ?_) (a' := ?_) q23_40 rfl rfl (any_of HT_.out (by kernel_rfl)) (fun _ _ _ h => h) (Or.inl ⟨by rfl, ?_⟩) ?_ ?_
                    rotate_left
                    · intro w'
                      go_simp
                      with_reducible rfl
                    rotate_left
                    · simp only [Act.put, List.setIfInBounds_toArray, List.set_cons_zero, List.set_cons_succ, i64_w, i32_w]
                      rfl
                    refine one_ (i := 27) (N := some 96) q23_41 rfl rfl (one_of HT_.out (by kernel_rfl)) (by decide) (fun K hK => ?_)
                    refine goes_ Try.func14 (by kernel_rfl) rfl #[] (by rfl) rfl rfl (by (try simp only [List.map_toArray, List.map_cons, List.map_nil]); first | done | rfl | (simp only [List.length_drop, List.length_take]; rfl)) ?_
                    with_reducible refine (aqueductlaw13_fixed.calls kj6  t280 _ A52.out).mono ?_
                    rintro e w58 ⟨rfl, hb⟩
                    refine ⟨_, rfl, ?_⟩
                    have n0_ := Aside0.mk (blk_below (g := gb263) (o := .cells #[.int .i64 a0_0, .bool a0_1, .int .i64 a0_2, .int .i64 a0_3, .bool a0_4, .int .i64 a0_5, .bool a0_6, .int .i64 a0_7, .int .i64 a0_8] 27 (0, 0)) (by (with_reducible repeat (first | refine blk_drewN ?_ _ | refine blk_drew ?_ | refine blk_alloc ?_ _)); exact BK263.out) hb)
                    have n1_ := Aside0.mk (blk_below (g := gb264) (o := .cells #[.int .i64 (Int.tmod (Go.bits .and .i64 a0_3 32767) (wrap64 (1 + (Go.bits .and .i64 a0_8 32767)))), .bool a0_4] 25 (0, 0)) (by (with_reducible repeat (first | refine blk_drewN ?_ _ | refine blk_drew ?_ | refine blk_alloc ?_ _)); exact BK264.out) hb)
                    have n2_ := Aside0.mk (blk_below (g := gb265) (o := .cells #[.int .i64 (Int.tmod (Go.bits .and .i64 a0_0 32767) (wrap64 (1 + (Go.bits .and .i64 a0_8 32767)))), .bool a0_1, .int .i64 a0_2] 23 (0, 0)) (by (with_reducible repeat (first | refine blk_drewN ?_ _ | refine blk_drew ?_ | refine blk_alloc ?_ _)); exact BK265.out) hb)
                    have n3_ := Aside0.mk (blk_below (g := gb269) (o := .cells #[.int .i64 t266, .bool t267] 25 (0, 0)) (by (with_reducible repeat (first | refine blk_drewN ?_ _ | refine blk_drew ?_ | refine blk_alloc ?_ _)); exact BK269.out) hb)
                    have n4_ := Aside0.mk (blk_below (g := gb273) (o := .cells #[.int .i64 t270, .bool t271] 25 (0, 0)) (by (with_reducible repeat (first | refine blk_drewN ?_ _ | refine blk_drew ?_ | refine blk_alloc ?_ _)); exact BK273.out) hb)
                    have n5_ := Aside0.mk (below_step (by repeat (first | (with_reducible first | exact HB.out | apply below_alloc | apply pw_below_drewN | apply below_drew1 | refine below_set ?_ GE263.out | refine below_set ?_ GE264.out | refine below_set ?_ GE265.out | refine below_set ?_ GE269.out | refine below_set ?_ GE273.out) | exact HB.out)) hb)
                    clear BK263
                    clear BK264
                    clear BK265
                    clear BK269
                    clear BK273
                    clear HB
                    have BK263 := n0_
                    have BK264 := n1_
                    have BK265 := n2_
                    have BK269 := n3_
                    have BK273 := n4_
                    have HB := n5_
                    clear n0_ n1_ n2_ n3_ n4_ n5_
                    (try clear hb)
                    (try clear hb2)
                    (try clear hk)
                    (try clear hi)
                    refine hK.out _ _ ⟨(blk_cell BK265.out 0).trans rfl, (blk_cell BK265.out 1).trans rfl, (blk_cell BK265.out 2).trans rfl, (blk_cell BK264.out 0).trans rfl, (blk_cell BK264.out 1).trans rfl, (blk_cell BK273.out 0).trans rfl, (blk_cell BK273.out 1).trans rfl, (blk_cell BK269.out 0).trans rfl, (blk_cell BK269.out 1).trans rfl⟩ (fun hHeld => ?_)
                    clear hK K
                    refine norm_ (a' := ?_) ?_ ?_
                    rotate_left
                    · show Act.put _ (some 96) _ = _
                      simp only [Act.put, List.setIfInBounds_toArray, List.set_cons_zero, List.set_cons_succ, i64_w, i32_w]
                      rfl
                    refine pure_ (i := 28) (N := some 97) (v := ?_) (a' := ?_) q23_42 rfl rfl (any_of HT_.out (by kernel_rfl)) (fun _ _ _ h => h) (Or.inl ⟨by rfl, ?_⟩) ?_ ?_
                    rotate_left
                    · intro w'
                      go_simp
                      with_reducible rfl
                    rotate_left
                    · simp only [Act.put, List.setIfInBounds_toArray, List.set_cons_zero, List.set_cons_succ, i64_w, i32_w]
                      rfl
                    refine pure_ (i := 29) (N := some 2) (v := ?_) (a' := ?_) q23_43 rfl rfl (any_of HT_.out (by kernel_rfl)) (fun _ _ _ h => h) (Or.inl ⟨by rfl, ?_⟩) ?_ ?_
                    rotate_left
                    · intro w'
                      go_simp
                      with_reducible rfl
                    rotate_left
                    · simp only [Act.put, List.setIfInBounds_toArray, List.set_cons_zero, List.set_cons_succ, i64_w, i32_w]
                      rfl
                    refine done_ (done_of HT_.out (by kernel_rfl)) ?_
                    try go_wp2
                    go_ret
                    exact ⟨by first | rfl | (simp [errW_none, errW_some] <;> rfl) | (simp [*, errW_none, errW_some] <;> rfl), by repeat (first | (with_reducible first | exact HB.out | apply below_alloc | apply pw_below_drewN | apply below_drew1 | refine below_set ?_ GE263.out | refine below_set ?_ GE264.out | refine below_set ?_ GE265.out | refine below_set ?_ GE269.out | refine below_set ?_ GE273.out) | exact HB.out)⟩
                · rw [if_neg c49] at H
                  have c49b0 : (t274 == t278) = false := by simpa using c49
                  (try (have c49b1 : decide (t274 = t278) = false := by simpa using c49))
                  (try (have c49b2 : (t274 == t278) = false := by simpa using c49))
                  (try (have c49b3 : ¬ (t274 = t278) := by simpa using c49))
                  clear c49
                  obtain rfl := Option.some.inj H
                  exact absurd HR_.out (by decide)

end Go.Proofs.Ytdmhadoggghgnaa.P
