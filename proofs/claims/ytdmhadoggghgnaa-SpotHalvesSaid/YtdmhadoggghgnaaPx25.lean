/- What functions of the program compute, each with the walk that shows it: by a program (a turned copy of the kit's print; wip/myprint.py). -/
import Derived.Test.YtdmhadoggghgnaaPx0
import Derived.Test.YtdmhadoggghgnaaPx2
import Derived.Test.YtdmhadoggghgnaaPx7
import Derived.Test.YtdmhadoggghgnaaPx15
namespace Go.Proofs.Ytdmhadoggghgnaa.P
open Go.RowKit Go.Proofs.YtdmhadoggghgnaaW.PrintWords Go.Proofs.YtdmhadoggghgnaaW.PrintLast Go.Proofs.YtdmhadoggghgnaaW.PrintMore
attribute [local go_sem] max2_int min2_int max_two min_two max_three min_three max_four min_four   -- for this text's walks alone
set_option linter.unusedVariables false
set_option linter.unusedSimpArgs false
abbrev q25_0 : Array Bool := #[false, false, false, false, false, false, false, false, false, false, false, false]
abbrev q25_1 : Array Bool := #[true, false, false, false, false, false, false, false, false, false, false, false]
abbrev q25_2 : Array Bool := #[true, true, false, false, false, false, false, false, false, false, false, false]
abbrev q25_3 : Array Bool := #[true, true, false, false, true, false, false, false, false, false, false, false]
abbrev q25_4 : Array Bool := #[true, true, false, false, true, false, true, false, false, false, false, false]
abbrev q25_5 : Array Bool := #[true, true, false, false, true, false, true, true, false, false, false, false]
abbrev q25_6 : Array Bool := #[true, true, true, false, true, false, true, true, false, false, false, false]
abbrev q25_7 : Array Bool := #[true, true, true, true, true, false, true, true, false, false, false, false]
abbrev q25_8 : Array Bool := #[true, true, true, true, true, true, true, true, false, false, false, false]
abbrev q25_9 : Array Bool := #[true, true, true, true, true, true, true, true, true, false, false, false]
abbrev q25_10 : Array Bool := #[true, true, true, true, true, true, true, true, true, true, false, false]
abbrev q25_11 : Array Bool := #[true, true, true, true, true, true, true, true, true, true, true, false]
abbrev q25_12 : Array Bool := #[true, true, true, true, true, true, true, true, true, true, true, true]

attribute [local go_sem high] eqA25
/-! ### aqueductlaw13_SpotHalves: function 9 -/
def aqueductlaw13_SpotHalves.f (k : Nat) (a0_0 : Int) (a0_1 : Bool) (a0_2 : Int) (a0_3 : Int) (a0_4 : Bool) (a0_5 : Int) (a0_6 : Bool) (a0_7 : Int) (a0_8 : Int) : Option (Bool) := if (wrap64 (1 + (Go.bits .and .i64 a0_8 32767))) = 0 then (none) else ((spot_Gap.f k (Int.tmod (Go.bits .and .i64 a0_3 65535) (wrap64 (1 + (Go.bits .and .i64 a0_8 32767)))) a0_4 (Int.tmod (Go.bits .and .i64 a0_5 65535) (wrap64 (1 + (Go.bits .and .i64 a0_8 32767)))) a0_6 (wrap64 (1 + (Go.bits .and .i64 a0_8 32767)))).bind fun bt293 => ((spot_Gap.f k (Int.tmod (Go.bits .and .i64 a0_5 65535) (wrap64 (1 + (Go.bits .and .i64 a0_8 32767)))) a0_6 (Int.tmod (Go.bits .and .i64 a0_3 65535) (wrap64 (1 + (Go.bits .and .i64 a0_8 32767)))) a0_4 (wrap64 (1 + (Go.bits .and .i64 a0_8 32767)))).bind fun bt295 => (if bt293.2 = 0 then (if bt295.2 = 0 then (if ((Int.tmod (Go.bits .and .i64 a0_3 65535) (wrap64 (1 + (Go.bits .and .i64 a0_8 32767)))) == (Int.tmod (Go.bits .and .i64 a0_5 65535) (wrap64 (1 + (Go.bits .and .i64 a0_8 32767)))) && (a0_4 == a0_6)) = true then (if bt293.1 = 0 then (if bt295.1 = 0 then ((aqueductlaw13_fixed.f k).bind fun t297 => (some t297)) else (if (!((Int.tmod (Go.bits .and .i64 a0_3 65535) (wrap64 (1 + (Go.bits .and .i64 a0_8 32767)))) == (Int.tmod (Go.bits .and .i64 a0_5 65535) (wrap64 (1 + (Go.bits .and .i64 a0_8 32767))))) || (!(a0_4 == a0_6))) = true then (if (wrap64 (bt293.1 + bt295.1)) = (wrap64 (2 * (wrap64 (1 + (Go.bits .and .i64 a0_8 32767))))) then (if bt293.1 > 0 then (if bt295.1 > 0 then ((aqueductlaw13_fixed.f k).bind fun t298 => (some t298)) else (some false)) else (some false)) else (some false)) else (some false))) else (if (!((Int.tmod (Go.bits .and .i64 a0_3 65535) (wrap64 (1 + (Go.bits .and .i64 a0_8 32767)))) == (Int.tmod (Go.bits .and .i64 a0_5 65535) (wrap64 (1 + (Go.bits .and .i64 a0_8 32767))))) || (!(a0_4 == a0_6))) = true then (if (wrap64 (bt293.1 + bt295.1)) = (wrap64 (2 * (wrap64 (1 + (Go.bits .and .i64 a0_8 32767))))) then (if bt293.1 > 0 then (if bt295.1 > 0 then ((aqueductlaw13_fixed.f k).bind fun t299 => (some t299)) else (some false)) else (some false)) else (some false)) else (some false))) else (if (!((Int.tmod (Go.bits .and .i64 a0_3 65535) (wrap64 (1 + (Go.bits .and .i64 a0_8 32767)))) == (Int.tmod (Go.bits .and .i64 a0_5 65535) (wrap64 (1 + (Go.bits .and .i64 a0_8 32767))))) || (!(a0_4 == a0_6))) = true then (if (wrap64 (bt293.1 + bt295.1)) = (wrap64 (2 * (wrap64 (1 + (Go.bits .and .i64 a0_8 32767))))) then (if bt293.1 > 0 then (if bt295.1 > 0 then ((aqueductlaw13_fixed.f k).bind fun t300 => (some t300)) else (some false)) else (some false)) else (some false)) else (some false))) else (some false)) else (some false))))
theorem aqueductlaw13_SpotHalves.mono : ∀ a0 a1 a2 a3 a4 a5 a6 a7 a8 k, LeO (aqueductlaw13_SpotHalves.f k a0 a1 a2 a3 a4 a5 a6 a7 a8) (aqueductlaw13_SpotHalves.f (k + 1) a0 a1 a2 a3 a4 a5 a6 a7 a8) := by
  intro a0 a1 a2 a3 a4 a5 a6 a7 a8 k
  unfold aqueductlaw13_SpotHalves.f
  repeat' first
      | (with_reducible exact aqueductlaw13_fixed.mono _)
      | (with_reducible exact spot_Gap.mono _ _ _ _ _ _)
      | (with_reducible exact LeO.refl _)
      | (with_reducible exact LeO.none _)
      | (with_reducible refine LeO.ite ?_ ?_)
      | (with_reducible refine LeO.bind ?_ (fun _ => ?_))
      | exact aqueductlaw13_fixed.mono _
      | exact spot_Gap.mono _ _ _ _ _ _
      | exact LeO.none _
      | refine LeO.ite ?_ ?_
      | refine LeO.bind ?_ (fun _ => ?_)
def aqueductlaw13_SpotHalves.T2 : Bool × List (List Nat × List Nat) := (true, [([], []), ([0], [0]), ([1], [1]), ([2], [2]), ([], []), ([3, 4], [3, 4]), ([], []), ([6], [6]), ([7], [7]), ([5, 8], [5, 8]), ([], []), ([10, 9, 0, 1, 2, 3, 4, 5, 6, 7, 8, 9, 10], [9, 10])])
def aqueductlaw13_SpotHalves.B2 : List Nat := [0, 1, 3, 7, 0, 31, 0, 64, 192, 511, 0, 2047]
theorem aqueductlaw13_SpotHalves.tab2 : rtab .any (opsOf Try.f9 2) = aqueductlaw13_SpotHalves.T2 := by kernel_rfl
theorem aqueductlaw13_SpotHalves.bits2 : waitsOk aqueductlaw13_SpotHalves.T2.2 aqueductlaw13_SpotHalves.B2 = true := by kernel_rfl
def aqueductlaw13_SpotHalves.T3 : Bool × List (List Nat × List Nat) := (true, [([], []), ([0], [0]), ([1], [1]), ([2], [2]), ([], []), ([3, 4], [3, 4]), ([], []), ([6], [6]), ([7], [7]), ([5, 8], [5, 8]), ([], []), ([10, 9, 0, 1, 2, 3, 4, 5, 6, 7, 8, 9, 10], [9, 10])])
def aqueductlaw13_SpotHalves.B3 : List Nat := [0, 1, 3, 7, 0, 31, 0, 64, 192, 511, 0, 2047]
theorem aqueductlaw13_SpotHalves.tab3 : rtab .any (opsOf Try.f9 3) = aqueductlaw13_SpotHalves.T3 := by kernel_rfl
theorem aqueductlaw13_SpotHalves.bits3 : waitsOk aqueductlaw13_SpotHalves.T3.2 aqueductlaw13_SpotHalves.B3 = true := by kernel_rfl
set_option maxHeartbeats 8000000 in
set_option maxRecDepth 100000 in
theorem aqueductlaw13_SpotHalves.calls (k : Nat) (a0_0 : Int) (a0_1 : Bool) (a0_2 : Int) (a0_3 : Int) (a0_4 : Bool) (a0_5 : Int) (a0_6 : Bool) (a0_7 : Int) (a0_8 : Int) (r : Bool) (w : World) (h : aqueductlaw13_SpotHalves.f k a0_0 a0_1 a0_2 a0_3 a0_4 a0_5 a0_6 a0_7 a0_8 = some r) (hr_ : r = true) :
    Calls Try.prog 9 #[.agg #[.int .i64 a0_0, .bool a0_1, .int .i64 a0_2, .int .i64 a0_3, .bool a0_4, .int .i64 a0_5, .bool a0_6, .int .i64 a0_7, .int .i64 a0_8]] w fun e w' => e = .returned (.bool r) ∧ Below w.heap.size w w' := by
  have hu27 := Try.underlying27
  have hu25 := Try.underlying25
  have HB := Aside0.mk (Below.refl w.heap.size w)
  have H : (if (wrap64 (1 + (Go.bits .and .i64 a0_8 32767))) = 0 then (none) else ((spot_Gap.f k (Int.tmod (Go.bits .and .i64 a0_3 65535) (wrap64 (1 + (Go.bits .and .i64 a0_8 32767)))) a0_4 (Int.tmod (Go.bits .and .i64 a0_5 65535) (wrap64 (1 + (Go.bits .and .i64 a0_8 32767)))) a0_6 (wrap64 (1 + (Go.bits .and .i64 a0_8 32767)))).bind fun bt293 => ((spot_Gap.f k (Int.tmod (Go.bits .and .i64 a0_5 65535) (wrap64 (1 + (Go.bits .and .i64 a0_8 32767)))) a0_6 (Int.tmod (Go.bits .and .i64 a0_3 65535) (wrap64 (1 + (Go.bits .and .i64 a0_8 32767)))) a0_4 (wrap64 (1 + (Go.bits .and .i64 a0_8 32767)))).bind fun bt295 => (if bt293.2 = 0 then (if bt295.2 = 0 then (if ((Int.tmod (Go.bits .and .i64 a0_3 65535) (wrap64 (1 + (Go.bits .and .i64 a0_8 32767)))) == (Int.tmod (Go.bits .and .i64 a0_5 65535) (wrap64 (1 + (Go.bits .and .i64 a0_8 32767)))) && (a0_4 == a0_6)) = true then (if bt293.1 = 0 then (if bt295.1 = 0 then ((aqueductlaw13_fixed.f k).bind fun t297 => (some t297)) else (if (!((Int.tmod (Go.bits .and .i64 a0_3 65535) (wrap64 (1 + (Go.bits .and .i64 a0_8 32767)))) == (Int.tmod (Go.bits .and .i64 a0_5 65535) (wrap64 (1 + (Go.bits .and .i64 a0_8 32767))))) || (!(a0_4 == a0_6))) = true then (if (wrap64 (bt293.1 + bt295.1)) = (wrap64 (2 * (wrap64 (1 + (Go.bits .and .i64 a0_8 32767))))) then (if bt293.1 > 0 then (if bt295.1 > 0 then ((aqueductlaw13_fixed.f k).bind fun t298 => (some t298)) else (some false)) else (some false)) else (some false)) else (some false))) else (if (!((Int.tmod (Go.bits .and .i64 a0_3 65535) (wrap64 (1 + (Go.bits .and .i64 a0_8 32767)))) == (Int.tmod (Go.bits .and .i64 a0_5 65535) (wrap64 (1 + (Go.bits .and .i64 a0_8 32767))))) || (!(a0_4 == a0_6))) = true then (if (wrap64 (bt293.1 + bt295.1)) = (wrap64 (2 * (wrap64 (1 + (Go.bits .and .i64 a0_8 32767))))) then (if bt293.1 > 0 then (if bt295.1 > 0 then ((aqueductlaw13_fixed.f k).bind fun t299 => (some t299)) else (some false)) else (some false)) else (some false)) else (some false))) else (if (!((Int.tmod (Go.bits .and .i64 a0_3 65535) (wrap64 (1 + (Go.bits .and .i64 a0_8 32767)))) == (Int.tmod (Go.bits .and .i64 a0_5 65535) (wrap64 (1 + (Go.bits .and .i64 a0_8 32767))))) || (!(a0_4 == a0_6))) = true then (if (wrap64 (bt293.1 + bt295.1)) = (wrap64 (2 * (wrap64 (1 + (Go.bits .and .i64 a0_8 32767))))) then (if bt293.1 > 0 then (if bt295.1 > 0 then ((aqueductlaw13_fixed.f k).bind fun t300 => (some t300)) else (some false)) else (some false)) else (some false)) else (some false))) else (some false)) else (some false))))) = some r := h
  clear h
  have HR_ := Aside0.mk hr_
  clear hr_
  by_cases c2 : (wrap64 (1 + (Go.bits .and .i64 a0_8 32767))) = 0
  · rw [if_pos c2] at H
    exact absurd H (by simp)
  · rw [if_neg c2] at H
    have c2b0 : ((wrap64 (1 + (Go.bits .and .i64 a0_8 32767))) == 0) = false := beq_eq_false_iff_ne.mpr c2
    have c2b1 : ((wrap64 (1 + (Go.bits .and .i64 a0_8 32767))) != 0) = true := bne_iff_ne.mpr c2
    replace H := Option.bind_eq_some_iff.mp H
    obtain ⟨⟨t293, t294⟩, A30, H⟩ := H
    replace H : ((spot_Gap.f k (Int.tmod (Go.bits .and .i64 a0_5 65535) (wrap64 (1 + (Go.bits .and .i64 a0_8 32767)))) a0_6 (Int.tmod (Go.bits .and .i64 a0_3 65535) (wrap64 (1 + (Go.bits .and .i64 a0_8 32767)))) a0_4 (wrap64 (1 + (Go.bits .and .i64 a0_8 32767)))).bind fun bt295 => (if t294 = 0 then (if bt295.2 = 0 then (if ((Int.tmod (Go.bits .and .i64 a0_3 65535) (wrap64 (1 + (Go.bits .and .i64 a0_8 32767)))) == (Int.tmod (Go.bits .and .i64 a0_5 65535) (wrap64 (1 + (Go.bits .and .i64 a0_8 32767)))) && (a0_4 == a0_6)) = true then (if t293 = 0 then (if bt295.1 = 0 then ((aqueductlaw13_fixed.f k).bind fun t297 => (some t297)) else (if (!((Int.tmod (Go.bits .and .i64 a0_3 65535) (wrap64 (1 + (Go.bits .and .i64 a0_8 32767)))) == (Int.tmod (Go.bits .and .i64 a0_5 65535) (wrap64 (1 + (Go.bits .and .i64 a0_8 32767))))) || (!(a0_4 == a0_6))) = true then (if (wrap64 (t293 + bt295.1)) = (wrap64 (2 * (wrap64 (1 + (Go.bits .and .i64 a0_8 32767))))) then (if t293 > 0 then (if bt295.1 > 0 then ((aqueductlaw13_fixed.f k).bind fun t298 => (some t298)) else (some false)) else (some false)) else (some false)) else (some false))) else (if (!((Int.tmod (Go.bits .and .i64 a0_3 65535) (wrap64 (1 + (Go.bits .and .i64 a0_8 32767)))) == (Int.tmod (Go.bits .and .i64 a0_5 65535) (wrap64 (1 + (Go.bits .and .i64 a0_8 32767))))) || (!(a0_4 == a0_6))) = true then (if (wrap64 (t293 + bt295.1)) = (wrap64 (2 * (wrap64 (1 + (Go.bits .and .i64 a0_8 32767))))) then (if t293 > 0 then (if bt295.1 > 0 then ((aqueductlaw13_fixed.f k).bind fun t299 => (some t299)) else (some false)) else (some false)) else (some false)) else (some false))) else (if (!((Int.tmod (Go.bits .and .i64 a0_3 65535) (wrap64 (1 + (Go.bits .and .i64 a0_8 32767)))) == (Int.tmod (Go.bits .and .i64 a0_5 65535) (wrap64 (1 + (Go.bits .and .i64 a0_8 32767))))) || (!(a0_4 == a0_6))) = true then (if (wrap64 (t293 + bt295.1)) = (wrap64 (2 * (wrap64 (1 + (Go.bits .and .i64 a0_8 32767))))) then (if t293 > 0 then (if bt295.1 > 0 then ((aqueductlaw13_fixed.f k).bind fun t300 => (some t300)) else (some false)) else (some false)) else (some false)) else (some false))) else (some false)) else (some false))) = some r := H
    have A3 := Aside0.mk A30
    clear A30
    replace H := Option.bind_eq_some_iff.mp H
    obtain ⟨⟨t295, t296⟩, A40, H⟩ := H
    replace H : (if t294 = 0 then (if t296 = 0 then (if ((Int.tmod (Go.bits .and .i64 a0_3 65535) (wrap64 (1 + (Go.bits .and .i64 a0_8 32767)))) == (Int.tmod (Go.bits .and .i64 a0_5 65535) (wrap64 (1 + (Go.bits .and .i64 a0_8 32767)))) && (a0_4 == a0_6)) = true then (if t293 = 0 then (if t295 = 0 then ((aqueductlaw13_fixed.f k).bind fun t297 => (some t297)) else (if (!((Int.tmod (Go.bits .and .i64 a0_3 65535) (wrap64 (1 + (Go.bits .and .i64 a0_8 32767)))) == (Int.tmod (Go.bits .and .i64 a0_5 65535) (wrap64 (1 + (Go.bits .and .i64 a0_8 32767))))) || (!(a0_4 == a0_6))) = true then (if (wrap64 (t293 + t295)) = (wrap64 (2 * (wrap64 (1 + (Go.bits .and .i64 a0_8 32767))))) then (if t293 > 0 then (if t295 > 0 then ((aqueductlaw13_fixed.f k).bind fun t298 => (some t298)) else (some false)) else (some false)) else (some false)) else (some false))) else (if (!((Int.tmod (Go.bits .and .i64 a0_3 65535) (wrap64 (1 + (Go.bits .and .i64 a0_8 32767)))) == (Int.tmod (Go.bits .and .i64 a0_5 65535) (wrap64 (1 + (Go.bits .and .i64 a0_8 32767))))) || (!(a0_4 == a0_6))) = true then (if (wrap64 (t293 + t295)) = (wrap64 (2 * (wrap64 (1 + (Go.bits .and .i64 a0_8 32767))))) then (if t293 > 0 then (if t295 > 0 then ((aqueductlaw13_fixed.f k).bind fun t299 => (some t299)) else (some false)) else (some false)) else (some false)) else (some false))) else (if (!((Int.tmod (Go.bits .and .i64 a0_3 65535) (wrap64 (1 + (Go.bits .and .i64 a0_8 32767)))) == (Int.tmod (Go.bits .and .i64 a0_5 65535) (wrap64 (1 + (Go.bits .and .i64 a0_8 32767))))) || (!(a0_4 == a0_6))) = true then (if (wrap64 (t293 + t295)) = (wrap64 (2 * (wrap64 (1 + (Go.bits .and .i64 a0_8 32767))))) then (if t293 > 0 then (if t295 > 0 then ((aqueductlaw13_fixed.f k).bind fun t300 => (some t300)) else (some false)) else (some false)) else (some false)) else (some false))) else (some false)) else (some false)) = some r := H
    have A4 := Aside0.mk A40
    clear A40
    by_cases c5 : t294 = 0
    · rw [if_pos c5] at H
      have c5b0 : (t294 == 0) = true := beq_iff_eq.mpr c5
      have c5b1 : (t294 != 0) = false := bne_eq_false_iff_eq.mpr c5
      clear c5
      by_cases c6 : t296 = 0
      · rw [if_pos c6] at H
        have c6b0 : (t296 == 0) = true := beq_iff_eq.mpr c6
        have c6b1 : (t296 != 0) = false := bne_eq_false_iff_eq.mpr c6
        clear c6
        by_cases c7 : ((Int.tmod (Go.bits .and .i64 a0_3 65535) (wrap64 (1 + (Go.bits .and .i64 a0_8 32767)))) == (Int.tmod (Go.bits .and .i64 a0_5 65535) (wrap64 (1 + (Go.bits .and .i64 a0_8 32767)))) && (a0_4 == a0_6)) = true
        · rw [if_pos c7] at H
          have c7b0 : ((Int.tmod (Go.bits .and .i64 a0_3 65535) (wrap64 (1 + (Go.bits .and .i64 a0_8 32767)))) == (Int.tmod (Go.bits .and .i64 a0_5 65535) (wrap64 (1 + (Go.bits .and .i64 a0_8 32767)))) && (a0_4 == a0_6)) = true := c7
          (try (have c7b1 : decide ((Int.tmod (Go.bits .and .i64 a0_3 65535) (wrap64 (1 + (Go.bits .and .i64 a0_8 32767)))) = (Int.tmod (Go.bits .and .i64 a0_5 65535) (wrap64 (1 + (Go.bits .and .i64 a0_8 32767)))) && (a0_4 == a0_6)) = true := by simpa using c7))
          (try (have c7b2 : ((Int.tmod (Go.bits .and .i64 a0_3 65535) (wrap64 (1 + (Go.bits .and .i64 a0_8 32767)))) == (Int.tmod (Go.bits .and .i64 a0_5 65535) (wrap64 (1 + (Go.bits .and .i64 a0_8 32767)))) && (a0_4 == a0_6)) = true := by simpa using c7))
          clear c7
          by_cases c8 : t293 = 0
          · rw [if_pos c8] at H
            have c8b0 : (t293 == 0) = true := beq_iff_eq.mpr c8
            have c8b1 : (t293 != 0) = false := bne_eq_false_iff_eq.mpr c8
            clear c8
            by_cases c9 : t295 = 0
            · rw [if_pos c9] at H
              have c9b0 : (t295 == 0) = true := beq_iff_eq.mpr c9
              have c9b1 : (t295 != 0) = false := bne_eq_false_iff_eq.mpr c9
              clear c9
              replace H := Option.bind_eq_some_iff.mp H
              obtain ⟨t297, A100, H⟩ := H
              replace H : (some t297) = some r := H
              have A10 := Aside0.mk A100
              clear A100
              obtain rfl := Option.some.inj H
              go_enter Try.func9, Try.ntmps9
              try go_wp2_with (first | ((with_reducible refine gate_dst (N := 1) rfl ?_); refine box_event ?hg (N := 1) ?hd (cs := #[.int .i64 a0_0, .bool a0_1, .int .i64 a0_2, .int .i64 a0_3, .bool a0_4, .int .i64 a0_5, .bool a0_6, .int .i64 a0_7, .int .i64 a0_8]) (t := 27) ?hr ?_; (case hd => rfl); (case hg => rfl); (case hr => first | (go_simp; done) | (go_simp; rfl)); intro gb290 hg w11 hbox hb; have n0_ := Aside0.mk (below_step (by repeat (first | (with_reducible first | exact HB.out | apply below_alloc | apply pw_below_drewN | apply below_drew1) | exact HB.out)) hb); have n1_ := Aside0.mk (hbox); have n2_ := Aside0.mk ((by rw [hg]; exact (below_size (by repeat (first | (with_reducible first | exact HB.out | apply below_alloc | apply pw_below_drewN | apply below_drew1) | exact HB.out))) : w.heap.size ≤ gb290)); have n3_ := Aside0.mk ((by rw [hg]; exact (below_size (by repeat (first | (with_reducible first | exact HB.out | apply below_alloc | apply pw_below_drewN | apply below_drew1) | exact HB.out))) : w.heap.size ≤ gb290)); clear HB; have HB := n0_; have BK290 := n1_; have GW290 := n2_; have GE290 := n3_; clear n0_ n1_ n2_ n3_; clear hb hbox hg; have hcz12_0 : w11.cell? ⟨gb290, 0, none⟩ = some (.int .i64 a0_0) := (blk_cell BK290.out 0).trans rfl; have hcz12_1 : w11.cell? ⟨gb290, 1, none⟩ = some (.bool a0_1) := (blk_cell BK290.out 1).trans rfl; have hcz12_2 : w11.cell? ⟨gb290, 2, none⟩ = some (.int .i64 a0_2) := (blk_cell BK290.out 2).trans rfl; have hcz12_3 : w11.cell? ⟨gb290, 3, none⟩ = some (.int .i64 a0_3) := (blk_cell BK290.out 3).trans rfl; have hcz12_4 : w11.cell? ⟨gb290, 4, none⟩ = some (.bool a0_4) := (blk_cell BK290.out 4).trans rfl; have hcz12_5 : w11.cell? ⟨gb290, 5, none⟩ = some (.int .i64 a0_5) := (blk_cell BK290.out 5).trans rfl; have hcz12_6 : w11.cell? ⟨gb290, 6, none⟩ = some (.bool a0_6) := (blk_cell BK290.out 6).trans rfl; have hcz12_7 : w11.cell? ⟨gb290, 7, none⟩ = some (.int .i64 a0_7) := (blk_cell BK290.out 7).trans rfl; have hcz12_8 : w11.cell? ⟨gb290, 8, none⟩ = some (.int .i64 a0_8) := (blk_cell BK290.out 8).trans rfl; have hfz12_0 := blk_frozen BK290.out 0; have hfz12_1 := blk_frozen BK290.out 1; have hfz12_2 := blk_frozen BK290.out 2; have hfz12_3 := blk_frozen BK290.out 3; have hfz12_4 := blk_frozen BK290.out 4; have hfz12_5 := blk_frozen BK290.out 5; have hfz12_6 := blk_frozen BK290.out 6; have hfz12_7 := blk_frozen BK290.out 7; have hfz12_8 := blk_frozen BK290.out 8))
              have n0_ := Aside0.mk (blk_drew BK290.out)
              have n1_ := Aside0.mk (below_drew1 HB.out)
              clear BK290
              clear HB
              have BK290 := n0_
              have HB := n1_
              clear n0_ n1_
              refine start_ (n := 12) (S := fun w' => w'.cell? ⟨gb290, 0, none⟩ = some (.int .i64 a0_0) ∧ w'.cell? ⟨gb290, 1, none⟩ = some (.bool a0_1) ∧ w'.cell? ⟨gb290, 2, none⟩ = some (.int .i64 a0_2) ∧ w'.cell? ⟨gb290, 3, none⟩ = some (.int .i64 a0_3) ∧ w'.cell? ⟨gb290, 4, none⟩ = some (.bool a0_4) ∧ w'.cell? ⟨gb290, 5, none⟩ = some (.int .i64 a0_5) ∧ w'.cell? ⟨gb290, 6, none⟩ = some (.bool a0_6) ∧ w'.cell? ⟨gb290, 7, none⟩ = some (.int .i64 a0_7) ∧ w'.cell? ⟨gb290, 8, none⟩ = some (.int .i64 a0_8)) (ds := []) q25_0 (by kernel_rfl) rfl rfl ⟨(blk_cell BK290.out 0).trans rfl, (blk_cell BK290.out 1).trans rfl, (blk_cell BK290.out 2).trans rfl, (blk_cell BK290.out 3).trans rfl, (blk_cell BK290.out 4).trans rfl, (blk_cell BK290.out 5).trans rfl, (blk_cell BK290.out 6).trans rfl, (blk_cell BK290.out 7).trans rfl, (blk_cell BK290.out 8).trans rfl⟩ (fun hHeld => ?_); refine with_tabW aqueductlaw13_SpotHalves.tab2 aqueductlaw13_SpotHalves.bits2 (fun HT_ HW_ => ?_)
              generalize w11.drew = w13 at BK290 HB hHeld ⊢
              refine pure_ (i := 0) (N := some 14) (v := ?_) (a' := ?_) q25_1 rfl rfl (any_of HT_.out (by kernel_rfl)) (fun _ _ _ h => h) (Or.inl ⟨by rfl, ?_⟩) ?_ ?_
              rotate_left
              · intro w'
                go_simp
                with_reducible rfl
              rotate_left
              · simp only [Act.put, List.setIfInBounds_toArray, List.set_cons_zero, List.set_cons_succ, i64_w, i32_w]
                rfl
              refine pure_ (i := 1) (N := some 15) (v := ?_) (a' := ?_) q25_2 rfl rfl (any_of HT_.out (by kernel_rfl)) (fun _ _ _ h => h) (Or.inl ⟨by rfl, ?_⟩) ?_ ?_
              rotate_left
              · intro w'
                go_simp
                with_reducible rfl
              rotate_left
              · simp only [Act.put, List.setIfInBounds_toArray, List.set_cons_zero, List.set_cons_succ, i64_w, i32_w]
                rfl
              refine pure_ (i := 4) (N := some 18) (v := ?_) (a' := ?_) q25_3 rfl rfl (any_of HT_.out (by kernel_rfl)) (fun _ _ _ h => h) (Or.inl ⟨by rfl, ?_⟩) ?_ ?_
              rotate_left
              · intro w'
                go_simp
                with_reducible rfl
              rotate_left
              · simp only [Act.put, List.setIfInBounds_toArray, List.set_cons_zero, List.set_cons_succ, i64_w, i32_w]
                rfl
              refine pure_ (i := 6) (N := some 20) (v := ?_) (a' := ?_) q25_4 rfl rfl (any_of HT_.out (by kernel_rfl)) (fun _ _ _ h => h) (Or.inl ⟨by rfl, ?_⟩) ?_ ?_
              rotate_left
              · intro w'
                go_simp
                with_reducible rfl
              rotate_left
              · simp only [Act.put, List.setIfInBounds_toArray, List.set_cons_zero, List.set_cons_succ, i64_w, i32_w]
                rfl
              refine pure_ (i := 7) (N := some 21) (v := ?_) (a' := ?_) q25_5 rfl rfl (any_of HT_.out (by kernel_rfl)) (fun _ _ _ h => h) (Or.inl ⟨by rfl, ?_⟩) ?_ ?_
              rotate_left
              · intro w'
                go_simp
                with_reducible rfl
              rotate_left
              · simp only [Act.put, List.setIfInBounds_toArray, List.set_cons_zero, List.set_cons_succ, i64_w, i32_w]
                rfl
              refine take_ (i := 2) (N := some 16) (v := ?_) (a' := ?_) q25_6 rfl rfl (take_ofW HT_.out HW_.out (by kernel_rfl)) (fun _ _ _ h => h) (Or.inl ⟨by rfl, ?_⟩) hHeld ?_ ?_
              rotate_left
              · rintro w' ⟨s0, s1, s2, s3, s4, s5, s6, s7, s8⟩
                go_simp
                with_reducible rfl
              rotate_left
              · simp only [Act.put, List.setIfInBounds_toArray, List.set_cons_zero, List.set_cons_succ, i64_w, i32_w]
                rfl
              refine pure_ (i := 3) (N := some 17) (v := ?_) (a' := ?_) q25_7 rfl rfl (any_of HT_.out (by kernel_rfl)) (fun _ _ _ h => h) (Or.inl ⟨by rfl, ?_⟩) ?_ ?_
              rotate_left
              · intro w'
                go_simp
                with_reducible rfl
              rotate_left
              · simp only [Act.put, List.setIfInBounds_toArray, List.set_cons_zero, List.set_cons_succ, i64_w, i32_w]
                rfl
              refine pure_ (i := 5) (N := some 19) (v := ?_) (a' := ?_) q25_8 rfl rfl (any_of HT_.out (by kernel_rfl)) (fun _ _ _ h => h) (Or.inl ⟨by rfl, ?_⟩) ?_ ?_
              rotate_left
              · intro w'
                go_simp
                with_reducible rfl
              rotate_left
              · simp only [Act.put, List.setIfInBounds_toArray, List.set_cons_zero, List.set_cons_succ, i64_w, i32_w]
                rfl
              refine take_ (i := 8) (N := some 22) (v := ?_) (a' := ?_) q25_9 rfl rfl (take_ofW HT_.out HW_.out (by kernel_rfl)) (fun _ _ _ h => h) (Or.inl ⟨by rfl, ?_⟩) hHeld ?_ ?_
              rotate_left
              · rintro w' ⟨s0, s1, s2, s3, s4, s5, s6, s7, s8⟩
                go_simp
                with_reducible rfl
              rotate_left
              · simp only [Act.put, List.setIfInBounds_toArray, List.set_cons_zero, List.set_cons_succ, i64_w, i32_w]
                rfl
              refine pure_ (i := 9) (N := some 23) (v := ?_) (a' := ?_) q25_10 rfl rfl (any_of HT_.out (by kernel_rfl)) (fun _ _ _ h => h) (Or.inl ⟨by rfl, ?_⟩) ?_ ?_
              rotate_left
              · intro w'
                go_simp
                with_reducible rfl
              rotate_left
              · simp only [Act.put, List.setIfInBounds_toArray, List.set_cons_zero, List.set_cons_succ, i64_w, i32_w]
                rfl
              refine one_ (i := 10) (N := some 4) q25_11 rfl rfl (one_of HT_.out (by kernel_rfl)) (by decide) (fun K hK => ?_)
              refine box_step ?hg (N := 4) ?hd (cs := #[.int .i64 0, .bool false]) (t := 25) ?hr ?_; (case hd => rfl); (case hg => rfl); (case hr => first | (go_simp; done) | (go_simp; rfl))
              intro gb291 hg w14 hbox hb
              have n0_ := Aside0.mk (blk_below (g := gb290) (o := .cells #[.int .i64 a0_0, .bool a0_1, .int .i64 a0_2, .int .i64 a0_3, .bool a0_4, .int .i64 a0_5, .bool a0_6, .int .i64 a0_7, .int .i64 a0_8] 27 (0, 0)) (by (with_reducible repeat (first | refine blk_drewN ?_ _ | refine blk_drew ?_ | refine blk_alloc ?_ _)); exact BK290.out) hb)
              have n1_ := Aside0.mk (below_step (by repeat (first | (with_reducible first | exact HB.out | apply below_alloc | apply pw_below_drewN | apply below_drew1 | refine below_set ?_ GE290.out) | exact HB.out)) hb)
              have n2_ := Aside0.mk (hbox)
              have n3_ := Aside0.mk ((by rw [hg]; exact (below_size (by repeat (first | (with_reducible first | exact HB.out | apply below_alloc | apply pw_below_drewN | apply below_drew1 | refine below_set ?_ GE290.out) | exact HB.out))) : w.heap.size ≤ gb291))
              have n4_ := Aside0.mk ((by rw [hg]; exact (below_size (by repeat (first | (with_reducible first | exact HB.out | apply below_alloc | apply pw_below_drewN | apply below_drew1 | refine below_set ?_ GE290.out) | exact HB.out))) : w.heap.size ≤ gb291))
              have n5_ := Aside0.mk ((by rw [hg]; exact Nat.ne_of_lt (blk_lt (g := gb290) (o := .cells #[.int .i64 a0_0, .bool a0_1, .int .i64 a0_2, .int .i64 a0_3, .bool a0_4, .int .i64 a0_5, .bool a0_6, .int .i64 a0_7, .int .i64 a0_8] 27 (0, 0)) (by (with_reducible repeat (first | refine blk_drewN ?_ _ | refine blk_drew ?_ | refine blk_alloc ?_ _)); exact BK290.out)) : gb290 ≠ gb291))
              have n6_ := Aside0.mk ((by rw [hg]; exact Nat.ne_of_gt (blk_lt (g := gb290) (o := .cells #[.int .i64 a0_0, .bool a0_1, .int .i64 a0_2, .int .i64 a0_3, .bool a0_4, .int .i64 a0_5, .bool a0_6, .int .i64 a0_7, .int .i64 a0_8] 27 (0, 0)) (by (with_reducible repeat (first | refine blk_drewN ?_ _ | refine blk_drew ?_ | refine blk_alloc ?_ _)); exact BK290.out)) : gb291 ≠ gb290))
              clear BK290
              clear HB
              have BK290 := n0_
              have HB := n1_
              have BK291 := n2_
              have GW291 := n3_
              have GE291 := n4_
              have NB290_291 := n5_
              have NB291_290 := n6_
              clear n0_ n1_ n2_ n3_ n4_ n5_ n6_
              clear hb hbox hg
              refine hK.out _ _ ⟨(blk_cell BK290.out 0).trans rfl, (blk_cell BK290.out 1).trans rfl, (blk_cell BK290.out 2).trans rfl, (blk_cell BK290.out 3).trans rfl, (blk_cell BK290.out 4).trans rfl, (blk_cell BK290.out 5).trans rfl, (blk_cell BK290.out 6).trans rfl, (blk_cell BK290.out 7).trans rfl, (blk_cell BK290.out 8).trans rfl⟩ (fun hHeld => ?_)
              clear hK K
              refine norm_ (a' := ?_) ?_ ?_
              rotate_left
              · show Act.put _ (some 4) _ = _
                simp only [Act.put, List.setIfInBounds_toArray, List.set_cons_zero, List.set_cons_succ, i64_w, i32_w]
                rfl
              refine one_ (i := 11) (N := none) q25_12 rfl rfl (one_of HT_.out (by kernel_rfl)) (by decide) (fun K hK => ?_)
              have hs15 : w14.cell? ⟨gb291, 0, none⟩ = some (.int .i64 0) := (blk_cell BK291.out 0).trans rfl
              have hfs15 := blk_frozen BK291.out 0
              have hns15_0 := NB290_291.out
              have hms15_0 := NB291_290.out
              have hs16 : w14.cell? ⟨gb291, 1, none⟩ = some (.bool false) := (blk_cell BK291.out 1).trans rfl
              have hfs16 := blk_frozen BK291.out 1
              have hns16_0 := NB290_291.out
              have hms16_0 := NB291_290.out
              refine skip_ (w1 := ?_) (by rfl) rfl ?_ ?_
              rotate_left
              · go_simp
                rfl
              refine hK.out _ _ ⟨((cell_far (p := ⟨gb291, _, none⟩) NB290_291.out _).trans (((cell_far (p := ⟨gb291, _, none⟩) NB290_291.out _).trans (hHeld.1)))), ((cell_far (p := ⟨gb291, _, none⟩) NB290_291.out _).trans (((cell_far (p := ⟨gb291, _, none⟩) NB290_291.out _).trans (hHeld.2.1)))), ((cell_far (p := ⟨gb291, _, none⟩) NB290_291.out _).trans (((cell_far (p := ⟨gb291, _, none⟩) NB290_291.out _).trans (hHeld.2.2.1)))), ((cell_far (p := ⟨gb291, _, none⟩) NB290_291.out _).trans (((cell_far (p := ⟨gb291, _, none⟩) NB290_291.out _).trans (hHeld.2.2.2.1)))), ((cell_far (p := ⟨gb291, _, none⟩) NB290_291.out _).trans (((cell_far (p := ⟨gb291, _, none⟩) NB290_291.out _).trans (hHeld.2.2.2.2.1)))), ((cell_far (p := ⟨gb291, _, none⟩) NB290_291.out _).trans (((cell_far (p := ⟨gb291, _, none⟩) NB290_291.out _).trans (hHeld.2.2.2.2.2.1)))), ((cell_far (p := ⟨gb291, _, none⟩) NB290_291.out _).trans (((cell_far (p := ⟨gb291, _, none⟩) NB290_291.out _).trans (hHeld.2.2.2.2.2.2.1)))), ((cell_far (p := ⟨gb291, _, none⟩) NB290_291.out _).trans (((cell_far (p := ⟨gb291, _, none⟩) NB290_291.out _).trans (hHeld.2.2.2.2.2.2.2.1)))), ((cell_far (p := ⟨gb291, _, none⟩) NB290_291.out _).trans (((cell_far (p := ⟨gb291, _, none⟩) NB290_291.out _).trans (hHeld.2.2.2.2.2.2.2.2))))⟩ (fun hHeld => ?_)
              clear hK K
              refine done_ (done_of HT_.out (by kernel_rfl)) ?_
              try go_wp2
              have n0_ : Aside0 (((w14.setCell ⟨gb291, 0, none⟩ (.int .i64 (Int.tmod (Go.bits .and .i64 a0_3 65535) (wrap64 (1 + (Go.bits .and .i64 a0_8 32767)))))).setCell ⟨gb291, 1, none⟩ (.bool a0_4)).heap[gb290]? = some (.cells #[.int .i64 a0_0, .bool a0_1, .int .i64 a0_2, .int .i64 a0_3, .bool a0_4, .int .i64 a0_5, .bool a0_6, .int .i64 a0_7, .int .i64 a0_8] 27 (0, 0))) := ⟨by (with_reducible repeat (first | refine blk_drewN ?_ _ | refine blk_drew ?_ | refine blk_alloc ?_ _)); refine blk_far ?_ NB290_291.out _; (with_reducible repeat (first | refine blk_drewN ?_ _ | refine blk_drew ?_ | refine blk_alloc ?_ _)); refine blk_far ?_ NB290_291.out _; (with_reducible repeat (first | refine blk_drewN ?_ _ | refine blk_drew ?_ | refine blk_alloc ?_ _)); exact BK290.out⟩
              have n1_ : Aside0 (((w14.setCell ⟨gb291, 0, none⟩ (.int .i64 (Int.tmod (Go.bits .and .i64 a0_3 65535) (wrap64 (1 + (Go.bits .and .i64 a0_8 32767)))))).setCell ⟨gb291, 1, none⟩ (.bool a0_4)).heap[gb291]? = some (.cells #[.int .i64 (Int.tmod (Go.bits .and .i64 a0_3 65535) (wrap64 (1 + (Go.bits .and .i64 a0_8 32767)))), .bool a0_4] 25 (0, 0))) := ⟨by (with_reducible repeat (first | refine blk_drewN ?_ _ | refine blk_drew ?_ | refine blk_alloc ?_ _)); refine blk_put (cs := #[.int .i64 (Int.tmod (Go.bits .and .i64 a0_3 65535) (wrap64 (1 + (Go.bits .and .i64 a0_8 32767)))), .bool false]) ?_ 1 _ rfl; (with_reducible repeat (first | refine blk_drewN ?_ _ | refine blk_drew ?_ | refine blk_alloc ?_ _)); refine blk_put (cs := #[.int .i64 0, .bool false]) ?_ 0 _ rfl; (with_reducible repeat (first | refine blk_drewN ?_ _ | refine blk_drew ?_ | refine blk_alloc ?_ _)); exact BK291.out⟩
              have n2_ : Aside0 (Below w.heap.size w ((w14.setCell ⟨gb291, 0, none⟩ (.int .i64 (Int.tmod (Go.bits .and .i64 a0_3 65535) (wrap64 (1 + (Go.bits .and .i64 a0_8 32767)))))).setCell ⟨gb291, 1, none⟩ (.bool a0_4))) := ⟨by repeat (first | (with_reducible first | exact HB.out | apply below_alloc | apply pw_below_drewN | apply below_drew1 | refine below_set ?_ GE290.out | refine below_set ?_ GE291.out) | exact HB.out)⟩
              (try clear BK290)
              (try clear BK291)
              (try clear HB)
              generalize ((w14.setCell ⟨gb291, 0, none⟩ (.int .i64 (Int.tmod (Go.bits .and .i64 a0_3 65535) (wrap64 (1 + (Go.bits .and .i64 a0_8 32767)))))).setCell ⟨gb291, 1, none⟩ (.bool a0_4)) = w17 at n0_ n1_ n2_ ⊢
              have BK290 := n0_
              have BK291 := n1_
              have HB := n2_
              clear n0_ n1_ n2_
              have n0_ := Aside0.mk (blk_drew BK290.out)
              have n1_ := Aside0.mk (blk_drew BK291.out)
              have n2_ := Aside0.mk (below_drew1 HB.out)
              clear BK290
              clear BK291
              clear HB
              have BK290 := n0_
              have BK291 := n1_
              have HB := n2_
              clear n0_ n1_ n2_
              refine start_ (n := 12) (S := fun w' => w'.cell? ⟨gb290, 0, none⟩ = some (.int .i64 a0_0) ∧ w'.cell? ⟨gb290, 1, none⟩ = some (.bool a0_1) ∧ w'.cell? ⟨gb290, 2, none⟩ = some (.int .i64 a0_2) ∧ w'.cell? ⟨gb290, 3, none⟩ = some (.int .i64 a0_3) ∧ w'.cell? ⟨gb290, 4, none⟩ = some (.bool a0_4) ∧ w'.cell? ⟨gb290, 5, none⟩ = some (.int .i64 a0_5) ∧ w'.cell? ⟨gb290, 6, none⟩ = some (.bool a0_6) ∧ w'.cell? ⟨gb290, 7, none⟩ = some (.int .i64 a0_7) ∧ w'.cell? ⟨gb290, 8, none⟩ = some (.int .i64 a0_8)) (ds := []) q25_0 (by kernel_rfl) rfl rfl ⟨(blk_cell BK290.out 0).trans rfl, (blk_cell BK290.out 1).trans rfl, (blk_cell BK290.out 2).trans rfl, (blk_cell BK290.out 3).trans rfl, (blk_cell BK290.out 4).trans rfl, (blk_cell BK290.out 5).trans rfl, (blk_cell BK290.out 6).trans rfl, (blk_cell BK290.out 7).trans rfl, (blk_cell BK290.out 8).trans rfl⟩ (fun hHeld => ?_); refine with_tabW aqueductlaw13_SpotHalves.tab3 aqueductlaw13_SpotHalves.bits3 (fun HT_ HW_ => ?_)
              generalize w17.drew = w18 at BK290 BK291 HB hHeld ⊢
              refine pure_ (i := 0) (N := some 24) (v := ?_) (a' := ?_) q25_1 rfl rfl (any_of HT_.out (by kernel_rfl)) (fun _ _ _ h => h) (Or.inl ⟨by rfl, ?_⟩) ?_ ?_
              rotate_left
              · intro w'
                go_simp
                with_reducible rfl
              rotate_left
              · simp only [Act.put, List.setIfInBounds_toArray, List.set_cons_zero, List.set_cons_succ, i64_w, i32_w]
                rfl
              refine pure_ (i := 1) (N := some 25) (v := ?_) (a' := ?_) q25_2 rfl rfl (any_of HT_.out (by kernel_rfl)) (fun _ _ _ h => h) (Or.inl ⟨by rfl, ?_⟩) ?_ ?_
              rotate_left
              · intro w'
                go_simp
                with_reducible rfl
              rotate_left
              · simp only [Act.put, List.setIfInBounds_toArray, List.set_cons_zero, List.set_cons_succ, i64_w, i32_w]
                rfl
              refine pure_ (i := 4) (N := some 28) (v := ?_) (a' := ?_) q25_3 rfl rfl (any_of HT_.out (by kernel_rfl)) (fun _ _ _ h => h) (Or.inl ⟨by rfl, ?_⟩) ?_ ?_
              rotate_left
              · intro w'
                go_simp
                with_reducible rfl
              rotate_left
              · simp only [Act.put, List.setIfInBounds_toArray, List.set_cons_zero, List.set_cons_succ, i64_w, i32_w]
                rfl
              refine pure_ (i := 6) (N := some 30) (v := ?_) (a' := ?_) q25_4 rfl rfl (any_of HT_.out (by kernel_rfl)) (fun _ _ _ h => h) (Or.inl ⟨by rfl, ?_⟩) ?_ ?_
              rotate_left
              · intro w'
                go_simp
                with_reducible rfl
              rotate_left
              · simp only [Act.put, List.setIfInBounds_toArray, List.set_cons_zero, List.set_cons_succ, i64_w, i32_w]
                rfl
              refine pure_ (i := 7) (N := some 31) (v := ?_) (a' := ?_) q25_5 rfl rfl (any_of HT_.out (by kernel_rfl)) (fun _ _ _ h => h) (Or.inl ⟨by rfl, ?_⟩) ?_ ?_
              rotate_left
              · intro w'
                go_simp
                with_reducible rfl
              rotate_left
              · simp only [Act.put, List.setIfInBounds_toArray, List.set_cons_zero, List.set_cons_succ, i64_w, i32_w]
                rfl
              refine take_ (i := 2) (N := some 26) (v := ?_) (a' := ?_) q25_6 rfl rfl (take_ofW HT_.out HW_.out (by kernel_rfl)) (fun _ _ _ h => h) (Or.inl ⟨by rfl, ?_⟩) hHeld ?_ ?_
              rotate_left
              · rintro w' ⟨s0, s1, s2, s3, s4, s5, s6, s7, s8⟩
                go_simp
                with_reducible rfl
              rotate_left
              · simp only [Act.put, List.setIfInBounds_toArray, List.set_cons_zero, List.set_cons_succ, i64_w, i32_w]
                rfl
              refine pure_ (i := 3) (N := some 27) (v := ?_) (a' := ?_) q25_7 rfl rfl (any_of HT_.out (by kernel_rfl)) (fun _ _ _ h => h) (Or.inl ⟨by rfl, ?_⟩) ?_ ?_
              rotate_left
              · intro w'
                go_simp
                with_reducible rfl
              rotate_left
              · simp only [Act.put, List.setIfInBounds_toArray, List.set_cons_zero, List.set_cons_succ, i64_w, i32_w]
                rfl
              refine pure_ (i := 5) (N := some 29) (v := ?_) (a' := ?_) q25_8 rfl rfl (any_of HT_.out (by kernel_rfl)) (fun _ _ _ h => h) (Or.inl ⟨by rfl, ?_⟩) ?_ ?_
              rotate_left
              · intro w'
                go_simp
                with_reducible rfl
              rotate_left
              · simp only [Act.put, List.setIfInBounds_toArray, List.set_cons_zero, List.set_cons_succ, i64_w, i32_w]
                rfl
              refine take_ (i := 8) (N := some 32) (v := ?_) (a' := ?_) q25_9 rfl rfl (take_ofW HT_.out HW_.out (by kernel_rfl)) (fun _ _ _ h => h) (Or.inl ⟨by rfl, ?_⟩) hHeld ?_ ?_
              rotate_left
              · rintro w' ⟨s0, s1, s2, s3, s4, s5, s6, s7, s8⟩
                go_simp
                with_reducible rfl
              rotate_left
              · simp only [Act.put, List.setIfInBounds_toArray, List.set_cons_zero, List.set_cons_succ, i64_w, i32_w]
                rfl
              refine pure_ (i := 9) (N := some 33) (v := ?_) (a' := ?_) q25_10 rfl rfl (any_of HT_.out (by kernel_rfl)) (fun _ _ _ h => h) (Or.inl ⟨by rfl, ?_⟩) ?_ ?_
              rotate_left
              · intro w'
                go_simp
                with_reducible rfl
              rotate_left
              · simp only [Act.put, List.setIfInBounds_toArray, List.set_cons_zero, List.set_cons_succ, i64_w, i32_w]
                rfl
              refine one_ (i := 10) (N := some 5) q25_11 rfl rfl (one_of HT_.out (by kernel_rfl)) (by decide) (fun K hK => ?_)
              refine box_step ?hg (N := 5) ?hd (cs := #[.int .i64 0, .bool false]) (t := 25) ?hr ?_; (case hd => rfl); (case hg => rfl); (case hr => first | (go_simp; done) | (go_simp; rfl))
              intro gb292 hg w19 hbox hb
              have n0_ := Aside0.mk (blk_below (g := gb290) (o := .cells #[.int .i64 a0_0, .bool a0_1, .int .i64 a0_2, .int .i64 a0_3, .bool a0_4, .int .i64 a0_5, .bool a0_6, .int .i64 a0_7, .int .i64 a0_8] 27 (0, 0)) (by (with_reducible repeat (first | refine blk_drewN ?_ _ | refine blk_drew ?_ | refine blk_alloc ?_ _)); exact BK290.out) hb)
              have n1_ := Aside0.mk (blk_below (g := gb291) (o := .cells #[.int .i64 (Int.tmod (Go.bits .and .i64 a0_3 65535) (wrap64 (1 + (Go.bits .and .i64 a0_8 32767)))), .bool a0_4] 25 (0, 0)) (by (with_reducible repeat (first | refine blk_drewN ?_ _ | refine blk_drew ?_ | refine blk_alloc ?_ _)); exact BK291.out) hb)
              have n2_ := Aside0.mk (below_step (by repeat (first | (with_reducible first | exact HB.out | apply below_alloc | apply pw_below_drewN | apply below_drew1 | refine below_set ?_ GE290.out | refine below_set ?_ GE291.out) | exact HB.out)) hb)
              have n3_ := Aside0.mk (hbox)
              have n4_ := Aside0.mk ((by rw [hg]; exact (below_size (by repeat (first | (with_reducible first | exact HB.out | apply below_alloc | apply pw_below_drewN | apply below_drew1 | refine below_set ?_ GE290.out | refine below_set ?_ GE291.out) | exact HB.out))) : w.heap.size ≤ gb292))
              have n5_ := Aside0.mk ((by rw [hg]; exact (below_size (by repeat (first | (with_reducible first | exact HB.out | apply below_alloc | apply pw_below_drewN | apply below_drew1 | refine below_set ?_ GE290.out | refine below_set ?_ GE291.out) | exact HB.out))) : w.heap.size ≤ gb292))
              have n6_ := Aside0.mk ((by rw [hg]; exact Nat.ne_of_lt (blk_lt (g := gb290) (o := .cells #[.int .i64 a0_0, .bool a0_1, .int .i64 a0_2, .int .i64 a0_3, .bool a0_4, .int .i64 a0_5, .bool a0_6, .int .i64 a0_7, .int .i64 a0_8] 27 (0, 0)) (by (with_reducible repeat (first | refine blk_drewN ?_ _ | refine blk_drew ?_ | refine blk_alloc ?_ _)); exact BK290.out)) : gb290 ≠ gb292))
              have n7_ := Aside0.mk ((by rw [hg]; exact Nat.ne_of_gt (blk_lt (g := gb290) (o := .cells #[.int .i64 a0_0, .bool a0_1, .int .i64 a0_2, .int .i64 a0_3, .bool a0_4, .int .i64 a0_5, .bool a0_6, .int .i64 a0_7, .int .i64 a0_8] 27 (0, 0)) (by (with_reducible repeat (first | refine blk_drewN ?_ _ | refine blk_drew ?_ | refine blk_alloc ?_ _)); exact BK290.out)) : gb292 ≠ gb290))
              have n8_ := Aside0.mk ((by rw [hg]; exact Nat.ne_of_lt (blk_lt (g := gb291) (o := .cells #[.int .i64 (Int.tmod (Go.bits .and .i64 a0_3 65535) (wrap64 (1 + (Go.bits .and .i64 a0_8 32767)))), .bool a0_4] 25 (0, 0)) (by (with_reducible repeat (first | refine blk_drewN ?_ _ | refine blk_drew ?_ | refine blk_alloc ?_ _)); exact BK291.out)) : gb291 ≠ gb292))
              have n9_ := Aside0.mk ((by rw [hg]; exact Nat.ne_of_gt (blk_lt (g := gb291) (o := .cells #[.int .i64 (Int.tmod (Go.bits .and .i64 a0_3 65535) (wrap64 (1 + (Go.bits .and .i64 a0_8 32767)))), .bool a0_4] 25 (0, 0)) (by (with_reducible repeat (first | refine blk_drewN ?_ _ | refine blk_drew ?_ | refine blk_alloc ?_ _)); exact BK291.out)) : gb292 ≠ gb291))
              clear BK290
              clear BK291
              clear HB
              have BK290 := n0_
              have BK291 := n1_
              have HB := n2_
              have BK292 := n3_
              have GW292 := n4_
              have GE292 := n5_
              have NB290_292 := n6_
              have NB292_290 := n7_
              have NB291_292 := n8_
              have NB292_291 := n9_
              clear n0_ n1_ n2_ n3_ n4_ n5_ n6_ n7_ n8_ n9_
              clear hb hbox hg
              refine hK.out _ _ ⟨(blk_cell BK290.out 0).trans rfl, (blk_cell BK290.out 1).trans rfl, (blk_cell BK290.out 2).trans rfl, (blk_cell BK290.out 3).trans rfl, (blk_cell BK290.out 4).trans rfl, (blk_cell BK290.out 5).trans rfl, (blk_cell BK290.out 6).trans rfl, (blk_cell BK290.out 7).trans rfl, (blk_cell BK290.out 8).trans rfl⟩ (fun hHeld => ?_)
              clear hK K
              refine norm_ (a' := ?_) ?_ ?_
              rotate_left
              · show Act.put _ (some 5) _ = _
                simp only [Act.put, List.setIfInBounds_toArray, List.set_cons_zero, List.set_cons_succ, i64_w, i32_w]
                rfl
              refine one_ (i := 11) (N := none) q25_12 rfl rfl (one_of HT_.out (by kernel_rfl)) (by decide) (fun K hK => ?_)
              have hs20 : w19.cell? ⟨gb292, 0, none⟩ = some (.int .i64 0) := (blk_cell BK292.out 0).trans rfl
              have hfs20 := blk_frozen BK292.out 0
              have hns20_0 := NB290_292.out
              have hns20_1 := NB291_292.out
              have hms20_0 := NB292_290.out
              have hms20_1 := NB292_291.out
              have hs21 : w19.cell? ⟨gb292, 1, none⟩ = some (.bool false) := (blk_cell BK292.out 1).trans rfl
              have hfs21 := blk_frozen BK292.out 1
              have hns21_0 := NB290_292.out
              have hns21_1 := NB291_292.out
              have hms21_0 := NB292_290.out
              have hms21_1 := NB292_291.out
              refine skip_ (w1 := ?_) (by rfl) rfl ?_ ?_
              rotate_left
              · go_simp
                rfl
              refine hK.out _ _ ⟨((cell_far (p := ⟨gb292, _, none⟩) NB290_292.out _).trans (((cell_far (p := ⟨gb292, _, none⟩) NB290_292.out _).trans (hHeld.1)))), ((cell_far (p := ⟨gb292, _, none⟩) NB290_292.out _).trans (((cell_far (p := ⟨gb292, _, none⟩) NB290_292.out _).trans (hHeld.2.1)))), ((cell_far (p := ⟨gb292, _, none⟩) NB290_292.out _).trans (((cell_far (p := ⟨gb292, _, none⟩) NB290_292.out _).trans (hHeld.2.2.1)))), ((cell_far (p := ⟨gb292, _, none⟩) NB290_292.out _).trans (((cell_far (p := ⟨gb292, _, none⟩) NB290_292.out _).trans (hHeld.2.2.2.1)))), ((cell_far (p := ⟨gb292, _, none⟩) NB290_292.out _).trans (((cell_far (p := ⟨gb292, _, none⟩) NB290_292.out _).trans (hHeld.2.2.2.2.1)))), ((cell_far (p := ⟨gb292, _, none⟩) NB290_292.out _).trans (((cell_far (p := ⟨gb292, _, none⟩) NB290_292.out _).trans (hHeld.2.2.2.2.2.1)))), ((cell_far (p := ⟨gb292, _, none⟩) NB290_292.out _).trans (((cell_far (p := ⟨gb292, _, none⟩) NB290_292.out _).trans (hHeld.2.2.2.2.2.2.1)))), ((cell_far (p := ⟨gb292, _, none⟩) NB290_292.out _).trans (((cell_far (p := ⟨gb292, _, none⟩) NB290_292.out _).trans (hHeld.2.2.2.2.2.2.2.1)))), ((cell_far (p := ⟨gb292, _, none⟩) NB290_292.out _).trans (((cell_far (p := ⟨gb292, _, none⟩) NB290_292.out _).trans (hHeld.2.2.2.2.2.2.2.2))))⟩ (fun hHeld => ?_)
              clear hK K
              refine done_ (done_of HT_.out (by kernel_rfl)) ?_
              have hnb22 := NB291_290.out
              have hnc22 := NB290_291.out
              have hnb23 := NB291_292.out
              have hnc23 := NB292_291.out
              have hcz24_0 : w19.cell? ⟨gb291, 0, none⟩ = some (.int .i64 (Int.tmod (Go.bits .and .i64 a0_3 65535) (wrap64 (1 + (Go.bits .and .i64 a0_8 32767))))) := (blk_cell BK291.out 0).trans rfl
              have hcz24_1 : w19.cell? ⟨gb291, 1, none⟩ = some (.bool a0_4) := (blk_cell BK291.out 1).trans rfl
              have hfz24_0 := blk_frozen BK291.out 0
              have hfz24_1 := blk_frozen BK291.out 1
              have hnb25 := NB292_290.out
              have hnc25 := NB290_292.out
              have hcz26_0 : w19.cell? ⟨gb292, 0, none⟩ = some (.int .i64 0) := (blk_cell BK292.out 0).trans rfl
              have hcz26_1 : w19.cell? ⟨gb292, 1, none⟩ = some (.bool false) := (blk_cell BK292.out 1).trans rfl
              have hfz26_0 := blk_frozen BK292.out 0
              have hfz26_1 := blk_frozen BK292.out 1
              try go_wp2_with (first | ((with_reducible refine gate_callee (f := 12) rfl ?_); refine goesL_ (some 38) rfl rfl Try.func12 (by kernel_rfl) rfl #[.agg #[.int .i64 (Int.tmod (Go.bits .and .i64 a0_3 65535) (wrap64 (1 + (Go.bits .and .i64 a0_8 32767)))), .bool a0_4], .agg #[.int .i64 (Int.tmod (Go.bits .and .i64 a0_5 65535) (wrap64 (1 + (Go.bits .and .i64 a0_8 32767)))), .bool a0_6], .int .i64 (wrap64 (1 + (Go.bits .and .i64 a0_8 32767)))] rfl (by (try simp only [List.map_toArray, List.map_cons, List.map_nil]); first | done | rfl | (simp only [List.length_drop, List.length_take]; rfl)) ?_; (with_reducible refine (spot_Gap.calls k (Int.tmod (Go.bits .and .i64 a0_3 65535) (wrap64 (1 + (Go.bits .and .i64 a0_8 32767)))) a0_4 (Int.tmod (Go.bits .and .i64 a0_5 65535) (wrap64 (1 + (Go.bits .and .i64 a0_8 32767)))) a0_6 (wrap64 (1 + (Go.bits .and .i64 a0_8 32767))) t293 t294 _ A3.out).mono ?_); rintro e w27 ⟨rfl, hb⟩; refine ⟨_, rfl, ?_⟩; have n0_ := Aside0.mk (blk_below (g := gb290) (o := .cells #[.int .i64 a0_0, .bool a0_1, .int .i64 a0_2, .int .i64 a0_3, .bool a0_4, .int .i64 a0_5, .bool a0_6, .int .i64 a0_7, .int .i64 a0_8] 27 (0, 0)) (by (with_reducible repeat (first | refine blk_drewN ?_ _ | refine blk_drew ?_ | refine blk_alloc ?_ _)); refine blk_far ?_ NB290_292.out _; (with_reducible repeat (first | refine blk_drewN ?_ _ | refine blk_drew ?_ | refine blk_alloc ?_ _)); refine blk_far ?_ NB290_292.out _; (with_reducible repeat (first | refine blk_drewN ?_ _ | refine blk_drew ?_ | refine blk_alloc ?_ _)); exact BK290.out) hb); have n1_ := Aside0.mk (blk_below (g := gb291) (o := .cells #[.int .i64 (Int.tmod (Go.bits .and .i64 a0_3 65535) (wrap64 (1 + (Go.bits .and .i64 a0_8 32767)))), .bool a0_4] 25 (0, 0)) (by (with_reducible repeat (first | refine blk_drewN ?_ _ | refine blk_drew ?_ | refine blk_alloc ?_ _)); refine blk_far ?_ NB291_292.out _; (with_reducible repeat (first | refine blk_drewN ?_ _ | refine blk_drew ?_ | refine blk_alloc ?_ _)); refine blk_far ?_ NB291_292.out _; (with_reducible repeat (first | refine blk_drewN ?_ _ | refine blk_drew ?_ | refine blk_alloc ?_ _)); exact BK291.out) hb); have n2_ := Aside0.mk (blk_below (g := gb292) (o := .cells #[.int .i64 (Int.tmod (Go.bits .and .i64 a0_5 65535) (wrap64 (1 + (Go.bits .and .i64 a0_8 32767)))), .bool a0_6] 25 (0, 0)) (by (with_reducible repeat (first | refine blk_drewN ?_ _ | refine blk_drew ?_ | refine blk_alloc ?_ _)); refine blk_put (cs := #[.int .i64 (Int.tmod (Go.bits .and .i64 a0_5 65535) (wrap64 (1 + (Go.bits .and .i64 a0_8 32767)))), .bool false]) ?_ 1 _ rfl; (with_reducible repeat (first | refine blk_drewN ?_ _ | refine blk_drew ?_ | refine blk_alloc ?_ _)); refine blk_put (cs := #[.int .i64 0, .bool false]) ?_ 0 _ rfl; (with_reducible repeat (first | refine blk_drewN ?_ _ | refine blk_drew ?_ | refine blk_alloc ?_ _)); exact BK292.out) hb); have n3_ := Aside0.mk (below_step (by repeat (first | (with_reducible first | exact HB.out | apply below_alloc | apply pw_below_drewN | apply below_drew1 | refine below_set ?_ GE290.out | refine below_set ?_ GE291.out | refine below_set ?_ GE292.out) | exact HB.out)) hb); clear BK290; clear BK291; clear BK292; clear HB; have BK290 := n0_; have BK291 := n1_; have BK292 := n2_; have HB := n3_; clear n0_ n1_ n2_ n3_; (try clear hb); (try clear hb2); (try clear hk); (try clear hi); have hcz28_0 : w27.cell? ⟨gb292, 0, none⟩ = some (.int .i64 (Int.tmod (Go.bits .and .i64 a0_5 65535) (wrap64 (1 + (Go.bits .and .i64 a0_8 32767))))) := (blk_cell BK292.out 0).trans rfl; have hcz28_1 : w27.cell? ⟨gb292, 1, none⟩ = some (.bool a0_6) := (blk_cell BK292.out 1).trans rfl; have hfz28_0 := blk_frozen BK292.out 0; have hfz28_1 := blk_frozen BK292.out 1; have hcz29_0 : w27.cell? ⟨gb291, 0, none⟩ = some (.int .i64 (Int.tmod (Go.bits .and .i64 a0_3 65535) (wrap64 (1 + (Go.bits .and .i64 a0_8 32767))))) := (blk_cell BK291.out 0).trans rfl; have hcz29_1 : w27.cell? ⟨gb291, 1, none⟩ = some (.bool a0_4) := (blk_cell BK291.out 1).trans rfl; have hfz29_0 := blk_frozen BK291.out 0; have hfz29_1 := blk_frozen BK291.out 1) | ((with_reducible refine gate_callee (f := 12) rfl ?_); refine goesL_ (some 45) rfl rfl Try.func12 (by kernel_rfl) rfl #[.agg #[.int .i64 (Int.tmod (Go.bits .and .i64 a0_5 65535) (wrap64 (1 + (Go.bits .and .i64 a0_8 32767)))), .bool a0_6], .agg #[.int .i64 (Int.tmod (Go.bits .and .i64 a0_3 65535) (wrap64 (1 + (Go.bits .and .i64 a0_8 32767)))), .bool a0_4], .int .i64 (wrap64 (1 + (Go.bits .and .i64 a0_8 32767)))] rfl (by (try simp only [List.map_toArray, List.map_cons, List.map_nil]); first | done | rfl | (simp only [List.length_drop, List.length_take]; rfl)) ?_; (with_reducible refine (spot_Gap.calls k (Int.tmod (Go.bits .and .i64 a0_5 65535) (wrap64 (1 + (Go.bits .and .i64 a0_8 32767)))) a0_6 (Int.tmod (Go.bits .and .i64 a0_3 65535) (wrap64 (1 + (Go.bits .and .i64 a0_8 32767)))) a0_4 (wrap64 (1 + (Go.bits .and .i64 a0_8 32767))) t295 t296 _ A4.out).mono ?_); rintro e w30 ⟨rfl, hb⟩; refine ⟨_, rfl, ?_⟩; have n0_ := Aside0.mk (blk_below (g := gb290) (o := .cells #[.int .i64 a0_0, .bool a0_1, .int .i64 a0_2, .int .i64 a0_3, .bool a0_4, .int .i64 a0_5, .bool a0_6, .int .i64 a0_7, .int .i64 a0_8] 27 (0, 0)) (by (with_reducible repeat (first | refine blk_drewN ?_ _ | refine blk_drew ?_ | refine blk_alloc ?_ _)); exact BK290.out) hb); have n1_ := Aside0.mk (blk_below (g := gb291) (o := .cells #[.int .i64 (Int.tmod (Go.bits .and .i64 a0_3 65535) (wrap64 (1 + (Go.bits .and .i64 a0_8 32767)))), .bool a0_4] 25 (0, 0)) (by (with_reducible repeat (first | refine blk_drewN ?_ _ | refine blk_drew ?_ | refine blk_alloc ?_ _)); exact BK291.out) hb); have n2_ := Aside0.mk (blk_below (g := gb292) (o := .cells #[.int .i64 (Int.tmod (Go.bits .and .i64 a0_5 65535) (wrap64 (1 + (Go.bits .and .i64 a0_8 32767)))), .bool a0_6] 25 (0, 0)) (by (with_reducible repeat (first | refine blk_drewN ?_ _ | refine blk_drew ?_ | refine blk_alloc ?_ _)); exact BK292.out) hb); have n3_ := Aside0.mk (below_step (by repeat (first | (with_reducible first | exact HB.out | apply below_alloc | apply pw_below_drewN | apply below_drew1 | refine below_set ?_ GE290.out | refine below_set ?_ GE291.out | refine below_set ?_ GE292.out) | exact HB.out)) hb); clear BK290; clear BK291; clear BK292; clear HB; have BK290 := n0_; have BK291 := n1_; have BK292 := n2_; have HB := n3_; clear n0_ n1_ n2_ n3_; (try clear hb); (try clear hb2); (try clear hk); (try clear hi); have hcz31_0 : w30.cell? ⟨gb291, 0, none⟩ = some (.int .i64 (Int.tmod (Go.bits .and .i64 a0_3 65535) (wrap64 (1 + (Go.bits .and .i64 a0_8 32767))))) := (blk_cell BK291.out 0).trans rfl; have hcz31_1 : w30.cell? ⟨gb291, 1, none⟩ = some (.bool a0_4) := (blk_cell BK291.out 1).trans rfl; have hfz31_0 := blk_frozen BK291.out 0; have hfz31_1 := blk_frozen BK291.out 1; have hcz32_0 : w30.cell? ⟨gb292, 0, none⟩ = some (.int .i64 (Int.tmod (Go.bits .and .i64 a0_5 65535) (wrap64 (1 + (Go.bits .and .i64 a0_8 32767))))) := (blk_cell BK292.out 0).trans rfl; have hcz32_1 : w30.cell? ⟨gb292, 1, none⟩ = some (.bool a0_6) := (blk_cell BK292.out 1).trans rfl; have hfz32_0 := blk_frozen BK292.out 0; have hfz32_1 := blk_frozen BK292.out 1) | (go_at_call 14; (with_reducible refine (aqueductlaw13_fixed.calls k  t297 _ A10.out).mono ?_); rintro e w33 ⟨rfl, hb⟩; have n0_ := Aside0.mk (blk_below (g := gb290) (o := .cells #[.int .i64 a0_0, .bool a0_1, .int .i64 a0_2, .int .i64 a0_3, .bool a0_4, .int .i64 a0_5, .bool a0_6, .int .i64 a0_7, .int .i64 a0_8] 27 (0, 0)) (by (with_reducible repeat (first | refine blk_drewN ?_ _ | refine blk_drew ?_ | refine blk_alloc ?_ _)); exact BK290.out) hb); have n1_ := Aside0.mk (blk_below (g := gb291) (o := .cells #[.int .i64 (Int.tmod (Go.bits .and .i64 a0_3 65535) (wrap64 (1 + (Go.bits .and .i64 a0_8 32767)))), .bool a0_4] 25 (0, 0)) (by (with_reducible repeat (first | refine blk_drewN ?_ _ | refine blk_drew ?_ | refine blk_alloc ?_ _)); exact BK291.out) hb); have n2_ := Aside0.mk (blk_below (g := gb292) (o := .cells #[.int .i64 (Int.tmod (Go.bits .and .i64 a0_5 65535) (wrap64 (1 + (Go.bits .and .i64 a0_8 32767)))), .bool a0_6] 25 (0, 0)) (by (with_reducible repeat (first | refine blk_drewN ?_ _ | refine blk_drew ?_ | refine blk_alloc ?_ _)); exact BK292.out) hb); have n3_ := Aside0.mk (below_step (by repeat (first | (with_reducible first | exact HB.out | apply below_alloc | apply pw_below_drewN | apply below_drew1 | refine below_set ?_ GE290.out | refine below_set ?_ GE291.out | refine below_set ?_ GE292.out) | exact HB.out)) hb); clear BK290; clear BK291; clear BK292; clear HB; have BK290 := n0_; have BK291 := n1_; have BK292 := n2_; have HB := n3_; clear n0_ n1_ n2_ n3_; (try clear hb); (try clear hb2); (try clear hk); (try clear hi)))
              go_ret
              exact ⟨by first | rfl | (simp [errW_none, errW_some] <;> rfl) | (simp [*, errW_none, errW_some] <;> rfl) | (exfalso; simp_all), by repeat (first | (with_reducible first | exact HB.out | apply below_alloc | apply pw_below_drewN | apply below_drew1 | refine below_set ?_ GE290.out | refine below_set ?_ GE291.out | refine below_set ?_ GE292.out) | exact HB.out)⟩
            · rw [if_neg c9] at H
              have c9b0 : (t295 == 0) = false := beq_eq_false_iff_ne.mpr c9
              have c9b1 : (t295 != 0) = true := bne_iff_ne.mpr c9
              by_cases c34 : (!((Int.tmod (Go.bits .and .i64 a0_3 65535) (wrap64 (1 + (Go.bits .and .i64 a0_8 32767)))) == (Int.tmod (Go.bits .and .i64 a0_5 65535) (wrap64 (1 + (Go.bits .and .i64 a0_8 32767))))) || (!(a0_4 == a0_6))) = true
              · rw [if_pos c34] at H
                have c34b0 : (!((Int.tmod (Go.bits .and .i64 a0_3 65535) (wrap64 (1 + (Go.bits .and .i64 a0_8 32767)))) == (Int.tmod (Go.bits .and .i64 a0_5 65535) (wrap64 (1 + (Go.bits .and .i64 a0_8 32767))))) || (!(a0_4 == a0_6))) = true := c34
                clear c34
                by_cases c35 : (wrap64 (t293 + t295)) = (wrap64 (2 * (wrap64 (1 + (Go.bits .and .i64 a0_8 32767)))))
                · rw [if_pos c35] at H
                  have c35b0 : ((wrap64 (t293 + t295)) == (wrap64 (2 * (wrap64 (1 + (Go.bits .and .i64 a0_8 32767)))))) = true := beq_iff_eq.mpr c35
                  have c35b1 : ((wrap64 (t293 + t295)) != (wrap64 (2 * (wrap64 (1 + (Go.bits .and .i64 a0_8 32767)))))) = false := bne_eq_false_iff_eq.mpr c35
                  clear c35
                  by_cases c36 : t293 > 0
                  · rw [if_pos c36] at H
                    have c36b0 : decide (0 < t293) = true := decide_eq_true c36
                    clear c36
                    by_cases c37 : t295 > 0
                    · rw [if_pos c37] at H
                      have c37b0 : decide (0 < t295) = true := decide_eq_true c37
                      clear c37
                      replace H := Option.bind_eq_some_iff.mp H
                      obtain ⟨t298, A380, H⟩ := H
                      replace H : (some t298) = some r := H
                      have A38 := Aside0.mk A380
                      clear A380
                      obtain rfl := Option.some.inj H
                      go_enter Try.func9, Try.ntmps9
                      try go_wp2_with (first | ((with_reducible refine gate_dst (N := 1) rfl ?_); refine box_event ?hg (N := 1) ?hd (cs := #[.int .i64 a0_0, .bool a0_1, .int .i64 a0_2, .int .i64 a0_3, .bool a0_4, .int .i64 a0_5, .bool a0_6, .int .i64 a0_7, .int .i64 a0_8]) (t := 27) ?hr ?_; (case hd => rfl); (case hg => rfl); (case hr => first | (go_simp; done) | (go_simp; rfl)); intro gb290 hg w39 hbox hb; have n0_ := Aside0.mk (below_step (by repeat (first | (with_reducible first | exact HB.out | apply below_alloc | apply pw_below_drewN | apply below_drew1) | exact HB.out)) hb); have n1_ := Aside0.mk (hbox); have n2_ := Aside0.mk ((by rw [hg]; exact (below_size (by repeat (first | (with_reducible first | exact HB.out | apply below_alloc | apply pw_below_drewN | apply below_drew1) | exact HB.out))) : w.heap.size ≤ gb290)); have n3_ := Aside0.mk ((by rw [hg]; exact (below_size (by repeat (first | (with_reducible first | exact HB.out | apply below_alloc | apply pw_below_drewN | apply below_drew1) | exact HB.out))) : w.heap.size ≤ gb290)); clear HB; have HB := n0_; have BK290 := n1_; have GW290 := n2_; have GE290 := n3_; clear n0_ n1_ n2_ n3_; clear hb hbox hg; have hcz40_0 : w39.cell? ⟨gb290, 0, none⟩ = some (.int .i64 a0_0) := (blk_cell BK290.out 0).trans rfl; have hcz40_1 : w39.cell? ⟨gb290, 1, none⟩ = some (.bool a0_1) := (blk_cell BK290.out 1).trans rfl; have hcz40_2 : w39.cell? ⟨gb290, 2, none⟩ = some (.int .i64 a0_2) := (blk_cell BK290.out 2).trans rfl; have hcz40_3 : w39.cell? ⟨gb290, 3, none⟩ = some (.int .i64 a0_3) := (blk_cell BK290.out 3).trans rfl; have hcz40_4 : w39.cell? ⟨gb290, 4, none⟩ = some (.bool a0_4) := (blk_cell BK290.out 4).trans rfl; have hcz40_5 : w39.cell? ⟨gb290, 5, none⟩ = some (.int .i64 a0_5) := (blk_cell BK290.out 5).trans rfl; have hcz40_6 : w39.cell? ⟨gb290, 6, none⟩ = some (.bool a0_6) := (blk_cell BK290.out 6).trans rfl; have hcz40_7 : w39.cell? ⟨gb290, 7, none⟩ = some (.int .i64 a0_7) := (blk_cell BK290.out 7).trans rfl; have hcz40_8 : w39.cell? ⟨gb290, 8, none⟩ = some (.int .i64 a0_8) := (blk_cell BK290.out 8).trans rfl; have hfz40_0 := blk_frozen BK290.out 0; have hfz40_1 := blk_frozen BK290.out 1; have hfz40_2 := blk_frozen BK290.out 2; have hfz40_3 := blk_frozen BK290.out 3; have hfz40_4 := blk_frozen BK290.out 4; have hfz40_5 := blk_frozen BK290.out 5; have hfz40_6 := blk_frozen BK290.out 6; have hfz40_7 := blk_frozen BK290.out 7; have hfz40_8 := blk_frozen BK290.out 8))
                      have n0_ := Aside0.mk (blk_drew BK290.out)
                      have n1_ := Aside0.mk (below_drew1 HB.out)
                      clear BK290
                      clear HB
                      have BK290 := n0_
                      have HB := n1_
                      clear n0_ n1_
                      refine start_ (n := 12) (S := fun w' => w'.cell? ⟨gb290, 0, none⟩ = some (.int .i64 a0_0) ∧ w'.cell? ⟨gb290, 1, none⟩ = some (.bool a0_1) ∧ w'.cell? ⟨gb290, 2, none⟩ = some (.int .i64 a0_2) ∧ w'.cell? ⟨gb290, 3, none⟩ = some (.int .i64 a0_3) ∧ w'.cell? ⟨gb290, 4, none⟩ = some (.bool a0_4) ∧ w'.cell? ⟨gb290, 5, none⟩ = some (.int .i64 a0_5) ∧ w'.cell? ⟨gb290, 6, none⟩ = some (.bool a0_6) ∧ w'.cell? ⟨gb290, 7, none⟩ = some (.int .i64 a0_7) ∧ w'.cell? ⟨gb290, 8, none⟩ = some (.int .i64 a0_8)) (ds := []) q25_0 (by kernel_rfl) rfl rfl ⟨(blk_cell BK290.out 0).trans rfl, (blk_cell BK290.out 1).trans rfl, (blk_cell BK290.out 2).trans rfl, (blk_cell BK290.out 3).trans rfl, (blk_cell BK290.out 4).trans rfl, (blk_cell BK290.out 5).trans rfl, (blk_cell BK290.out 6).trans rfl, (blk_cell BK290.out 7).trans rfl, (blk_cell BK290.out 8).trans rfl⟩ (fun hHeld => ?_); refine with_tabW aqueductlaw13_SpotHalves.tab2 aqueductlaw13_SpotHalves.bits2 (fun HT_ HW_ => ?_)
                      generalize w39.drew = w41 at BK290 HB hHeld ⊢
                      refine pure_ (i := 0) (N := some 14) (v := ?_) (a' := ?_) q25_1 rfl rfl (any_of HT_.out (by kernel_rfl)) (fun _ _ _ h => h) (Or.inl ⟨by rfl, ?_⟩) ?_ ?_
                      rotate_left
                      · intro w'
                        go_simp
                        with_reducible rfl
                      rotate_left
                      · simp only [Act.put, List.setIfInBounds_toArray, List.set_cons_zero, List.set_cons_succ, i64_w, i32_w]
                        rfl
                      refine pure_ (i := 1) (N := some 15) (v := ?_) (a' := ?_) q25_2 rfl rfl (any_of HT_.out (by kernel_rfl)) (fun _ _ _ h => h) (Or.inl ⟨by rfl, ?_⟩) ?_ ?_
                      rotate_left
                      · intro w'
                        go_simp
                        with_reducible rfl
                      rotate_left
                      · simp only [Act.put, List.setIfInBounds_toArray, List.set_cons_zero, List.set_cons_succ, i64_w, i32_w]
                        rfl
                      refine pure_ (i := 4) (N := some 18) (v := ?_) (a' := ?_) q25_3 rfl rfl (any_of HT_.out (by kernel_rfl)) (fun _ _ _ h => h) (Or.inl ⟨by rfl, ?_⟩) ?_ ?_
                      rotate_left
                      · intro w'
                        go_simp
                        with_reducible rfl
                      rotate_left
                      · simp only [Act.put, List.setIfInBounds_toArray, List.set_cons_zero, List.set_cons_succ, i64_w, i32_w]
                        rfl
                      refine pure_ (i := 6) (N := some 20) (v := ?_) (a' := ?_) q25_4 rfl rfl (any_of HT_.out (by kernel_rfl)) (fun _ _ _ h => h) (Or.inl ⟨by rfl, ?_⟩) ?_ ?_
                      rotate_left
                      · intro w'
                        go_simp
                        with_reducible rfl
                      rotate_left
                      · simp only [Act.put, List.setIfInBounds_toArray, List.set_cons_zero, List.set_cons_succ, i64_w, i32_w]
                        rfl
                      refine pure_ (i := 7) (N := some 21) (v := ?_) (a' := ?_) q25_5 rfl rfl (any_of HT_.out (by kernel_rfl)) (fun _ _ _ h => h) (Or.inl ⟨by rfl, ?_⟩) ?_ ?_
                      rotate_left
                      · intro w'
                        go_simp
                        with_reducible rfl
                      rotate_left
                      · simp only [Act.put, List.setIfInBounds_toArray, List.set_cons_zero, List.set_cons_succ, i64_w, i32_w]
                        rfl
                      refine take_ (i := 2) (N := some 16) (v := ?_) (a' := ?_) q25_6 rfl rfl (take_ofW HT_.out HW_.out (by kernel_rfl)) (fun _ _ _ h => h) (Or.inl ⟨by rfl, ?_⟩) hHeld ?_ ?_
                      rotate_left
                      · rintro w' ⟨s0, s1, s2, s3, s4, s5, s6, s7, s8⟩
                        go_simp
                        with_reducible rfl
                      rotate_left
                      · simp only [Act.put, List.setIfInBounds_toArray, List.set_cons_zero, List.set_cons_succ, i64_w, i32_w]
                        rfl
                      refine pure_ (i := 3) (N := some 17) (v := ?_) (a' := ?_) q25_7 rfl rfl (any_of HT_.out (by kernel_rfl)) (fun _ _ _ h => h) (Or.inl ⟨by rfl, ?_⟩) ?_ ?_
                      rotate_left
                      · intro w'
                        go_simp
                        with_reducible rfl
                      rotate_left
                      · simp only [Act.put, List.setIfInBounds_toArray, List.set_cons_zero, List.set_cons_succ, i64_w, i32_w]
                        rfl
                      refine pure_ (i := 5) (N := some 19) (v := ?_) (a' := ?_) q25_8 rfl rfl (any_of HT_.out (by kernel_rfl)) (fun _ _ _ h => h) (Or.inl ⟨by rfl, ?_⟩) ?_ ?_
                      rotate_left
                      · intro w'
                        go_simp
                        with_reducible rfl
                      rotate_left
                      · simp only [Act.put, List.setIfInBounds_toArray, List.set_cons_zero, List.set_cons_succ, i64_w, i32_w]
                        rfl
                      refine take_ (i := 8) (N := some 22) (v := ?_) (a' := ?_) q25_9 rfl rfl (take_ofW HT_.out HW_.out (by kernel_rfl)) (fun _ _ _ h => h) (Or.inl ⟨by rfl, ?_⟩) hHeld ?_ ?_
                      rotate_left
                      · rintro w' ⟨s0, s1, s2, s3, s4, s5, s6, s7, s8⟩
                        go_simp
                        with_reducible rfl
                      rotate_left
                      · simp only [Act.put, List.setIfInBounds_toArray, List.set_cons_zero, List.set_cons_succ, i64_w, i32_w]
                        rfl
                      refine pure_ (i := 9) (N := some 23) (v := ?_) (a' := ?_) q25_10 rfl rfl (any_of HT_.out (by kernel_rfl)) (fun _ _ _ h => h) (Or.inl ⟨by rfl, ?_⟩) ?_ ?_
                      rotate_left
                      · intro w'
                        go_simp
                        with_reducible rfl
                      rotate_left
                      · simp only [Act.put, List.setIfInBounds_toArray, List.set_cons_zero, List.set_cons_succ, i64_w, i32_w]
                        rfl
                      refine one_ (i := 10) (N := some 4) q25_11 rfl rfl (one_of HT_.out (by kernel_rfl)) (by decide) (fun K hK => ?_)
                      refine box_step ?hg (N := 4) ?hd (cs := #[.int .i64 0, .bool false]) (t := 25) ?hr ?_; (case hd => rfl); (case hg => rfl); (case hr => first | (go_simp; done) | (go_simp; rfl))
                      intro gb291 hg w42 hbox hb
                      have n0_ := Aside0.mk (blk_below (g := gb290) (o := .cells #[.int .i64 a0_0, .bool a0_1, .int .i64 a0_2, .int .i64 a0_3, .bool a0_4, .int .i64 a0_5, .bool a0_6, .int .i64 a0_7, .int .i64 a0_8] 27 (0, 0)) (by (with_reducible repeat (first | refine blk_drewN ?_ _ | refine blk_drew ?_ | refine blk_alloc ?_ _)); exact BK290.out) hb)
                      have n1_ := Aside0.mk (below_step (by repeat (first | (with_reducible first | exact HB.out | apply below_alloc | apply pw_below_drewN | apply below_drew1 | refine below_set ?_ GE290.out) | exact HB.out)) hb)
                      have n2_ := Aside0.mk (hbox)
                      have n3_ := Aside0.mk ((by rw [hg]; exact (below_size (by repeat (first | (with_reducible first | exact HB.out | apply below_alloc | apply pw_below_drewN | apply below_drew1 | refine below_set ?_ GE290.out) | exact HB.out))) : w.heap.size ≤ gb291))
                      have n4_ := Aside0.mk ((by rw [hg]; exact (below_size (by repeat (first | (with_reducible first | exact HB.out | apply below_alloc | apply pw_below_drewN | apply below_drew1 | refine below_set ?_ GE290.out) | exact HB.out))) : w.heap.size ≤ gb291))
                      have n5_ := Aside0.mk ((by rw [hg]; exact Nat.ne_of_lt (blk_lt (g := gb290) (o := .cells #[.int .i64 a0_0, .bool a0_1, .int .i64 a0_2, .int .i64 a0_3, .bool a0_4, .int .i64 a0_5, .bool a0_6, .int .i64 a0_7, .int .i64 a0_8] 27 (0, 0)) (by (with_reducible repeat (first | refine blk_drewN ?_ _ | refine blk_drew ?_ | refine blk_alloc ?_ _)); exact BK290.out)) : gb290 ≠ gb291))
                      have n6_ := Aside0.mk ((by rw [hg]; exact Nat.ne_of_gt (blk_lt (g := gb290) (o := .cells #[.int .i64 a0_0, .bool a0_1, .int .i64 a0_2, .int .i64 a0_3, .bool a0_4, .int .i64 a0_5, .bool a0_6, .int .i64 a0_7, .int .i64 a0_8] 27 (0, 0)) (by (with_reducible repeat (first | refine blk_drewN ?_ _ | refine blk_drew ?_ | refine blk_alloc ?_ _)); exact BK290.out)) : gb291 ≠ gb290))
                      clear BK290
                      clear HB
                      have BK290 := n0_
                      have HB := n1_
                      have BK291 := n2_
                      have GW291 := n3_
                      have GE291 := n4_
                      have NB290_291 := n5_
                      have NB291_290 := n6_
                      clear n0_ n1_ n2_ n3_ n4_ n5_ n6_
                      clear hb hbox hg
                      refine hK.out _ _ ⟨(blk_cell BK290.out 0).trans rfl, (blk_cell BK290.out 1).trans rfl, (blk_cell BK290.out 2).trans rfl, (blk_cell BK290.out 3).trans rfl, (blk_cell BK290.out 4).trans rfl, (blk_cell BK290.out 5).trans rfl, (blk_cell BK290.out 6).trans rfl, (blk_cell BK290.out 7).trans rfl, (blk_cell BK290.out 8).trans rfl⟩ (fun hHeld => ?_)
                      clear hK K
                      refine norm_ (a' := ?_) ?_ ?_
                      rotate_left
                      · show Act.put _ (some 4) _ = _
                        simp only [Act.put, List.setIfInBounds_toArray, List.set_cons_zero, List.set_cons_succ, i64_w, i32_w]
                        rfl
                      refine one_ (i := 11) (N := none) q25_12 rfl rfl (one_of HT_.out (by kernel_rfl)) (by decide) (fun K hK => ?_)
                      have hs43 : w42.cell? ⟨gb291, 0, none⟩ = some (.int .i64 0) := (blk_cell BK291.out 0).trans rfl
                      have hfs43 := blk_frozen BK291.out 0
                      have hns43_0 := NB290_291.out
                      have hms43_0 := NB291_290.out
                      have hs44 : w42.cell? ⟨gb291, 1, none⟩ = some (.bool false) := (blk_cell BK291.out 1).trans rfl
                      have hfs44 := blk_frozen BK291.out 1
                      have hns44_0 := NB290_291.out
                      have hms44_0 := NB291_290.out
                      refine skip_ (w1 := ?_) (by rfl) rfl ?_ ?_
                      rotate_left
                      · go_simp
                        rfl
                      refine hK.out _ _ ⟨((cell_far (p := ⟨gb291, _, none⟩) NB290_291.out _).trans (((cell_far (p := ⟨gb291, _, none⟩) NB290_291.out _).trans (hHeld.1)))), ((cell_far (p := ⟨gb291, _, none⟩) NB290_291.out _).trans (((cell_far (p := ⟨gb291, _, none⟩) NB290_291.out _).trans (hHeld.2.1)))), ((cell_far (p := ⟨gb291, _, none⟩) NB290_291.out _).trans (((cell_far (p := ⟨gb291, _, none⟩) NB290_291.out _).trans (hHeld.2.2.1)))), ((cell_far (p := ⟨gb291, _, none⟩) NB290_291.out _).trans (((cell_far (p := ⟨gb291, _, none⟩) NB290_291.out _).trans (hHeld.2.2.2.1)))), ((cell_far (p := ⟨gb291, _, none⟩) NB290_291.out _).trans (((cell_far (p := ⟨gb291, _, none⟩) NB290_291.out _).trans (hHeld.2.2.2.2.1)))), ((cell_far (p := ⟨gb291, _, none⟩) NB290_291.out _).trans (((cell_far (p := ⟨gb291, _, none⟩) NB290_291.out _).trans (hHeld.2.2.2.2.2.1)))), ((cell_far (p := ⟨gb291, _, none⟩) NB290_291.out _).trans (((cell_far (p := ⟨gb291, _, none⟩) NB290_291.out _).trans (hHeld.2.2.2.2.2.2.1)))), ((cell_far (p := ⟨gb291, _, none⟩) NB290_291.out _).trans (((cell_far (p := ⟨gb291, _, none⟩) NB290_291.out _).trans (hHeld.2.2.2.2.2.2.2.1)))), ((cell_far (p := ⟨gb291, _, none⟩) NB290_291.out _).trans (((cell_far (p := ⟨gb291, _, none⟩) NB290_291.out _).trans (hHeld.2.2.2.2.2.2.2.2))))⟩ (fun hHeld => ?_)
                      clear hK K
                      refine done_ (done_of HT_.out (by kernel_rfl)) ?_
                      try go_wp2
                      have n0_ : Aside0 (((w42.setCell ⟨gb291, 0, none⟩ (.int .i64 (Int.tmod (Go.bits .and .i64 a0_3 65535) (wrap64 (1 + (Go.bits .and .i64 a0_8 32767)))))).setCell ⟨gb291, 1, none⟩ (.bool a0_4)).heap[gb290]? = some (.cells #[.int .i64 a0_0, .bool a0_1, .int .i64 a0_2, .int .i64 a0_3, .bool a0_4, .int .i64 a0_5, .bool a0_6, .int .i64 a0_7, .int .i64 a0_8] 27 (0, 0))) := ⟨by (with_reducible repeat (first | refine blk_drewN ?_ _ | refine blk_drew ?_ | refine blk_alloc ?_ _)); refine blk_far ?_ NB290_291.out _; (with_reducible repeat (first | refine blk_drewN ?_ _ | refine blk_drew ?_ | refine blk_alloc ?_ _)); refine blk_far ?_ NB290_291.out _; (with_reducible repeat (first | refine blk_drewN ?_ _ | refine blk_drew ?_ | refine blk_alloc ?_ _)); exact BK290.out⟩
                      have n1_ : Aside0 (((w42.setCell ⟨gb291, 0, none⟩ (.int .i64 (Int.tmod (Go.bits .and .i64 a0_3 65535) (wrap64 (1 + (Go.bits .and .i64 a0_8 32767)))))).setCell ⟨gb291, 1, none⟩ (.bool a0_4)).heap[gb291]? = some (.cells #[.int .i64 (Int.tmod (Go.bits .and .i64 a0_3 65535) (wrap64 (1 + (Go.bits .and .i64 a0_8 32767)))), .bool a0_4] 25 (0, 0))) := ⟨by (with_reducible repeat (first | refine blk_drewN ?_ _ | refine blk_drew ?_ | refine blk_alloc ?_ _)); refine blk_put (cs := #[.int .i64 (Int.tmod (Go.bits .and .i64 a0_3 65535) (wrap64 (1 + (Go.bits .and .i64 a0_8 32767)))), .bool false]) ?_ 1 _ rfl; (with_reducible repeat (first | refine blk_drewN ?_ _ | refine blk_drew ?_ | refine blk_alloc ?_ _)); refine blk_put (cs := #[.int .i64 0, .bool false]) ?_ 0 _ rfl; (with_reducible repeat (first | refine blk_drewN ?_ _ | refine blk_drew ?_ | refine blk_alloc ?_ _)); exact BK291.out⟩
                      have n2_ : Aside0 (Below w.heap.size w ((w42.setCell ⟨gb291, 0, none⟩ (.int .i64 (Int.tmod (Go.bits .and .i64 a0_3 65535) (wrap64 (1 + (Go.bits .and .i64 a0_8 32767)))))).setCell ⟨gb291, 1, none⟩ (.bool a0_4))) := ⟨by repeat (first | (with_reducible first | exact HB.out | apply below_alloc | apply pw_below_drewN | apply below_drew1 | refine below_set ?_ GE290.out | refine below_set ?_ GE291.out) | exact HB.out)⟩
                      (try clear BK290)
                      (try clear BK291)
                      (try clear HB)
                      generalize ((w42.setCell ⟨gb291, 0, none⟩ (.int .i64 (Int.tmod (Go.bits .and .i64 a0_3 65535) (wrap64 (1 + (Go.bits .and .i64 a0_8 32767)))))).setCell ⟨gb291, 1, none⟩ (.bool a0_4)) = w45 at n0_ n1_ n2_ ⊢
                      have BK290 := n0_
                      have BK291 := n1_
                      have HB := n2_
                      clear n0_ n1_ n2_
                      have n0_ := Aside0.mk (blk_drew BK290.out)
                      have n1_ := Aside0.mk (blk_drew BK291.out)
                      have n2_ := Aside0.mk (below_drew1 HB.out)
                      clear BK290
                      clear BK291
                      clear HB
                      have BK290 := n0_
                      have BK291 := n1_
                      have HB := n2_
                      clear n0_ n1_ n2_
                      refine start_ (n := 12) (S := fun w' => w'.cell? ⟨gb290, 0, none⟩ = some (.int .i64 a0_0) ∧ w'.cell? ⟨gb290, 1, none⟩ = some (.bool a0_1) ∧ w'.cell? ⟨gb290, 2, none⟩ = some (.int .i64 a0_2) ∧ w'.cell? ⟨gb290, 3, none⟩ = some (.int .i64 a0_3) ∧ w'.cell? ⟨gb290, 4, none⟩ = some (.bool a0_4) ∧ w'.cell? ⟨gb290, 5, none⟩ = some (.int .i64 a0_5) ∧ w'.cell? ⟨gb290, 6, none⟩ = some (.bool a0_6) ∧ w'.cell? ⟨gb290, 7, none⟩ = some (.int .i64 a0_7) ∧ w'.cell? ⟨gb290, 8, none⟩ = some (.int .i64 a0_8)) (ds := []) q25_0 (by kernel_rfl) rfl rfl ⟨(blk_cell BK290.out 0).trans rfl, (blk_cell BK290.out 1).trans rfl, (blk_cell BK290.out 2).trans rfl, (blk_cell BK290.out 3).trans rfl, (blk_cell BK290.out 4).trans rfl, (blk_cell BK290.out 5).trans rfl, (blk_cell BK290.out 6).trans rfl, (blk_cell BK290.out 7).trans rfl, (blk_cell BK290.out 8).trans rfl⟩ (fun hHeld => ?_); refine with_tabW aqueductlaw13_SpotHalves.tab3 aqueductlaw13_SpotHalves.bits3 (fun HT_ HW_ => ?_)
                      generalize w45.drew = w46 at BK290 BK291 HB hHeld ⊢
                      refine pure_ (i := 0) (N := some 24) (v := ?_) (a' := ?_) q25_1 rfl rfl (any_of HT_.out (by kernel_rfl)) (fun _ _ _ h => h) (Or.inl ⟨by rfl, ?_⟩) ?_ ?_
                      rotate_left
                      · intro w'
                        go_simp
                        with_reducible rfl
                      rotate_left
                      · simp only [Act.put, List.setIfInBounds_toArray, List.set_cons_zero, List.set_cons_succ, i64_w, i32_w]
                        rfl
                      refine pure_ (i := 1) (N := some 25) (v := ?_) (a' := ?_) q25_2 rfl rfl (any_of HT_.out (by kernel_rfl)) (fun _ _ _ h => h) (Or.inl ⟨by rfl, ?_⟩) ?_ ?_
                      rotate_left
                      · intro w'
                        go_simp
                        with_reducible rfl
                      rotate_left
                      · simp only [Act.put, List.setIfInBounds_toArray, List.set_cons_zero, List.set_cons_succ, i64_w, i32_w]
                        rfl
                      refine pure_ (i := 4) (N := some 28) (v := ?_) (a' := ?_) q25_3 rfl rfl (any_of HT_.out (by kernel_rfl)) (fun _ _ _ h => h) (Or.inl ⟨by rfl, ?_⟩) ?_ ?_
                      rotate_left
                      · intro w'
                        go_simp
                        with_reducible rfl
                      rotate_left
                      · simp only [Act.put, List.setIfInBounds_toArray, List.set_cons_zero, List.set_cons_succ, i64_w, i32_w]
                        rfl
                      refine pure_ (i := 6) (N := some 30) (v := ?_) (a' := ?_) q25_4 rfl rfl (any_of HT_.out (by kernel_rfl)) (fun _ _ _ h => h) (Or.inl ⟨by rfl, ?_⟩) ?_ ?_
                      rotate_left
                      · intro w'
                        go_simp
                        with_reducible rfl
                      rotate_left
                      · simp only [Act.put, List.setIfInBounds_toArray, List.set_cons_zero, List.set_cons_succ, i64_w, i32_w]
                        rfl
                      refine pure_ (i := 7) (N := some 31) (v := ?_) (a' := ?_) q25_5 rfl rfl (any_of HT_.out (by kernel_rfl)) (fun _ _ _ h => h) (Or.inl ⟨by rfl, ?_⟩) ?_ ?_
                      rotate_left
                      · intro w'
                        go_simp
                        with_reducible rfl
                      rotate_left
                      · simp only [Act.put, List.setIfInBounds_toArray, List.set_cons_zero, List.set_cons_succ, i64_w, i32_w]
                        rfl
                      refine take_ (i := 2) (N := some 26) (v := ?_) (a' := ?_) q25_6 rfl rfl (take_ofW HT_.out HW_.out (by kernel_rfl)) (fun _ _ _ h => h) (Or.inl ⟨by rfl, ?_⟩) hHeld ?_ ?_
                      rotate_left
                      · rintro w' ⟨s0, s1, s2, s3, s4, s5, s6, s7, s8⟩
                        go_simp
                        with_reducible rfl
                      rotate_left
                      · simp only [Act.put, List.setIfInBounds_toArray, List.set_cons_zero, List.set_cons_succ, i64_w, i32_w]
                        rfl
                      refine pure_ (i := 3) (N := some 27) (v := ?_) (a' := ?_) q25_7 rfl rfl (any_of HT_.out (by kernel_rfl)) (fun _ _ _ h => h) (Or.inl ⟨by rfl, ?_⟩) ?_ ?_
                      rotate_left
                      · intro w'
                        go_simp
                        with_reducible rfl
                      rotate_left
                      · simp only [Act.put, List.setIfInBounds_toArray, List.set_cons_zero, List.set_cons_succ, i64_w, i32_w]
                        rfl
                      refine pure_ (i := 5) (N := some 29) (v := ?_) (a' := ?_) q25_8 rfl rfl (any_of HT_.out (by kernel_rfl)) (fun _ _ _ h => h) (Or.inl ⟨by rfl, ?_⟩) ?_ ?_
                      rotate_left
                      · intro w'
                        go_simp
                        with_reducible rfl
                      rotate_left
                      · simp only [Act.put, List.setIfInBounds_toArray, List.set_cons_zero, List.set_cons_succ, i64_w, i32_w]
                        rfl
                      refine take_ (i := 8) (N := some 32) (v := ?_) (a' := ?_) q25_9 rfl rfl (take_ofW HT_.out HW_.out (by kernel_rfl)) (fun _ _ _ h => h) (Or.inl ⟨by rfl, ?_⟩) hHeld ?_ ?_
                      rotate_left
                      · rintro w' ⟨s0, s1, s2, s3, s4, s5, s6, s7, s8⟩
                        go_simp
                        with_reducible rfl
                      rotate_left
                      · simp only [Act.put, List.setIfInBounds_toArray, List.set_cons_zero, List.set_cons_succ, i64_w, i32_w]
                        rfl
                      refine pure_ (i := 9) (N := some 33) (v := ?_) (a' := ?_) q25_10 rfl rfl (any_of HT_.out (by kernel_rfl)) (fun _ _ _ h => h) (Or.inl ⟨by rfl, ?_⟩) ?_ ?_
                      rotate_left
                      · intro w'
                        go_simp
                        with_reducible rfl
                      rotate_left
                      · simp only [Act.put, List.setIfInBounds_toArray, List.set_cons_zero, List.set_cons_succ, i64_w, i32_w]
                        rfl
                      refine one_ (i := 10) (N := some 5) q25_11 rfl rfl (one_of HT_.out (by kernel_rfl)) (by decide) (fun K hK => ?_)
                      refine box_step ?hg (N := 5) ?hd (cs := #[.int .i64 0, .bool false]) (t := 25) ?hr ?_; (case hd => rfl); (case hg => rfl); (case hr => first | (go_simp; done) | (go_simp; rfl))
                      intro gb292 hg w47 hbox hb
                      have n0_ := Aside0.mk (blk_below (g := gb290) (o := .cells #[.int .i64 a0_0, .bool a0_1, .int .i64 a0_2, .int .i64 a0_3, .bool a0_4, .int .i64 a0_5, .bool a0_6, .int .i64 a0_7, .int .i64 a0_8] 27 (0, 0)) (by (with_reducible repeat (first | refine blk_drewN ?_ _ | refine blk_drew ?_ | refine blk_alloc ?_ _)); exact BK290.out) hb)
                      have n1_ := Aside0.mk (blk_below (g := gb291) (o := .cells #[.int .i64 (Int.tmod (Go.bits .and .i64 a0_3 65535) (wrap64 (1 + (Go.bits .and .i64 a0_8 32767)))), .bool a0_4] 25 (0, 0)) (by (with_reducible repeat (first | refine blk_drewN ?_ _ | refine blk_drew ?_ | refine blk_alloc ?_ _)); exact BK291.out) hb)
                      have n2_ := Aside0.mk (below_step (by repeat (first | (with_reducible first | exact HB.out | apply below_alloc | apply pw_below_drewN | apply below_drew1 | refine below_set ?_ GE290.out | refine below_set ?_ GE291.out) | exact HB.out)) hb)
                      have n3_ := Aside0.mk (hbox)
                      have n4_ := Aside0.mk ((by rw [hg]; exact (below_size (by repeat (first | (with_reducible first | exact HB.out | apply below_alloc | apply pw_below_drewN | apply below_drew1 | refine below_set ?_ GE290.out | refine below_set ?_ GE291.out) | exact HB.out))) : w.heap.size ≤ gb292))
                      have n5_ := Aside0.mk ((by rw [hg]; exact (below_size (by repeat (first | (with_reducible first | exact HB.out | apply below_alloc | apply pw_below_drewN | apply below_drew1 | refine below_set ?_ GE290.out | refine below_set ?_ GE291.out) | exact HB.out))) : w.heap.size ≤ gb292))
                      have n6_ := Aside0.mk ((by rw [hg]; exact Nat.ne_of_lt (blk_lt (g := gb290) (o := .cells #[.int .i64 a0_0, .bool a0_1, .int .i64 a0_2, .int .i64 a0_3, .bool a0_4, .int .i64 a0_5, .bool a0_6, .int .i64 a0_7, .int .i64 a0_8] 27 (0, 0)) (by (with_reducible repeat (first | refine blk_drewN ?_ _ | refine blk_drew ?_ | refine blk_alloc ?_ _)); exact BK290.out)) : gb290 ≠ gb292))
                      have n7_ := Aside0.mk ((by rw [hg]; exact Nat.ne_of_gt (blk_lt (g := gb290) (o := .cells #[.int .i64 a0_0, .bool a0_1, .int .i64 a0_2, .int .i64 a0_3, .bool a0_4, .int .i64 a0_5, .bool a0_6, .int .i64 a0_7, .int .i64 a0_8] 27 (0, 0)) (by (with_reducible repeat (first | refine blk_drewN ?_ _ | refine blk_drew ?_ | refine blk_alloc ?_ _)); exact BK290.out)) : gb292 ≠ gb290))
                      have n8_ := Aside0.mk ((by rw [hg]; exact Nat.ne_of_lt (blk_lt (g := gb291) (o := .cells #[.int .i64 (Int.tmod (Go.bits .and .i64 a0_3 65535) (wrap64 (1 + (Go.bits .and .i64 a0_8 32767)))), .bool a0_4] 25 (0, 0)) (by (with_reducible repeat (first | refine blk_drewN ?_ _ | refine blk_drew ?_ | refine blk_alloc ?_ _)); exact BK291.out)) : gb291 ≠ gb292))
                      have n9_ := Aside0.mk ((by rw [hg]; exact Nat.ne_of_gt (blk_lt (g := gb291) (o := .cells #[.int .i64 (Int.tmod (Go.bits .and .i64 a0_3 65535) (wrap64 (1 + (Go.bits .and .i64 a0_8 32767)))), .bool a0_4] 25 (0, 0)) (by (with_reducible repeat (first | refine blk_drewN ?_ _ | refine blk_drew ?_ | refine blk_alloc ?_ _)); exact BK291.out)) : gb292 ≠ gb291))
                      clear BK290
                      clear BK291
                      clear HB
                      have BK290 := n0_
                      have BK291 := n1_
                      have HB := n2_
                      have BK292 := n3_
                      have GW292 := n4_
                      have GE292 := n5_
                      have NB290_292 := n6_
                      have NB292_290 := n7_
                      have NB291_292 := n8_
                      have NB292_291 := n9_
                      clear n0_ n1_ n2_ n3_ n4_ n5_ n6_ n7_ n8_ n9_
                      clear hb hbox hg
                      refine hK.out _ _ ⟨(blk_cell BK290.out 0).trans rfl, (blk_cell BK290.out 1).trans rfl, (blk_cell BK290.out 2).trans rfl, (blk_cell BK290.out 3).trans rfl, (blk_cell BK290.out 4).trans rfl, (blk_cell BK290.out 5).trans rfl, (blk_cell BK290.out 6).trans rfl, (blk_cell BK290.out 7).trans rfl, (blk_cell BK290.out 8).trans rfl⟩ (fun hHeld => ?_)
                      clear hK K
                      refine norm_ (a' := ?_) ?_ ?_
                      rotate_left
                      · show Act.put _ (some 5) _ = _
                        simp only [Act.put, List.setIfInBounds_toArray, List.set_cons_zero, List.set_cons_succ, i64_w, i32_w]
                        rfl
                      refine one_ (i := 11) (N := none) q25_12 rfl rfl (one_of HT_.out (by kernel_rfl)) (by decide) (fun K hK => ?_)
                      have hs48 : w47.cell? ⟨gb292, 0, none⟩ = some (.int .i64 0) := (blk_cell BK292.out 0).trans rfl
                      have hfs48 := blk_frozen BK292.out 0
                      have hns48_0 := NB290_292.out
                      have hns48_1 := NB291_292.out
                      have hms48_0 := NB292_290.out
                      have hms48_1 := NB292_291.out
                      have hs49 : w47.cell? ⟨gb292, 1, none⟩ = some (.bool false) := (blk_cell BK292.out 1).trans rfl
                      have hfs49 := blk_frozen BK292.out 1
                      have hns49_0 := NB290_292.out
                      have hns49_1 := NB291_292.out
                      have hms49_0 := NB292_290.out
                      have hms49_1 := NB292_291.out
                      refine skip_ (w1 := ?_) (by rfl) rfl ?_ ?_
                      rotate_left
                      · go_simp
                        rfl
                      refine hK.out _ _ ⟨((cell_far (p := ⟨gb292, _, none⟩) NB290_292.out _).trans (((cell_far (p := ⟨gb292, _, none⟩) NB290_292.out _).trans (hHeld.1)))), ((cell_far (p := ⟨gb292, _, none⟩) NB290_292.out _).trans (((cell_far (p := ⟨gb292, _, none⟩) NB290_292.out _).trans (hHeld.2.1)))), ((cell_far (p := ⟨gb292, _, none⟩) NB290_292.out _).trans (((cell_far (p := ⟨gb292, _, none⟩) NB290_292.out _).trans (hHeld.2.2.1)))), ((cell_far (p := ⟨gb292, _, none⟩) NB290_292.out _).trans (((cell_far (p := ⟨gb292, _, none⟩) NB290_292.out _).trans (hHeld.2.2.2.1)))), ((cell_far (p := ⟨gb292, _, none⟩) NB290_292.out _).trans (((cell_far (p := ⟨gb292, _, none⟩) NB290_292.out _).trans (hHeld.2.2.2.2.1)))), ((cell_far (p := ⟨gb292, _, none⟩) NB290_292.out _).trans (((cell_far (p := ⟨gb292, _, none⟩) NB290_292.out _).trans (hHeld.2.2.2.2.2.1)))), ((cell_far (p := ⟨gb292, _, none⟩) NB290_292.out _).trans (((cell_far (p := ⟨gb292, _, none⟩) NB290_292.out _).trans (hHeld.2.2.2.2.2.2.1)))), ((cell_far (p := ⟨gb292, _, none⟩) NB290_292.out _).trans (((cell_far (p := ⟨gb292, _, none⟩) NB290_292.out _).trans (hHeld.2.2.2.2.2.2.2.1)))), ((cell_far (p := ⟨gb292, _, none⟩) NB290_292.out _).trans (((cell_far (p := ⟨gb292, _, none⟩) NB290_292.out _).trans (hHeld.2.2.2.2.2.2.2.2))))⟩ (fun hHeld => ?_)
                      clear hK K
                      refine done_ (done_of HT_.out (by kernel_rfl)) ?_
                      have hnb50 := NB291_290.out
                      have hnc50 := NB290_291.out
                      have hnb51 := NB291_292.out
                      have hnc51 := NB292_291.out
                      have hcz52_0 : w47.cell? ⟨gb291, 0, none⟩ = some (.int .i64 (Int.tmod (Go.bits .and .i64 a0_3 65535) (wrap64 (1 + (Go.bits .and .i64 a0_8 32767))))) := (blk_cell BK291.out 0).trans rfl
                      have hcz52_1 : w47.cell? ⟨gb291, 1, none⟩ = some (.bool a0_4) := (blk_cell BK291.out 1).trans rfl
                      have hfz52_0 := blk_frozen BK291.out 0
                      have hfz52_1 := blk_frozen BK291.out 1
                      have hnb53 := NB292_290.out
                      have hnc53 := NB290_292.out
                      have hcz54_0 : w47.cell? ⟨gb292, 0, none⟩ = some (.int .i64 0) := (blk_cell BK292.out 0).trans rfl
                      have hcz54_1 : w47.cell? ⟨gb292, 1, none⟩ = some (.bool false) := (blk_cell BK292.out 1).trans rfl
                      have hfz54_0 := blk_frozen BK292.out 0
                      have hfz54_1 := blk_frozen BK292.out 1
                      try go_wp2_with (first | ((with_reducible refine gate_callee (f := 12) rfl ?_); refine goesL_ (some 38) rfl rfl Try.func12 (by kernel_rfl) rfl #[.agg #[.int .i64 (Int.tmod (Go.bits .and .i64 a0_3 65535) (wrap64 (1 + (Go.bits .and .i64 a0_8 32767)))), .bool a0_4], .agg #[.int .i64 (Int.tmod (Go.bits .and .i64 a0_5 65535) (wrap64 (1 + (Go.bits .and .i64 a0_8 32767)))), .bool a0_6], .int .i64 (wrap64 (1 + (Go.bits .and .i64 a0_8 32767)))] rfl (by (try simp only [List.map_toArray, List.map_cons, List.map_nil]); first | done | rfl | (simp only [List.length_drop, List.length_take]; rfl)) ?_; (with_reducible refine (spot_Gap.calls k (Int.tmod (Go.bits .and .i64 a0_3 65535) (wrap64 (1 + (Go.bits .and .i64 a0_8 32767)))) a0_4 (Int.tmod (Go.bits .and .i64 a0_5 65535) (wrap64 (1 + (Go.bits .and .i64 a0_8 32767)))) a0_6 (wrap64 (1 + (Go.bits .and .i64 a0_8 32767))) t293 t294 _ A3.out).mono ?_); rintro e w55 ⟨rfl, hb⟩; refine ⟨_, rfl, ?_⟩; have n0_ := Aside0.mk (blk_below (g := gb290) (o := .cells #[.int .i64 a0_0, .bool a0_1, .int .i64 a0_2, .int .i64 a0_3, .bool a0_4, .int .i64 a0_5, .bool a0_6, .int .i64 a0_7, .int .i64 a0_8] 27 (0, 0)) (by (with_reducible repeat (first | refine blk_drewN ?_ _ | refine blk_drew ?_ | refine blk_alloc ?_ _)); refine blk_far ?_ NB290_292.out _; (with_reducible repeat (first | refine blk_drewN ?_ _ | refine blk_drew ?_ | refine blk_alloc ?_ _)); refine blk_far ?_ NB290_292.out _; (with_reducible repeat (first | refine blk_drewN ?_ _ | refine blk_drew ?_ | refine blk_alloc ?_ _)); exact BK290.out) hb); have n1_ := Aside0.mk (blk_below (g := gb291) (o := .cells #[.int .i64 (Int.tmod (Go.bits .and .i64 a0_3 65535) (wrap64 (1 + (Go.bits .and .i64 a0_8 32767)))), .bool a0_4] 25 (0, 0)) (by (with_reducible repeat (first | refine blk_drewN ?_ _ | refine blk_drew ?_ | refine blk_alloc ?_ _)); refine blk_far ?_ NB291_292.out _; (with_reducible repeat (first | refine blk_drewN ?_ _ | refine blk_drew ?_ | refine blk_alloc ?_ _)); refine blk_far ?_ NB291_292.out _; (with_reducible repeat (first | refine blk_drewN ?_ _ | refine blk_drew ?_ | refine blk_alloc ?_ _)); exact BK291.out) hb); have n2_ := Aside0.mk (blk_below (g := gb292) (o := .cells #[.int .i64 (Int.tmod (Go.bits .and .i64 a0_5 65535) (wrap64 (1 + (Go.bits .and .i64 a0_8 32767)))), .bool a0_6] 25 (0, 0)) (by (with_reducible repeat (first | refine blk_drewN ?_ _ | refine blk_drew ?_ | refine blk_alloc ?_ _)); refine blk_put (cs := #[.int .i64 (Int.tmod (Go.bits .and .i64 a0_5 65535) (wrap64 (1 + (Go.bits .and .i64 a0_8 32767)))), .bool false]) ?_ 1 _ rfl; (with_reducible repeat (first | refine blk_drewN ?_ _ | refine blk_drew ?_ | refine blk_alloc ?_ _)); refine blk_put (cs := #[.int .i64 0, .bool false]) ?_ 0 _ rfl; (with_reducible repeat (first | refine blk_drewN ?_ _ | refine blk_drew ?_ | refine blk_alloc ?_ _)); exact BK292.out) hb); have n3_ := Aside0.mk (below_step (by repeat (first | (with_reducible first | exact HB.out | apply below_alloc | apply pw_below_drewN | apply below_drew1 | refine below_set ?_ GE290.out | refine below_set ?_ GE291.out | refine below_set ?_ GE292.out) | exact HB.out)) hb); clear BK290; clear BK291; clear BK292; clear HB; have BK290 := n0_; have BK291 := n1_; have BK292 := n2_; have HB := n3_; clear n0_ n1_ n2_ n3_; (try clear hb); (try clear hb2); (try clear hk); (try clear hi); have hcz56_0 : w55.cell? ⟨gb292, 0, none⟩ = some (.int .i64 (Int.tmod (Go.bits .and .i64 a0_5 65535) (wrap64 (1 + (Go.bits .and .i64 a0_8 32767))))) := (blk_cell BK292.out 0).trans rfl; have hcz56_1 : w55.cell? ⟨gb292, 1, none⟩ = some (.bool a0_6) := (blk_cell BK292.out 1).trans rfl; have hfz56_0 := blk_frozen BK292.out 0; have hfz56_1 := blk_frozen BK292.out 1; have hcz57_0 : w55.cell? ⟨gb291, 0, none⟩ = some (.int .i64 (Int.tmod (Go.bits .and .i64 a0_3 65535) (wrap64 (1 + (Go.bits .and .i64 a0_8 32767))))) := (blk_cell BK291.out 0).trans rfl; have hcz57_1 : w55.cell? ⟨gb291, 1, none⟩ = some (.bool a0_4) := (blk_cell BK291.out 1).trans rfl; have hfz57_0 := blk_frozen BK291.out 0; have hfz57_1 := blk_frozen BK291.out 1) | ((with_reducible refine gate_callee (f := 12) rfl ?_); refine goesL_ (some 45) rfl rfl Try.func12 (by kernel_rfl) rfl #[.agg #[.int .i64 (Int.tmod (Go.bits .and .i64 a0_5 65535) (wrap64 (1 + (Go.bits .and .i64 a0_8 32767)))), .bool a0_6], .agg #[.int .i64 (Int.tmod (Go.bits .and .i64 a0_3 65535) (wrap64 (1 + (Go.bits .and .i64 a0_8 32767)))), .bool a0_4], .int .i64 (wrap64 (1 + (Go.bits .and .i64 a0_8 32767)))] rfl (by (try simp only [List.map_toArray, List.map_cons, List.map_nil]); first | done | rfl | (simp only [List.length_drop, List.length_take]; rfl)) ?_; (with_reducible refine (spot_Gap.calls k (Int.tmod (Go.bits .and .i64 a0_5 65535) (wrap64 (1 + (Go.bits .and .i64 a0_8 32767)))) a0_6 (Int.tmod (Go.bits .and .i64 a0_3 65535) (wrap64 (1 + (Go.bits .and .i64 a0_8 32767)))) a0_4 (wrap64 (1 + (Go.bits .and .i64 a0_8 32767))) t295 t296 _ A4.out).mono ?_); rintro e w58 ⟨rfl, hb⟩; refine ⟨_, rfl, ?_⟩; have n0_ := Aside0.mk (blk_below (g := gb290) (o := .cells #[.int .i64 a0_0, .bool a0_1, .int .i64 a0_2, .int .i64 a0_3, .bool a0_4, .int .i64 a0_5, .bool a0_6, .int .i64 a0_7, .int .i64 a0_8] 27 (0, 0)) (by (with_reducible repeat (first | refine blk_drewN ?_ _ | refine blk_drew ?_ | refine blk_alloc ?_ _)); exact BK290.out) hb); have n1_ := Aside0.mk (blk_below (g := gb291) (o := .cells #[.int .i64 (Int.tmod (Go.bits .and .i64 a0_3 65535) (wrap64 (1 + (Go.bits .and .i64 a0_8 32767)))), .bool a0_4] 25 (0, 0)) (by (with_reducible repeat (first | refine blk_drewN ?_ _ | refine blk_drew ?_ | refine blk_alloc ?_ _)); exact BK291.out) hb); have n2_ := Aside0.mk (blk_below (g := gb292) (o := .cells #[.int .i64 (Int.tmod (Go.bits .and .i64 a0_5 65535) (wrap64 (1 + (Go.bits .and .i64 a0_8 32767)))), .bool a0_6] 25 (0, 0)) (by (with_reducible repeat (first | refine blk_drewN ?_ _ | refine blk_drew ?_ | refine blk_alloc ?_ _)); exact BK292.out) hb); have n3_ := Aside0.mk (below_step (by repeat (first | (with_reducible first | exact HB.out | apply below_alloc | apply pw_below_drewN | apply below_drew1 | refine below_set ?_ GE290.out | refine below_set ?_ GE291.out | refine below_set ?_ GE292.out) | exact HB.out)) hb); clear BK290; clear BK291; clear BK292; clear HB; have BK290 := n0_; have BK291 := n1_; have BK292 := n2_; have HB := n3_; clear n0_ n1_ n2_ n3_; (try clear hb); (try clear hb2); (try clear hk); (try clear hi); have hcz59_0 : w58.cell? ⟨gb291, 0, none⟩ = some (.int .i64 (Int.tmod (Go.bits .and .i64 a0_3 65535) (wrap64 (1 + (Go.bits .and .i64 a0_8 32767))))) := (blk_cell BK291.out 0).trans rfl; have hcz59_1 : w58.cell? ⟨gb291, 1, none⟩ = some (.bool a0_4) := (blk_cell BK291.out 1).trans rfl; have hfz59_0 := blk_frozen BK291.out 0; have hfz59_1 := blk_frozen BK291.out 1; have hcz60_0 : w58.cell? ⟨gb292, 0, none⟩ = some (.int .i64 (Int.tmod (Go.bits .and .i64 a0_5 65535) (wrap64 (1 + (Go.bits .and .i64 a0_8 32767))))) := (blk_cell BK292.out 0).trans rfl; have hcz60_1 : w58.cell? ⟨gb292, 1, none⟩ = some (.bool a0_6) := (blk_cell BK292.out 1).trans rfl; have hfz60_0 := blk_frozen BK292.out 0; have hfz60_1 := blk_frozen BK292.out 1) | (go_at_call 14; (with_reducible refine (aqueductlaw13_fixed.calls k  t298 _ A38.out).mono ?_); rintro e w61 ⟨rfl, hb⟩; have n0_ := Aside0.mk (blk_below (g := gb290) (o := .cells #[.int .i64 a0_0, .bool a0_1, .int .i64 a0_2, .int .i64 a0_3, .bool a0_4, .int .i64 a0_5, .bool a0_6, .int .i64 a0_7, .int .i64 a0_8] 27 (0, 0)) (by (with_reducible repeat (first | refine blk_drewN ?_ _ | refine blk_drew ?_ | refine blk_alloc ?_ _)); exact BK290.out) hb); have n1_ := Aside0.mk (blk_below (g := gb291) (o := .cells #[.int .i64 (Int.tmod (Go.bits .and .i64 a0_3 65535) (wrap64 (1 + (Go.bits .and .i64 a0_8 32767)))), .bool a0_4] 25 (0, 0)) (by (with_reducible repeat (first | refine blk_drewN ?_ _ | refine blk_drew ?_ | refine blk_alloc ?_ _)); exact BK291.out) hb); have n2_ := Aside0.mk (blk_below (g := gb292) (o := .cells #[.int .i64 (Int.tmod (Go.bits .and .i64 a0_5 65535) (wrap64 (1 + (Go.bits .and .i64 a0_8 32767)))), .bool a0_6] 25 (0, 0)) (by (with_reducible repeat (first | refine blk_drewN ?_ _ | refine blk_drew ?_ | refine blk_alloc ?_ _)); exact BK292.out) hb); have n3_ := Aside0.mk (below_step (by repeat (first | (with_reducible first | exact HB.out | apply below_alloc | apply pw_below_drewN | apply below_drew1 | refine below_set ?_ GE290.out | refine below_set ?_ GE291.out | refine below_set ?_ GE292.out) | exact HB.out)) hb); clear BK290; clear BK291; clear BK292; clear HB; have BK290 := n0_; have BK291 := n1_; have BK292 := n2_; have HB := n3_; clear n0_ n1_ n2_ n3_; (try clear hb); (try clear hb2); (try clear hk); (try clear hi)))
                      go_ret
                      exact ⟨by first | rfl | (simp [errW_none, errW_some] <;> rfl) | (simp [*, errW_none, errW_some] <;> rfl) | (exfalso; simp_all), by repeat (first | (with_reducible first | exact HB.out | apply below_alloc | apply pw_below_drewN | apply below_drew1 | refine below_set ?_ GE290.out | refine below_set ?_ GE291.out | refine below_set ?_ GE292.out) | exact HB.out)⟩
                    · rw [if_neg c37] at H
                      have c37b0 : decide (0 < t295) = false := decide_eq_false c37
                      clear c37
                      obtain rfl := Option.some.inj H
                      exact absurd HR_.out (by decide)
                  · rw [if_neg c36] at H
                    have c36b0 : decide (0 < t293) = false := decide_eq_false c36
                    clear c36
                    obtain rfl := Option.some.inj H
                    exact absurd HR_.out (by decide)
                · rw [if_neg c35] at H
                  have c35b0 : ((wrap64 (t293 + t295)) == (wrap64 (2 * (wrap64 (1 + (Go.bits .and .i64 a0_8 32767)))))) = false := beq_eq_false_iff_ne.mpr c35
                  have c35b1 : ((wrap64 (t293 + t295)) != (wrap64 (2 * (wrap64 (1 + (Go.bits .and .i64 a0_8 32767)))))) = true := bne_iff_ne.mpr c35
                  obtain rfl := Option.some.inj H
                  exact absurd HR_.out (by decide)
              · rw [if_neg c34] at H
                have c34b0 : (!((Int.tmod (Go.bits .and .i64 a0_3 65535) (wrap64 (1 + (Go.bits .and .i64 a0_8 32767)))) == (Int.tmod (Go.bits .and .i64 a0_5 65535) (wrap64 (1 + (Go.bits .and .i64 a0_8 32767))))) || (!(a0_4 == a0_6))) = false := by simpa using c34
                clear c34
                obtain rfl := Option.some.inj H
                exact absurd HR_.out (by decide)
          · rw [if_neg c8] at H
            have c8b0 : (t293 == 0) = false := beq_eq_false_iff_ne.mpr c8
            have c8b1 : (t293 != 0) = true := bne_iff_ne.mpr c8
            by_cases c62 : (!((Int.tmod (Go.bits .and .i64 a0_3 65535) (wrap64 (1 + (Go.bits .and .i64 a0_8 32767)))) == (Int.tmod (Go.bits .and .i64 a0_5 65535) (wrap64 (1 + (Go.bits .and .i64 a0_8 32767))))) || (!(a0_4 == a0_6))) = true
            · rw [if_pos c62] at H
              have c62b0 : (!((Int.tmod (Go.bits .and .i64 a0_3 65535) (wrap64 (1 + (Go.bits .and .i64 a0_8 32767)))) == (Int.tmod (Go.bits .and .i64 a0_5 65535) (wrap64 (1 + (Go.bits .and .i64 a0_8 32767))))) || (!(a0_4 == a0_6))) = true := c62
              clear c62
              by_cases c63 : (wrap64 (t293 + t295)) = (wrap64 (2 * (wrap64 (1 + (Go.bits .and .i64 a0_8 32767)))))
              · rw [if_pos c63] at H
                have c63b0 : ((wrap64 (t293 + t295)) == (wrap64 (2 * (wrap64 (1 + (Go.bits .and .i64 a0_8 32767)))))) = true := beq_iff_eq.mpr c63
                have c63b1 : ((wrap64 (t293 + t295)) != (wrap64 (2 * (wrap64 (1 + (Go.bits .and .i64 a0_8 32767)))))) = false := bne_eq_false_iff_eq.mpr c63
                clear c63
                by_cases c64 : t293 > 0
                · rw [if_pos c64] at H
                  have c64b0 : decide (0 < t293) = true := decide_eq_true c64
                  clear c64
                  by_cases c65 : t295 > 0
                  · rw [if_pos c65] at H
                    have c65b0 : decide (0 < t295) = true := decide_eq_true c65
                    clear c65
                    replace H := Option.bind_eq_some_iff.mp H
                    obtain ⟨t299, A660, H⟩ := H
                    replace H : (some t299) = some r := H
                    have A66 := Aside0.mk A660
                    clear A660
                    obtain rfl := Option.some.inj H
                    go_enter Try.func9, Try.ntmps9
                    try go_wp2_with (first | ((with_reducible refine gate_dst (N := 1) rfl ?_); refine box_event ?hg (N := 1) ?hd (cs := #[.int .i64 a0_0, .bool a0_1, .int .i64 a0_2, .int .i64 a0_3, .bool a0_4, .int .i64 a0_5, .bool a0_6, .int .i64 a0_7, .int .i64 a0_8]) (t := 27) ?hr ?_; (case hd => rfl); (case hg => rfl); (case hr => first | (go_simp; done) | (go_simp; rfl)); intro gb290 hg w67 hbox hb; have n0_ := Aside0.mk (below_step (by repeat (first | (with_reducible first | exact HB.out | apply below_alloc | apply pw_below_drewN | apply below_drew1) | exact HB.out)) hb); have n1_ := Aside0.mk (hbox); have n2_ := Aside0.mk ((by rw [hg]; exact (below_size (by repeat (first | (with_reducible first | exact HB.out | apply below_alloc | apply pw_below_drewN | apply below_drew1) | exact HB.out))) : w.heap.size ≤ gb290)); have n3_ := Aside0.mk ((by rw [hg]; exact (below_size (by repeat (first | (with_reducible first | exact HB.out | apply below_alloc | apply pw_below_drewN | apply below_drew1) | exact HB.out))) : w.heap.size ≤ gb290)); clear HB; have HB := n0_; have BK290 := n1_; have GW290 := n2_; have GE290 := n3_; clear n0_ n1_ n2_ n3_; clear hb hbox hg; have hcz68_0 : w67.cell? ⟨gb290, 0, none⟩ = some (.int .i64 a0_0) := (blk_cell BK290.out 0).trans rfl; have hcz68_1 : w67.cell? ⟨gb290, 1, none⟩ = some (.bool a0_1) := (blk_cell BK290.out 1).trans rfl; have hcz68_2 : w67.cell? ⟨gb290, 2, none⟩ = some (.int .i64 a0_2) := (blk_cell BK290.out 2).trans rfl; have hcz68_3 : w67.cell? ⟨gb290, 3, none⟩ = some (.int .i64 a0_3) := (blk_cell BK290.out 3).trans rfl; have hcz68_4 : w67.cell? ⟨gb290, 4, none⟩ = some (.bool a0_4) := (blk_cell BK290.out 4).trans rfl; have hcz68_5 : w67.cell? ⟨gb290, 5, none⟩ = some (.int .i64 a0_5) := (blk_cell BK290.out 5).trans rfl; have hcz68_6 : w67.cell? ⟨gb290, 6, none⟩ = some (.bool a0_6) := (blk_cell BK290.out 6).trans rfl; have hcz68_7 : w67.cell? ⟨gb290, 7, none⟩ = some (.int .i64 a0_7) := (blk_cell BK290.out 7).trans rfl; have hcz68_8 : w67.cell? ⟨gb290, 8, none⟩ = some (.int .i64 a0_8) := (blk_cell BK290.out 8).trans rfl; have hfz68_0 := blk_frozen BK290.out 0; have hfz68_1 := blk_frozen BK290.out 1; have hfz68_2 := blk_frozen BK290.out 2; have hfz68_3 := blk_frozen BK290.out 3; have hfz68_4 := blk_frozen BK290.out 4; have hfz68_5 := blk_frozen BK290.out 5; have hfz68_6 := blk_frozen BK290.out 6; have hfz68_7 := blk_frozen BK290.out 7; have hfz68_8 := blk_frozen BK290.out 8))
                    have n0_ := Aside0.mk (blk_drew BK290.out)
                    have n1_ := Aside0.mk (below_drew1 HB.out)
                    clear BK290
                    clear HB
                    have BK290 := n0_
                    have HB := n1_
                    clear n0_ n1_
                    refine start_ (n := 12) (S := fun w' => w'.cell? ⟨gb290, 0, none⟩ = some (.int .i64 a0_0) ∧ w'.cell? ⟨gb290, 1, none⟩ = some (.bool a0_1) ∧ w'.cell? ⟨gb290, 2, none⟩ = some (.int .i64 a0_2) ∧ w'.cell? ⟨gb290, 3, none⟩ = some (.int .i64 a0_3) ∧ w'.cell? ⟨gb290, 4, none⟩ = some (.bool a0_4) ∧ w'.cell? ⟨gb290, 5, none⟩ = some (.int .i64 a0_5) ∧ w'.cell? ⟨gb290, 6, none⟩ = some (.bool a0_6) ∧ w'.cell? ⟨gb290, 7, none⟩ = some (.int .i64 a0_7) ∧ w'.cell? ⟨gb290, 8, none⟩ = some (.int .i64 a0_8)) (ds := []) q25_0 (by kernel_rfl) rfl rfl ⟨(blk_cell BK290.out 0).trans rfl, (blk_cell BK290.out 1).trans rfl, (blk_cell BK290.out 2).trans rfl, (blk_cell BK290.out 3).trans rfl, (blk_cell BK290.out 4).trans rfl, (blk_cell BK290.out 5).trans rfl, (blk_cell BK290.out 6).trans rfl, (blk_cell BK290.out 7).trans rfl, (blk_cell BK290.out 8).trans rfl⟩ (fun hHeld => ?_); refine with_tabW aqueductlaw13_SpotHalves.tab2 aqueductlaw13_SpotHalves.bits2 (fun HT_ HW_ => ?_)
                    generalize w67.drew = w69 at BK290 HB hHeld ⊢
                    refine pure_ (i := 0) (N := some 14) (v := ?_) (a' := ?_) q25_1 rfl rfl (any_of HT_.out (by kernel_rfl)) (fun _ _ _ h => h) (Or.inl ⟨by rfl, ?_⟩) ?_ ?_
                    rotate_left
                    · intro w'
                      go_simp
                      with_reducible rfl
                    rotate_left
                    · simp only [Act.put, List.setIfInBounds_toArray, List.set_cons_zero, List.set_cons_succ, i64_w, i32_w]
                      rfl
                    refine pure_ (i := 1) (N := some 15) (v := ?_) (a' := ?_) q25_2 rfl rfl (any_of HT_.out (by kernel_rfl)) (fun _ _ _ h => h) (Or.inl ⟨by rfl, ?_⟩) ?_ ?_
                    rotate_left
                    · intro w'
                      go_simp
                      with_reducible rfl
                    rotate_left
                    · simp only [Act.put, List.setIfInBounds_toArray, List.set_cons_zero, List.set_cons_succ, i64_w, i32_w]
                      rfl
                    refine pure_ (i := 4) (N := some 18) (v := ?_) (a' := ?_) q25_3 rfl rfl (any_of HT_.out (by kernel_rfl)) (fun _ _ _ h => h) (Or.inl ⟨by rfl, ?_⟩) ?_ ?_
                    rotate_left
                    · intro w'
                      go_simp
                      with_reducible rfl
                    rotate_left
                    · simp only [Act.put, List.setIfInBounds_toArray, List.set_cons_zero, List.set_cons_succ, i64_w, i32_w]
                      rfl
                    refine pure_ (i := 6) (N := some 20) (v := ?_) (a' := ?_) q25_4 rfl rfl (any_of HT_.out (by kernel_rfl)) (fun _ _ _ h => h) (Or.inl ⟨by rfl, ?_⟩) ?_ ?_
                    rotate_left
                    · intro w'
                      go_simp
                      with_reducible rfl
                    rotate_left
                    · simp only [Act.put, List.setIfInBounds_toArray, List.set_cons_zero, List.set_cons_succ, i64_w, i32_w]
                      rfl
                    refine pure_ (i := 7) (N := some 21) (v := ?_) (a' := ?_) q25_5 rfl rfl (any_of HT_.out (by kernel_rfl)) (fun _ _ _ h => h) (Or.inl ⟨by rfl, ?_⟩) ?_ ?_
                    rotate_left
                    · intro w'
                      go_simp
                      with_reducible rfl
                    rotate_left
                    · simp only [Act.put, List.setIfInBounds_toArray, List.set_cons_zero, List.set_cons_succ, i64_w, i32_w]
                      rfl
                    refine take_ (i := 2) (N := some 16) (v := ?_) (a' := ?_) q25_6 rfl rfl (take_ofW HT_.out HW_.out (by kernel_rfl)) (fun _ _ _ h => h) (Or.inl ⟨by rfl, ?_⟩) hHeld ?_ ?_
                    rotate_left
                    · rintro w' ⟨s0, s1, s2, s3, s4, s5, s6, s7, s8⟩
                      go_simp
                      with_reducible rfl
                    rotate_left
                    · simp only [Act.put, List.setIfInBounds_toArray, List.set_cons_zero, List.set_cons_succ, i64_w, i32_w]
                      rfl
                    refine pure_ (i := 3) (N := some 17) (v := ?_) (a' := ?_) q25_7 rfl rfl (any_of HT_.out (by kernel_rfl)) (fun _ _ _ h => h) (Or.inl ⟨by rfl, ?_⟩) ?_ ?_
                    rotate_left
                    · intro w'
                      go_simp
                      with_reducible rfl
                    rotate_left
                    · simp only [Act.put, List.setIfInBounds_toArray, List.set_cons_zero, List.set_cons_succ, i64_w, i32_w]
                      rfl
                    refine pure_ (i := 5) (N := some 19) (v := ?_) (a' := ?_) q25_8 rfl rfl (any_of HT_.out (by kernel_rfl)) (fun _ _ _ h => h) (Or.inl ⟨by rfl, ?_⟩) ?_ ?_
                    rotate_left
                    · intro w'
                      go_simp
                      with_reducible rfl
                    rotate_left
                    · simp only [Act.put, List.setIfInBounds_toArray, List.set_cons_zero, List.set_cons_succ, i64_w, i32_w]
                      rfl
                    refine take_ (i := 8) (N := some 22) (v := ?_) (a' := ?_) q25_9 rfl rfl (take_ofW HT_.out HW_.out (by kernel_rfl)) (fun _ _ _ h => h) (Or.inl ⟨by rfl, ?_⟩) hHeld ?_ ?_
                    rotate_left
                    · rintro w' ⟨s0, s1, s2, s3, s4, s5, s6, s7, s8⟩
                      go_simp
                      with_reducible rfl
                    rotate_left
                    · simp only [Act.put, List.setIfInBounds_toArray, List.set_cons_zero, List.set_cons_succ, i64_w, i32_w]
                      rfl
                    refine pure_ (i := 9) (N := some 23) (v := ?_) (a' := ?_) q25_10 rfl rfl (any_of HT_.out (by kernel_rfl)) (fun _ _ _ h => h) (Or.inl ⟨by rfl, ?_⟩) ?_ ?_
                    rotate_left
                    · intro w'
                      go_simp
                      with_reducible rfl
                    rotate_left
                    · simp only [Act.put, List.setIfInBounds_toArray, List.set_cons_zero, List.set_cons_succ, i64_w, i32_w]
                      rfl
                    refine one_ (i := 10) (N := some 4) q25_11 rfl rfl (one_of HT_.out (by kernel_rfl)) (by decide) (fun K hK => ?_)
                    refine box_step ?hg (N := 4) ?hd (cs := #[.int .i64 0, .bool false]) (t := 25) ?hr ?_; (case hd => rfl); (case hg => rfl); (case hr => first | (go_simp; done) | (go_simp; rfl))
                    intro gb291 hg w70 hbox hb
                    have n0_ := Aside0.mk (blk_below (g := gb290) (o := .cells #[.int .i64 a0_0, .bool a0_1, .int .i64 a0_2, .int .i64 a0_3, .bool a0_4, .int .i64 a0_5, .bool a0_6, .int .i64 a0_7, .int .i64 a0_8] 27 (0, 0)) (by (with_reducible repeat (first | refine blk_drewN ?_ _ | refine blk_drew ?_ | refine blk_alloc ?_ _)); exact BK290.out) hb)
                    have n1_ := Aside0.mk (below_step (by repeat (first | (with_reducible first | exact HB.out | apply below_alloc | apply pw_below_drewN | apply below_drew1 | refine below_set ?_ GE290.out) | exact HB.out)) hb)
                    have n2_ := Aside0.mk (hbox)
                    have n3_ := Aside0.mk ((by rw [hg]; exact (below_size (by repeat (first | (with_reducible first | exact HB.out | apply below_alloc | apply pw_below_drewN | apply below_drew1 | refine below_set ?_ GE290.out) | exact HB.out))) : w.heap.size ≤ gb291))
                    have n4_ := Aside0.mk ((by rw [hg]; exact (below_size (by repeat (first | (with_reducible first | exact HB.out | apply below_alloc | apply pw_below_drewN | apply below_drew1 | refine below_set ?_ GE290.out) | exact HB.out))) : w.heap.size ≤ gb291))
                    have n5_ := Aside0.mk ((by rw [hg]; exact Nat.ne_of_lt (blk_lt (g := gb290) (o := .cells #[.int .i64 a0_0, .bool a0_1, .int .i64 a0_2, .int .i64 a0_3, .bool a0_4, .int .i64 a0_5, .bool a0_6, .int .i64 a0_7, .int .i64 a0_8] 27 (0, 0)) (by (with_reducible repeat (first | refine blk_drewN ?_ _ | refine blk_drew ?_ | refine blk_alloc ?_ _)); exact BK290.out)) : gb290 ≠ gb291))
                    have n6_ := Aside0.mk ((by rw [hg]; exact Nat.ne_of_gt (blk_lt (g := gb290) (o := .cells #[.int .i64 a0_0, .bool a0_1, .int .i64 a0_2, .int .i64 a0_3, .bool a0_4, .int .i64 a0_5, .bool a0_6, .int .i64 a0_7, .int .i64 a0_8] 27 (0, 0)) (by (with_reducible repeat (first | refine blk_drewN ?_ _ | refine blk_drew ?_ | refine blk_alloc ?_ _)); exact BK290.out)) : gb291 ≠ gb290))
                    clear BK290
                    clear HB
                    have BK290 := n0_
                    have HB := n1_
                    have BK291 := n2_
                    have GW291 := n3_
                    have GE291 := n4_
                    have NB290_291 := n5_
                    have NB291_290 := n6_
                    clear n0_ n1_ n2_ n3_ n4_ n5_ n6_
                    clear hb hbox hg
                    refine hK.out _ _ ⟨(blk_cell BK290.out 0).trans rfl, (blk_cell BK290.out 1).trans rfl, (blk_cell BK290.out 2).trans rfl, (blk_cell BK290.out 3).trans rfl, (blk_cell BK290.out 4).trans rfl, (blk_cell BK290.out 5).trans rfl, (blk_cell BK290.out 6).trans rfl, (blk_cell BK290.out 7).trans rfl, (blk_cell BK290.out 8).trans rfl⟩ (fun hHeld => ?_)
                    clear hK K
                    refine norm_ (a' := ?_) ?_ ?_
                    rotate_left
                    · show Act.put _ (some 4) _ = _
                      simp only [Act.put, List.setIfInBounds_toArray, List.set_cons_zero, List.set_cons_succ, i64_w, i32_w]
                      rfl
                    refine one_ (i := 11) (N := none) q25_12 rfl rfl (one_of HT_.out (by kernel_rfl)) (by decide) (fun K hK => ?_)
                    have hs71 : w70.cell? ⟨gb291, 0, none⟩ = some (.int .i64 0) := (blk_cell BK291.out 0).trans rfl
                    have hfs71 := blk_frozen BK291.out 0
                    have hns71_0 := NB290_291.out
                    have hms71_0 := NB291_290.out
                    have hs72 : w70.cell? ⟨gb291, 1, none⟩ = some (.bool false) := (blk_cell BK291.out 1).trans rfl
                    have hfs72 := blk_frozen BK291.out 1
                    have hns72_0 := NB290_291.out
                    have hms72_0 := NB291_290.out
                    refine skip_ (w1 := ?_) (by rfl) rfl ?_ ?_
                    rotate_left
                    · go_simp
                      rfl
                    refine hK.out _ _ ⟨((cell_far (p := ⟨gb291, _, none⟩) NB290_291.out _).trans (((cell_far (p := ⟨gb291, _, none⟩) NB290_291.out _).trans (hHeld.1)))), ((cell_far (p := ⟨gb291, _, none⟩) NB290_291.out _).trans (((cell_far (p := ⟨gb291, _, none⟩) NB290_291.out _).trans (hHeld.2.1)))), ((cell_far (p := ⟨gb291, _, none⟩) NB290_291.out _).trans (((cell_far (p := ⟨gb291, _, none⟩) NB290_291.out _).trans (hHeld.2.2.1)))), ((cell_far (p := ⟨gb291, _, none⟩) NB290_291.out _).trans (((cell_far (p := ⟨gb291, _, none⟩) NB290_291.out _).trans (hHeld.2.2.2.1)))), ((cell_far (p := ⟨gb291, _, none⟩) NB290_291.out _).trans (((cell_far (p := ⟨gb291, _, none⟩) NB290_291.out _).trans (hHeld.2.2.2.2.1)))), ((cell_far (p := ⟨gb291, _, none⟩) NB290_291.out _).trans (((cell_far (p := ⟨gb291, _, none⟩) NB290_291.out _).trans (hHeld.2.2.2.2.2.1)))), ((cell_far (p := ⟨gb291, _, none⟩) NB290_291.out _).trans (((cell_far (p := ⟨gb291, _, none⟩) NB290_291.out _).trans (hHeld.2.2.2.2.2.2.1)))), ((cell_far (p := ⟨gb291, _, none⟩) NB290_291.out _).trans (((cell_far (p := ⟨gb291, _, none⟩) NB290_291.out _).trans (hHeld.2.2.2.2.2.2.2.1)))), ((cell_far (p := ⟨gb291, _, none⟩) NB290_291.out _).trans (((cell_far (p := ⟨gb291, _, none⟩) NB290_291.out _).trans (hHeld.2.2.2.2.2.2.2.2))))⟩ (fun hHeld => ?_)
                    clear hK K
                    refine done_ (done_of HT_.out (by kernel_rfl)) ?_
                    try go_wp2
                    have n0_ : Aside0 (((w70.setCell ⟨gb291, 0, none⟩ (.int .i64 (Int.tmod (Go.bits .and .i64 a0_3 65535) (wrap64 (1 + (Go.bits .and .i64 a0_8 32767)))))).setCell ⟨gb291, 1, none⟩ (.bool a0_4)).heap[gb290]? = some (.cells #[.int .i64 a0_0, .bool a0_1, .int .i64 a0_2, .int .i64 a0_3, .bool a0_4, .int .i64 a0_5, .bool a0_6, .int .i64 a0_7, .int .i64 a0_8] 27 (0, 0))) := ⟨by (with_reducible repeat (first | refine blk_drewN ?_ _ | refine blk_drew ?_ | refine blk_alloc ?_ _)); refine blk_far ?_ NB290_291.out _; (with_reducible repeat (first | refine blk_drewN ?_ _ | refine blk_drew ?_ | refine blk_alloc ?_ _)); refine blk_far ?_ NB290_291.out _; (with_reducible repeat (first | refine blk_drewN ?_ _ | refine blk_drew ?_ | refine blk_alloc ?_ _)); exact BK290.out⟩
                    have n1_ : Aside0 (((w70.setCell ⟨gb291, 0, none⟩ (.int .i64 (Int.tmod (Go.bits .and .i64 a0_3 65535) (wrap64 (1 + (Go.bits .and .i64 a0_8 32767)))))).setCell ⟨gb291, 1, none⟩ (.bool a0_4)).heap[gb291]? = some (.cells #[.int .i64 (Int.tmod (Go.bits .and .i64 a0_3 65535) (wrap64 (1 + (Go.bits .and .i64 a0_8 32767)))), .bool a0_4] 25 (0, 0))) := ⟨by (with_reducible repeat (first | refine blk_drewN ?_ _ | refine blk_drew ?_ | refine blk_alloc ?_ _)); refine blk_put (cs := #[.int .i64 (Int.tmod (Go.bits .and .i64 a0_3 65535) (wrap64 (1 + (Go.bits .and .i64 a0_8 32767)))), .bool false]) ?_ 1 _ rfl; (with_reducible repeat (first | refine blk_drewN ?_ _ | refine blk_drew ?_ | refine blk_alloc ?_ _)); refine blk_put (cs := #[.int .i64 0, .bool false]) ?_ 0 _ rfl; (with_reducible repeat (first | refine blk_drewN ?_ _ | refine blk_drew ?_ | refine blk_alloc ?_ _)); exact BK291.out⟩
                    have n2_ : Aside0 (Below w.heap.size w ((w70.setCell ⟨gb291, 0, none⟩ (.int .i64 (Int.tmod (Go.bits .and .i64 a0_3 65535) (wrap64 (1 + (Go.bits .and .i64 a0_8 32767)))))).setCell ⟨gb291, 1, none⟩ (.bool a0_4))) := ⟨by repeat (first | (with_reducible first | exact HB.out | apply below_alloc | apply pw_below_drewN | apply below_drew1 | refine below_set ?_ GE290.out | refine below_set ?_ GE291.out) | exact HB.out)⟩
                    (try clear BK290)
                    (try clear BK291)
                    (try clear HB)
                    generalize ((w70.setCell ⟨gb291, 0, none⟩ (.int .i64 (Int.tmod (Go.bits .and .i64 a0_3 65535) (wrap64 (1 + (Go.bits .and .i64 a0_8 32767)))))).setCell ⟨gb291, 1, none⟩ (.bool a0_4)) = w73 at n0_ n1_ n2_ ⊢
                    have BK290 := n0_
                    have BK291 := n1_
                    have HB := n2_
                    clear n0_ n1_ n2_
                    have n0_ := Aside0.mk (blk_drew BK290.out)
                    have n1_ := Aside0.mk (blk_drew BK291.out)
                    have n2_ := Aside0.mk (below_drew1 HB.out)
                    clear BK290
                    clear BK291
                    clear HB
                    have BK290 := n0_
                    have BK291 := n1_
                    have HB := n2_
                    clear n0_ n1_ n2_
                    refine start_ (n := 12) (S := fun w' => w'.cell? ⟨gb290, 0, none⟩ = some (.int .i64 a0_0) ∧ w'.cell? ⟨gb290, 1, none⟩ = some (.bool a0_1) ∧ w'.cell? ⟨gb290, 2, none⟩ = some (.int .i64 a0_2) ∧ w'.cell? ⟨gb290, 3, none⟩ = some (.int .i64 a0_3) ∧ w'.cell? ⟨gb290, 4, none⟩ = some (.bool a0_4) ∧ w'.cell? ⟨gb290, 5, none⟩ = some (.int .i64 a0_5) ∧ w'.cell? ⟨gb290, 6, none⟩ = some (.bool a0_6) ∧ w'.cell? ⟨gb290, 7, none⟩ = some (.int .i64 a0_7) ∧ w'.cell? ⟨gb290, 8, none⟩ = some (.int .i64 a0_8)) (ds := []) q25_0 (by kernel_rfl) rfl rfl ⟨(blk_cell BK290.out 0).trans rfl, (blk_cell BK290.out 1).trans rfl, (blk_cell BK290.out 2).trans rfl, (blk_cell BK290.out 3).trans rfl, (blk_cell BK290.out 4).trans rfl, (blk_cell BK290.out 5).trans rfl, (blk_cell BK290.out 6).trans rfl, (blk_cell BK290.out 7).trans rfl, (blk_cell BK290.out 8).trans rfl⟩ (fun hHeld => ?_); refine with_tabW aqueductlaw13_SpotHalves.tab3 aqueductlaw13_SpotHalves.bits3 (fun HT_ HW_ => ?_)
                    generalize w73.drew = w74 at BK290 BK291 HB hHeld ⊢
                    refine pure_ (i := 0) (N := some 24) (v := ?_) (a' := ?_) q25_1 rfl rfl (any_of HT_.out (by kernel_rfl)) (fun _ _ _ h => h) (Or.inl ⟨by rfl, ?_⟩) ?_ ?_
                    rotate_left
                    · intro w'
                      go_simp
                      with_reducible rfl
                    rotate_left
                    · simp only [Act.put, List.setIfInBounds_toArray, List.set_cons_zero, List.set_cons_succ, i64_w, i32_w]
                      rfl
                    refine pure_ (i := 1) (N := some 25) (v := ?_) (a' := ?_) q25_2 rfl rfl (any_of HT_.out (by kernel_rfl)) (fun _ _ _ h => h) (Or.inl ⟨by rfl, ?_⟩) ?_ ?_
                    rotate_left
                    · intro w'
                      go_simp
                      with_reducible rfl
                    rotate_left
                    · simp only [Act.put, List.setIfInBounds_toArray, List.set_cons_zero, List.set_cons_succ, i64_w, i32_w]
                      rfl
                    refine pure_ (i := 4) (N := some 28) (v := ?_) (a' := ?_) q25_3 rfl rfl (any_of HT_.out (by kernel_rfl)) (fun _ _ _ h => h) (Or.inl ⟨by rfl, ?_⟩) ?_ ?_
                    rotate_left
                    · intro w'
                      go_simp
                      with_reducible rfl
                    rotate_left
                    · simp only [Act.put, List.setIfInBounds_toArray, List.set_cons_zero, List.set_cons_succ, i64_w, i32_w]
                      rfl
                    refine pure_ (i := 6) (N := some 30) (v := ?_) (a' := ?_) q25_4 rfl rfl (any_of HT_.out (by kernel_rfl)) (fun _ _ _ h => h) (Or.inl ⟨by rfl, ?_⟩) ?_ ?_
                    rotate_left
                    · intro w'
                      go_simp
                      with_reducible rfl
                    rotate_left
                    · simp only [Act.put, List.setIfInBounds_toArray, List.set_cons_zero, List.set_cons_succ, i64_w, i32_w]
                      rfl
                    refine pure_ (i := 7) (N := some 31) (v := ?_) (a' := ?_) q25_5 rfl rfl (any_of HT_.out (by kernel_rfl)) (fun _ _ _ h => h) (Or.inl ⟨by rfl, ?_⟩) ?_ ?_
                    rotate_left
                    · intro w'
                      go_simp
                      with_reducible rfl
                    rotate_left
                    · simp only [Act.put, List.setIfInBounds_toArray, List.set_cons_zero, List.set_cons_succ, i64_w, i32_w]
                      rfl
                    refine take_ (i := 2) (N := some 26) (v := ?_) (a' := ?_) q25_6 rfl rfl (take_ofW HT_.out HW_.out (by kernel_rfl)) (fun _ _ _ h => h) (Or.inl ⟨by rfl, ?_⟩) hHeld ?_ ?_
                    rotate_left
                    · rintro w' ⟨s0, s1, s2, s3, s4, s5, s6, s7, s8⟩
                      go_simp
                      with_reducible rfl
                    rotate_left
                    · simp only [Act.put, List.setIfInBounds_toArray, List.set_cons_zero, List.set_cons_succ, i64_w, i32_w]
                      rfl
                    refine pure_ (i := 3) (N := some 27) (v := ?_) (a' := ?_) q25_7 rfl rfl (any_of HT_.out (by kernel_rfl)) (fun _ _ _ h => h) (Or.inl ⟨by rfl, ?_⟩) ?_ ?_
                    rotate_left
                    · intro w'
                      go_simp
                      with_reducible rfl
                    rotate_left
                    · simp only [Act.put, List.setIfInBounds_toArray, List.set_cons_zero, List.set_cons_succ, i64_w, i32_w]
                      rfl
                    refine pure_ (i := 5) (N := some 29) (v := ?_) (a' := ?_) q25_8 rfl rfl (any_of HT_.out (by kernel_rfl)) (fun _ _ _ h => h) (Or.inl ⟨by rfl, ?_⟩) ?_ ?_
                    rotate_left
                    · intro w'
                      go_simp
                      with_reducible rfl
                    rotate_left
                    · simp only [Act.put, List.setIfInBounds_toArray, List.set_cons_zero, List.set_cons_succ, i64_w, i32_w]
                      rfl
                    refine take_ (i := 8) (N := some 32) (v := ?_) (a' := ?_) q25_9 rfl rfl (take_ofW HT_.out HW_.out (by kernel_rfl)) (fun _ _ _ h => h) (Or.inl ⟨by rfl, ?_⟩) hHeld ?_ ?_
                    rotate_left
                    · rintro w' ⟨s0, s1, s2, s3, s4, s5, s6, s7, s8⟩
                      go_simp
                      with_reducible rfl
                    rotate_left
                    · simp only [Act.put, List.setIfInBounds_toArray, List.set_cons_zero, List.set_cons_succ, i64_w, i32_w]
                      rfl
                    refine pure_ (i := 9) (N := some 33) (v := ?_) (a' := ?_) q25_10 rfl rfl (any_of HT_.out (by kernel_rfl)) (fun _ _ _ h => h) (Or.inl ⟨by rfl, ?_⟩) ?_ ?_
                    rotate_left
                    · intro w'
                      go_simp
                      with_reducible rfl
                    rotate_left
                    · simp only [Act.put, List.setIfInBounds_toArray, List.set_cons_zero, List.set_cons_succ, i64_w, i32_w]
                      rfl
                    refine one_ (i := 10) (N := some 5) q25_11 rfl rfl (one_of HT_.out (by kernel_rfl)) (by decide) (fun K hK => ?_)
                    refine box_step ?hg (N := 5) ?hd (cs := #[.int .i64 0, .bool false]) (t := 25) ?hr ?_; (case hd => rfl); (case hg => rfl); (case hr => first | (go_simp; done) | (go_simp; rfl))
                    intro gb292 hg w75 hbox hb
                    have n0_ := Aside0.mk (blk_below (g := gb290) (o := .cells #[.int .i64 a0_0, .bool a0_1, .int .i64 a0_2, .int .i64 a0_3, .bool a0_4, .int .i64 a0_5, .bool a0_6, .int .i64 a0_7, .int .i64 a0_8] 27 (0, 0)) (by (with_reducible repeat (first | refine blk_drewN ?_ _ | refine blk_drew ?_ | refine blk_alloc ?_ _)); exact BK290.out) hb)
                    have n1_ := Aside0.mk (blk_below (g := gb291) (o := .cells #[.int .i64 (Int.tmod (Go.bits .and .i64 a0_3 65535) (wrap64 (1 + (Go.bits .and .i64 a0_8 32767)))), .bool a0_4] 25 (0, 0)) (by (with_reducible repeat (first | refine blk_drewN ?_ _ | refine blk_drew ?_ | refine blk_alloc ?_ _)); exact BK291.out) hb)
                    have n2_ := Aside0.mk (below_step (by repeat (first | (with_reducible first | exact HB.out | apply below_alloc | apply pw_below_drewN | apply below_drew1 | refine below_set ?_ GE290.out | refine below_set ?_ GE291.out) | exact HB.out)) hb)
                    have n3_ := Aside0.mk (hbox)
                    have n4_ := Aside0.mk ((by rw [hg]; exact (below_size (by repeat (first | (with_reducible first | exact HB.out | apply below_alloc | apply pw_below_drewN | apply below_drew1 | refine below_set ?_ GE290.out | refine below_set ?_ GE291.out) | exact HB.out))) : w.heap.size ≤ gb292))
                    have n5_ := Aside0.mk ((by rw [hg]; exact (below_size (by repeat (first | (with_reducible first | exact HB.out | apply below_alloc | apply pw_below_drewN | apply below_drew1 | refine below_set ?_ GE290.out | refine below_set ?_ GE291.out) | exact HB.out))) : w.heap.size ≤ gb292))
                    have n6_ := Aside0.mk ((by rw [hg]; exact Nat.ne_of_lt (blk_lt (g := gb290) (o := .cells #[.int .i64 a0_0, .bool a0_1, .int .i64 a0_2, .int .i64 a0_3, .bool a0_4, .int .i64 a0_5, .bool a0_6, .int .i64 a0_7, .int .i64 a0_8] 27 (0, 0)) (by (with_reducible repeat (first | refine blk_drewN ?_ _ | refine blk_drew ?_ | refine blk_alloc ?_ _)); exact BK290.out)) : gb290 ≠ gb292))
                    have n7_ := Aside0.mk ((by rw [hg]; exact Nat.ne_of_gt (blk_lt (g := gb290) (o := .cells #[.int .i64 a0_0, .bool a0_1, .int .i64 a0_2, .int .i64 a0_3, .bool a0_4, .int .i64 a0_5, .bool a0_6, .int .i64 a0_7, .int .i64 a0_8] 27 (0, 0)) (by (with_reducible repeat (first | refine blk_drewN ?_ _ | refine blk_drew ?_ | refine blk_alloc ?_ _)); exact BK290.out)) : gb292 ≠ gb290))
                    have n8_ := Aside0.mk ((by rw [hg]; exact Nat.ne_of_lt (blk_lt (g := gb291) (o := .cells #[.int .i64 (Int.tmod (Go.bits .and .i64 a0_3 65535) (wrap64 (1 + (Go.bits .and .i64 a0_8 32767)))), .bool a0_4] 25 (0, 0)) (by (with_reducible repeat (first | refine blk_drewN ?_ _ | refine blk_drew ?_ | refine blk_alloc ?_ _)); exact BK291.out)) : gb291 ≠ gb292))
                    have n9_ := Aside0.mk ((by rw [hg]; exact Nat.ne_of_gt (blk_lt (g := gb291) (o := .cells #[.int .i64 (Int.tmod (Go.bits .and .i64 a0_3 65535) (wrap64 (1 + (Go.bits .and .i64 a0_8 32767)))), .bool a0_4] 25 (0, 0)) (by (with_reducible repeat (first | refine blk_drewN ?_ _ | refine blk_drew ?_ | refine blk_alloc ?_ _)); exact BK291.out)) : gb292 ≠ gb291))
                    clear BK290
                    clear BK291
                    clear HB
                    have BK290 := n0_
                    have BK291 := n1_
                    have HB := n2_
                    have BK292 := n3_
                    have GW292 := n4_
                    have GE292 := n5_
                    have NB290_292 := n6_
                    have NB292_290 := n7_
                    have NB291_292 := n8_
                    have NB292_291 := n9_
                    clear n0_ n1_ n2_ n3_ n4_ n5_ n6_ n7_ n8_ n9_
                    clear hb hbox hg
                    refine hK.out _ _ ⟨(blk_cell BK290.out 0).trans rfl, (blk_cell BK290.out 1).trans rfl, (blk_cell BK290.out 2).trans rfl, (blk_cell BK290.out 3).trans rfl, (blk_cell BK290.out 4).trans rfl, (blk_cell BK290.out 5).trans rfl, (blk_cell BK290.out 6).trans rfl, (blk_cell BK290.out 7).trans rfl, (blk_cell BK290.out 8).trans rfl⟩ (fun hHeld => ?_)
                    clear hK K
                    refine norm_ (a' := ?_) ?_ ?_
                    rotate_left
                    · show Act.put _ (some 5) _ = _
                      simp only [Act.put, List.setIfInBounds_toArray, List.set_cons_zero, List.set_cons_succ, i64_w, i32_w]
                      rfl
                    refine one_ (i := 11) (N := none) q25_12 rfl rfl (one_of HT_.out (by kernel_rfl)) (by decide) (fun K hK => ?_)
                    have hs76 : w75.cell? ⟨gb292, 0, none⟩ = some (.int .i64 0) := (blk_cell BK292.out 0).trans rfl
                    have hfs76 := blk_frozen BK292.out 0
                    have hns76_0 := NB290_292.out
                    have hns76_1 := NB291_292.out
                    have hms76_0 := NB292_290.out
                    have hms76_1 := NB292_291.out
                    have hs77 : w75.cell? ⟨gb292, 1, none⟩ = some (.bool false) := (blk_cell BK292.out 1).trans rfl
                    have hfs77 := blk_frozen BK292.out 1
                    have hns77_0 := NB290_292.out
                    have hns77_1 := NB291_292.out
                    have hms77_0 := NB292_290.out
                    have hms77_1 := NB292_291.out
                    refine skip_ (w1 := ?_) (by rfl) rfl ?_ ?_
                    rotate_left
                    · go_simp
                      rfl
                    refine hK.out _ _ ⟨((cell_far (p := ⟨gb292, _, none⟩) NB290_292.out _).trans (((cell_far (p := ⟨gb292, _, none⟩) NB290_292.out _).trans (hHeld.1)))), ((cell_far (p := ⟨gb292, _, none⟩) NB290_292.out _).trans (((cell_far (p := ⟨gb292, _, none⟩) NB290_292.out _).trans (hHeld.2.1)))), ((cell_far (p := ⟨gb292, _, none⟩) NB290_292.out _).trans (((cell_far (p := ⟨gb292, _, none⟩) NB290_292.out _).trans (hHeld.2.2.1)))), ((cell_far (p := ⟨gb292, _, none⟩) NB290_292.out _).trans (((cell_far (p := ⟨gb292, _, none⟩) NB290_292.out _).trans (hHeld.2.2.2.1)))), ((cell_far (p := ⟨gb292, _, none⟩) NB290_292.out _).trans (((cell_far (p := ⟨gb292, _, none⟩) NB290_292.out _).trans (hHeld.2.2.2.2.1)))), ((cell_far (p := ⟨gb292, _, none⟩) NB290_292.out _).trans (((cell_far (p := ⟨gb292, _, none⟩) NB290_292.out _).trans (hHeld.2.2.2.2.2.1)))), ((cell_far (p := ⟨gb292, _, none⟩) NB290_292.out _).trans (((cell_far (p := ⟨gb292, _, none⟩) NB290_292.out _).trans (hHeld.2.2.2.2.2.2.1)))), ((cell_far (p := ⟨gb292, _, none⟩) NB290_292.out _).trans (((cell_far (p := ⟨gb292, _, none⟩) NB290_292.out _).trans (hHeld.2.2.2.2.2.2.2.1)))), ((cell_far (p := ⟨gb292, _, none⟩) NB290_292.out _).trans (((cell_far (p := ⟨gb292, _, none⟩) NB290_292.out _).trans (hHeld.2.2.2.2.2.2.2.2))))⟩ (fun hHeld => ?_)
                    clear hK K
                    refine done_ (done_of HT_.out (by kernel_rfl)) ?_
                    have hnb78 := NB291_290.out
                    have hnc78 := NB290_291.out
                    have hnb79 := NB291_292.out
                    have hnc79 := NB292_291.out
                    have hcz80_0 : w75.cell? ⟨gb291, 0, none⟩ = some (.int .i64 (Int.tmod (Go.bits .and .i64 a0_3 65535) (wrap64 (1 + (Go.bits .and .i64 a0_8 32767))))) := (blk_cell BK291.out 0).trans rfl
                    have hcz80_1 : w75.cell? ⟨gb291, 1, none⟩ = some (.bool a0_4) := (blk_cell BK291.out 1).trans rfl
                    have hfz80_0 := blk_frozen BK291.out 0
                    have hfz80_1 := blk_frozen BK291.out 1
                    have hnb81 := NB292_290.out
                    have hnc81 := NB290_292.out
                    have hcz82_0 : w75.cell? ⟨gb292, 0, none⟩ = some (.int .i64 0) := (blk_cell BK292.out 0).trans rfl
                    have hcz82_1 : w75.cell? ⟨gb292, 1, none⟩ = some (.bool false) := (blk_cell BK292.out 1).trans rfl
                    have hfz82_0 := blk_frozen BK292.out 0
                    have hfz82_1 := blk_frozen BK292.out 1
                    try go_wp2_with (first | ((with_reducible refine gate_callee (f := 12) rfl ?_); refine goesL_ (some 38) rfl rfl Try.func12 (by kernel_rfl) rfl #[.agg #[.int .i64 (Int.tmod (Go.bits .and .i64 a0_3 65535) (wrap64 (1 + (Go.bits .and .i64 a0_8 32767)))), .bool a0_4], .agg #[.int .i64 (Int.tmod (Go.bits .and .i64 a0_5 65535) (wrap64 (1 + (Go.bits .and .i64 a0_8 32767)))), .bool a0_6], .int .i64 (wrap64 (1 + (Go.bits .and .i64 a0_8 32767)))] rfl (by (try simp only [List.map_toArray, List.map_cons, List.map_nil]); first | done | rfl | (simp only [List.length_drop, List.length_take]; rfl)) ?_; (with_reducible refine (spot_Gap.calls k (Int.tmod (Go.bits .and .i64 a0_3 65535) (wrap64 (1 + (Go.bits .and .i64 a0_8 32767)))) a0_4 (Int.tmod (Go.bits .and .i64 a0_5 65535) (wrap64 (1 + (Go.bits .and .i64 a0_8 32767)))) a0_6 (wrap64 (1 + (Go.bits .and .i64 a0_8 32767))) t293 t294 _ A3.out).mono ?_); rintro e w83 ⟨rfl, hb⟩; refine ⟨_, rfl, ?_⟩; have n0_ := Aside0.mk (blk_below (g := gb290) (o := .cells #[.int .i64 a0_0, .bool a0_1, .int .i64 a0_2, .int .i64 a0_3, .bool a0_4, .int .i64 a0_5, .bool a0_6, .int .i64 a0_7, .int .i64 a0_8] 27 (0, 0)) (by (with_reducible repeat (first | refine blk_drewN ?_ _ | refine blk_drew ?_ | refine blk_alloc ?_ _)); refine blk_far ?_ NB290_292.out _; (with_reducible repeat (first | refine blk_drewN ?_ _ | refine blk_drew ?_ | refine blk_alloc ?_ _)); refine blk_far ?_ NB290_292.out _; (with_reducible repeat (first | refine blk_drewN ?_ _ | refine blk_drew ?_ | refine blk_alloc ?_ _)); exact BK290.out) hb); have n1_ := Aside0.mk (blk_below (g := gb291) (o := .cells #[.int .i64 (Int.tmod (Go.bits .and .i64 a0_3 65535) (wrap64 (1 + (Go.bits .and .i64 a0_8 32767)))), .bool a0_4] 25 (0, 0)) (by (with_reducible repeat (first | refine blk_drewN ?_ _ | refine blk_drew ?_ | refine blk_alloc ?_ _)); refine blk_far ?_ NB291_292.out _; (with_reducible repeat (first | refine blk_drewN ?_ _ | refine blk_drew ?_ | refine blk_alloc ?_ _)); refine blk_far ?_ NB291_292.out _; (with_reducible repeat (first | refine blk_drewN ?_ _ | refine blk_drew ?_ | refine blk_alloc ?_ _)); exact BK291.out) hb); have n2_ := Aside0.mk (blk_below (g := gb292) (o := .cells #[.int .i64 (Int.tmod (Go.bits .and .i64 a0_5 65535) (wrap64 (1 + (Go.bits .and .i64 a0_8 32767)))), .bool a0_6] 25 (0, 0)) (by (with_reducible repeat (first | refine blk_drewN ?_ _ | refine blk_drew ?_ | refine blk_alloc ?_ _)); refine blk_put (cs := #[.int .i64 (Int.tmod (Go.bits .and .i64 a0_5 65535) (wrap64 (1 + (Go.bits .and .i64 a0_8 32767)))), .bool false]) ?_ 1 _ rfl; (with_reducible repeat (first | refine blk_drewN ?_ _ | refine blk_drew ?_ | refine blk_alloc ?_ _)); refine blk_put (cs := #[.int .i64 0, .bool false]) ?_ 0 _ rfl; (with_reducible repeat (first | refine blk_drewN ?_ _ | refine blk_drew ?_ | refine blk_alloc ?_ _)); exact BK292.out) hb); have n3_ := Aside0.mk (below_step (by repeat (first | (with_reducible first | exact HB.out | apply below_alloc | apply pw_below_drewN | apply below_drew1 | refine below_set ?_ GE290.out | refine below_set ?_ GE291.out | refine below_set ?_ GE292.out) | exact HB.out)) hb); clear BK290; clear BK291; clear BK292; clear HB; have BK290 := n0_; have BK291 := n1_; have BK292 := n2_; have HB := n3_; clear n0_ n1_ n2_ n3_; (try clear hb); (try clear hb2); (try clear hk); (try clear hi); have hcz84_0 : w83.cell? ⟨gb292, 0, none⟩ = some (.int .i64 (Int.tmod (Go.bits .and .i64 a0_5 65535) (wrap64 (1 + (Go.bits .and .i64 a0_8 32767))))) := (blk_cell BK292.out 0).trans rfl; have hcz84_1 : w83.cell? ⟨gb292, 1, none⟩ = some (.bool a0_6) := (blk_cell BK292.out 1).trans rfl; have hfz84_0 := blk_frozen BK292.out 0; have hfz84_1 := blk_frozen BK292.out 1; have hcz85_0 : w83.cell? ⟨gb291, 0, none⟩ = some (.int .i64 (Int.tmod (Go.bits .and .i64 a0_3 65535) (wrap64 (1 + (Go.bits .and .i64 a0_8 32767))))) := (blk_cell BK291.out 0).trans rfl; have hcz85_1 : w83.cell? ⟨gb291, 1, none⟩ = some (.bool a0_4) := (blk_cell BK291.out 1).trans rfl; have hfz85_0 := blk_frozen BK291.out 0; have hfz85_1 := blk_frozen BK291.out 1) | ((with_reducible refine gate_callee (f := 12) rfl ?_); refine goesL_ (some 45) rfl rfl Try.func12 (by kernel_rfl) rfl #[.agg #[.int .i64 (Int.tmod (Go.bits .and .i64 a0_5 65535) (wrap64 (1 + (Go.bits .and .i64 a0_8 32767)))), .bool a0_6], .agg #[.int .i64 (Int.tmod (Go.bits .and .i64 a0_3 65535) (wrap64 (1 + (Go.bits .and .i64 a0_8 32767)))), .bool a0_4], .int .i64 (wrap64 (1 + (Go.bits .and .i64 a0_8 32767)))] rfl (by (try simp only [List.map_toArray, List.map_cons, List.map_nil]); first | done | rfl | (simp only [List.length_drop, List.length_take]; rfl)) ?_; (with_reducible refine (spot_Gap.calls k (Int.tmod (Go.bits .and .i64 a0_5 65535) (wrap64 (1 + (Go.bits .and .i64 a0_8 32767)))) a0_6 (Int.tmod (Go.bits .and .i64 a0_3 65535) (wrap64 (1 + (Go.bits .and .i64 a0_8 32767)))) a0_4 (wrap64 (1 + (Go.bits .and .i64 a0_8 32767))) t295 t296 _ A4.out).mono ?_); rintro e w86 ⟨rfl, hb⟩; refine ⟨_, rfl, ?_⟩; have n0_ := Aside0.mk (blk_below (g := gb290) (o := .cells #[.int .i64 a0_0, .bool a0_1, .int .i64 a0_2, .int .i64 a0_3, .bool a0_4, .int .i64 a0_5, .bool a0_6, .int .i64 a0_7, .int .i64 a0_8] 27 (0, 0)) (by (with_reducible repeat (first | refine blk_drewN ?_ _ | refine blk_drew ?_ | refine blk_alloc ?_ _)); exact BK290.out) hb); have n1_ := Aside0.mk (blk_below (g := gb291) (o := .cells #[.int .i64 (Int.tmod (Go.bits .and .i64 a0_3 65535) (wrap64 (1 + (Go.bits .and .i64 a0_8 32767)))), .bool a0_4] 25 (0, 0)) (by (with_reducible repeat (first | refine blk_drewN ?_ _ | refine blk_drew ?_ | refine blk_alloc ?_ _)); exact BK291.out) hb); have n2_ := Aside0.mk (blk_below (g := gb292) (o := .cells #[.int .i64 (Int.tmod (Go.bits .and .i64 a0_5 65535) (wrap64 (1 + (Go.bits .and .i64 a0_8 32767)))), .bool a0_6] 25 (0, 0)) (by (with_reducible repeat (first | refine blk_drewN ?_ _ | refine blk_drew ?_ | refine blk_alloc ?_ _)); exact BK292.out) hb); have n3_ := Aside0.mk (below_step (by repeat (first | (with_reducible first | exact HB.out | apply below_alloc | apply pw_below_drewN | apply below_drew1 | refine below_set ?_ GE290.out | refine below_set ?_ GE291.out | refine below_set ?_ GE292.out) | exact HB.out)) hb); clear BK290; clear BK291; clear BK292; clear HB; have BK290 := n0_; have BK291 := n1_; have BK292 := n2_; have HB := n3_; clear n0_ n1_ n2_ n3_; (try clear hb); (try clear hb2); (try clear hk); (try clear hi); have hcz87_0 : w86.cell? ⟨gb291, 0, none⟩ = some (.int .i64 (Int.tmod (Go.bits .and .i64 a0_3 65535) (wrap64 (1 + (Go.bits .and .i64 a0_8 32767))))) := (blk_cell BK291.out 0).trans rfl; have hcz87_1 : w86.cell? ⟨gb291, 1, none⟩ = some (.bool a0_4) := (blk_cell BK291.out 1).trans rfl; have hfz87_0 := blk_frozen BK291.out 0; have hfz87_1 := blk_frozen BK291.out 1; have hcz88_0 : w86.cell? ⟨gb292, 0, none⟩ = some (.int .i64 (Int.tmod (Go.bits .and .i64 a0_5 65535) (wrap64 (1 + (Go.bits .and .i64 a0_8 32767))))) := (blk_cell BK292.out 0).trans rfl; have hcz88_1 : w86.cell? ⟨gb292, 1, none⟩ = some (.bool a0_6) := (blk_cell BK292.out 1).trans rfl; have hfz88_0 := blk_frozen BK292.out 0; have hfz88_1 := blk_frozen BK292.out 1) | (go_at_call 14; (with_reducible refine (aqueductlaw13_fixed.calls k  t299 _ A66.out).mono ?_); rintro e w89 ⟨rfl, hb⟩; have n0_ := Aside0.mk (blk_below (g := gb290) (o := .cells #[.int .i64 a0_0, .bool a0_1, .int .i64 a0_2, .int .i64 a0_3, .bool a0_4, .int .i64 a0_5, .bool a0_6, .int .i64 a0_7, .int .i64 a0_8] 27 (0, 0)) (by (with_reducible repeat (first | refine blk_drewN ?_ _ | refine blk_drew ?_ | refine blk_alloc ?_ _)); exact BK290.out) hb); have n1_ := Aside0.mk (blk_below (g := gb291) (o := .cells #[.int .i64 (Int.tmod (Go.bits .and .i64 a0_3 65535) (wrap64 (1 + (Go.bits .and .i64 a0_8 32767)))), .bool a0_4] 25 (0, 0)) (by (with_reducible repeat (first | refine blk_drewN ?_ _ | refine blk_drew ?_ | refine blk_alloc ?_ _)); exact BK291.out) hb); have n2_ := Aside0.mk (blk_below (g := gb292) (o := .cells #[.int .i64 (Int.tmod (Go.bits .and .i64 a0_5 65535) (wrap64 (1 + (Go.bits .and .i64 a0_8 32767)))), .bool a0_6] 25 (0, 0)) (by (with_reducible repeat (first | refine blk_drewN ?_ _ | refine blk_drew ?_ | refine blk_alloc ?_ _)); exact BK292.out) hb); have n3_ := Aside0.mk (below_step (by repeat (first | (with_reducible first | exact HB.out | apply below_alloc | apply pw_below_drewN | apply below_drew1 | refine below_set ?_ GE290.out | refine below_set ?_ GE291.out | refine below_set ?_ GE292.out) | exact HB.out)) hb); clear BK290; clear BK291; clear BK292; clear HB; have BK290 := n0_; have BK291 := n1_; have BK292 := n2_; have HB := n3_; clear n0_ n1_ n2_ n3_; (try clear hb); (try clear hb2); (try clear hk); (try clear hi)))
                    go_ret
                    exact ⟨by first | rfl | (simp [errW_none, errW_some] <;> rfl) | (simp [*, errW_none, errW_some] <;> rfl) | (exfalso; simp_all), by repeat (first | (with_reducible first | exact HB.out | apply below_alloc | apply pw_below_drewN | apply below_drew1 | refine below_set ?_ GE290.out | refine below_set ?_ GE291.out | refine below_set ?_ GE292.out) | exact HB.out)⟩
                  · rw [if_neg c65] at H
                    have c65b0 : decide (0 < t295) = false := decide_eq_false c65
                    clear c65
                    obtain rfl := Option.some.inj H
                    exact absurd HR_.out (by decide)
                · rw [if_neg c64] at H
                  have c64b0 : decide (0 < t293) = false := decide_eq_false c64
                  clear c64
                  obtain rfl := Option.some.inj H
                  exact absurd HR_.out (by decide)
              · rw [if_neg c63] at H
                have c63b0 : ((wrap64 (t293 + t295)) == (wrap64 (2 * (wrap64 (1 + (Go.bits .and .i64 a0_8 32767)))))) = false := beq_eq_false_iff_ne.mpr c63
                have c63b1 : ((wrap64 (t293 + t295)) != (wrap64 (2 * (wrap64 (1 + (Go.bits .and .i64 a0_8 32767)))))) = true := bne_iff_ne.mpr c63
                obtain rfl := Option.some.inj H
                exact absurd HR_.out (by decide)
            · rw [if_neg c62] at H
              have c62b0 : (!((Int.tmod (Go.bits .and .i64 a0_3 65535) (wrap64 (1 + (Go.bits .and .i64 a0_8 32767)))) == (Int.tmod (Go.bits .and .i64 a0_5 65535) (wrap64 (1 + (Go.bits .and .i64 a0_8 32767))))) || (!(a0_4 == a0_6))) = false := by simpa using c62
              clear c62
              obtain rfl := Option.some.inj H
              exact absurd HR_.out (by decide)
        · rw [if_neg c7] at H
          have c7b0 : ((Int.tmod (Go.bits .and .i64 a0_3 65535) (wrap64 (1 + (Go.bits .and .i64 a0_8 32767)))) == (Int.tmod (Go.bits .and .i64 a0_5 65535) (wrap64 (1 + (Go.bits .and .i64 a0_8 32767)))) && (a0_4 == a0_6)) = false := by simpa using c7
          (try (have c7b1 : decide ((Int.tmod (Go.bits .and .i64 a0_3 65535) (wrap64 (1 + (Go.bits .and .i64 a0_8 32767)))) = (Int.tmod (Go.bits .and .i64 a0_5 65535) (wrap64 (1 + (Go.bits .and .i64 a0_8 32767)))) && (a0_4 == a0_6)) = false := by simpa using c7))
          (try (have c7b2 : ((Int.tmod (Go.bits .and .i64 a0_3 65535) (wrap64 (1 + (Go.bits .and .i64 a0_8 32767)))) == (Int.tmod (Go.bits .and .i64 a0_5 65535) (wrap64 (1 + (Go.bits .and .i64 a0_8 32767)))) && (a0_4 == a0_6)) = false := by simpa using c7))
          (try (have c7b3 : ¬ ((Int.tmod (Go.bits .and .i64 a0_3 65535) (wrap64 (1 + (Go.bits .and .i64 a0_8 32767)))) = (Int.tmod (Go.bits .and .i64 a0_5 65535) (wrap64 (1 + (Go.bits .and .i64 a0_8 32767)))) && (a0_4 == a0_6)) := by simpa using c7))
          clear c7
          by_cases c90 : (!((Int.tmod (Go.bits .and .i64 a0_3 65535) (wrap64 (1 + (Go.bits .and .i64 a0_8 32767)))) == (Int.tmod (Go.bits .and .i64 a0_5 65535) (wrap64 (1 + (Go.bits .and .i64 a0_8 32767))))) || (!(a0_4 == a0_6))) = true
          · rw [if_pos c90] at H
            have c90b0 : (!((Int.tmod (Go.bits .and .i64 a0_3 65535) (wrap64 (1 + (Go.bits .and .i64 a0_8 32767)))) == (Int.tmod (Go.bits .and .i64 a0_5 65535) (wrap64 (1 + (Go.bits .and .i64 a0_8 32767))))) || (!(a0_4 == a0_6))) = true := c90
            clear c90
            by_cases c91 : (wrap64 (t293 + t295)) = (wrap64 (2 * (wrap64 (1 + (Go.bits .and .i64 a0_8 32767)))))
            · rw [if_pos c91] at H
              have c91b0 : ((wrap64 (t293 + t295)) == (wrap64 (2 * (wrap64 (1 + (Go.bits .and .i64 a0_8 32767)))))) = true := beq_iff_eq.mpr c91
              have c91b1 : ((wrap64 (t293 + t295)) != (wrap64 (2 * (wrap64 (1 + (Go.bits .and .i64 a0_8 32767)))))) = false := bne_eq_false_iff_eq.mpr c91
              clear c91
              by_cases c92 : t293 > 0
              · rw [if_pos c92] at H
                have c92b0 : decide (0 < t293) = true := decide_eq_true c92
                clear c92
                by_cases c93 : t295 > 0
                · rw [if_pos c93] at H
                  have c93b0 : decide (0 < t295) = true := decide_eq_true c93
                  clear c93
                  replace H := Option.bind_eq_some_iff.mp H
                  obtain ⟨t300, A940, H⟩ := H
                  replace H : (some t300) = some r := H
                  have A94 := Aside0.mk A940
                  clear A940
                  obtain rfl := Option.some.inj H
                  go_enter Try.func9, Try.ntmps9
                  try go_wp2_with (first | ((with_reducible refine gate_dst (N := 1) rfl ?_); refine box_event ?hg (N := 1) ?hd (cs := #[.int .i64 a0_0, .bool a0_1, .int .i64 a0_2, .int .i64 a0_3, .bool a0_4, .int .i64 a0_5, .bool a0_6, .int .i64 a0_7, .int .i64 a0_8]) (t := 27) ?hr ?_; (case hd => rfl); (case hg => rfl); (case hr => first | (go_simp; done) | (go_simp; rfl)); intro gb290 hg w95 hbox hb; have n0_ := Aside0.mk (below_step (by repeat (first | (with_reducible first | exact HB.out | apply below_alloc | apply pw_below_drewN | apply below_drew1) | exact HB.out)) hb); have n1_ := Aside0.mk (hbox); have n2_ := Aside0.mk ((by rw [hg]; exact (below_size (by repeat (first | (with_reducible first | exact HB.out | apply below_alloc | apply pw_below_drewN | apply below_drew1) | exact HB.out))) : w.heap.size ≤ gb290)); have n3_ := Aside0.mk ((by rw [hg]; exact (below_size (by repeat (first | (with_reducible first | exact HB.out | apply below_alloc | apply pw_below_drewN | apply below_drew1) | exact HB.out))) : w.heap.size ≤ gb290)); clear HB; have HB := n0_; have BK290 := n1_; have GW290 := n2_; have GE290 := n3_; clear n0_ n1_ n2_ n3_; clear hb hbox hg; have hcz96_0 : w95.cell? ⟨gb290, 0, none⟩ = some (.int .i64 a0_0) := (blk_cell BK290.out 0).trans rfl; have hcz96_1 : w95.cell? ⟨gb290, 1, none⟩ = some (.bool a0_1) := (blk_cell BK290.out 1).trans rfl; have hcz96_2 : w95.cell? ⟨gb290, 2, none⟩ = some (.int .i64 a0_2) := (blk_cell BK290.out 2).trans rfl; have hcz96_3 : w95.cell? ⟨gb290, 3, none⟩ = some (.int .i64 a0_3) := (blk_cell BK290.out 3).trans rfl; have hcz96_4 : w95.cell? ⟨gb290, 4, none⟩ = some (.bool a0_4) := (blk_cell BK290.out 4).trans rfl; have hcz96_5 : w95.cell? ⟨gb290, 5, none⟩ = some (.int .i64 a0_5) := (blk_cell BK290.out 5).trans rfl; have hcz96_6 : w95.cell? ⟨gb290, 6, none⟩ = some (.bool a0_6) := (blk_cell BK290.out 6).trans rfl; have hcz96_7 : w95.cell? ⟨gb290, 7, none⟩ = some (.int .i64 a0_7) := (blk_cell BK290.out 7).trans rfl; have hcz96_8 : w95.cell? ⟨gb290, 8, none⟩ = some (.int .i64 a0_8) := (blk_cell BK290.out 8).trans rfl; have hfz96_0 := blk_frozen BK290.out 0; have hfz96_1 := blk_frozen BK290.out 1; have hfz96_2 := blk_frozen BK290.out 2; have hfz96_3 := blk_frozen BK290.out 3; have hfz96_4 := blk_frozen BK290.out 4; have hfz96_5 := blk_frozen BK290.out 5; have hfz96_6 := blk_frozen BK290.out 6; have hfz96_7 := blk_frozen BK290.out 7; have hfz96_8 := blk_frozen BK290.out 8))
                  have n0_ := Aside0.mk (blk_drew BK290.out)
                  have n1_ := Aside0.mk (below_drew1 HB.out)
                  clear BK290
                  clear HB
                  have BK290 := n0_
                  have HB := n1_
                  clear n0_ n1_
                  refine start_ (n := 12) (S := fun w' => w'.cell? ⟨gb290, 0, none⟩ = some (.int .i64 a0_0) ∧ w'.cell? ⟨gb290, 1, none⟩ = some (.bool a0_1) ∧ w'.cell? ⟨gb290, 2, none⟩ = some (.int .i64 a0_2) ∧ w'.cell? ⟨gb290, 3, none⟩ = some (.int .i64 a0_3) ∧ w'.cell? ⟨gb290, 4, none⟩ = some (.bool a0_4) ∧ w'.cell? ⟨gb290, 5, none⟩ = some (.int .i64 a0_5) ∧ w'.cell? ⟨gb290, 6, none⟩ = some (.bool a0_6) ∧ w'.cell? ⟨gb290, 7, none⟩ = some (.int .i64 a0_7) ∧ w'.cell? ⟨gb290, 8, none⟩ = some (.int .i64 a0_8)) (ds := []) q25_0 (by kernel_rfl) rfl rfl ⟨(blk_cell BK290.out 0).trans rfl, (blk_cell BK290.out 1).trans rfl, (blk_cell BK290.out 2).trans rfl, (blk_cell BK290.out 3).trans rfl, (blk_cell BK290.out 4).trans rfl, (blk_cell BK290.out 5).trans rfl, (blk_cell BK290.out 6).trans rfl, (blk_cell BK290.out 7).trans rfl, (blk_cell BK290.out 8).trans rfl⟩ (fun hHeld => ?_); refine with_tabW aqueductlaw13_SpotHalves.tab2 aqueductlaw13_SpotHalves.bits2 (fun HT_ HW_ => ?_)
                  generalize w95.drew = w97 at BK290 HB hHeld ⊢
                  refine pure_ (i := 0) (N := some 14) (v := ?_) (a' := ?_) q25_1 rfl rfl (any_of HT_.out (by kernel_rfl)) (fun _ _ _ h => h) (Or.inl ⟨by rfl, ?_⟩) ?_ ?_
                  rotate_left
                  · intro w'
                    go_simp
                    with_reducible rfl
                  rotate_left
                  · simp only [Act.put, List.setIfInBounds_toArray, List.set_cons_zero, List.set_cons_succ, i64_w, i32_w]
                    rfl
                  refine pure_ (i := 1) (N := some 15) (v := ?_) (a' := ?_) q25_2 rfl rfl (any_of HT_.out (by kernel_rfl)) (fun _ _ _ h => h) (Or.inl ⟨by rfl, ?_⟩) ?_ ?_
                  rotate_left
                  · intro w'
                    go_simp
                    with_reducible rfl
                  rotate_left
                  · simp only [Act.put, List.setIfInBounds_toArray, List.set_cons_zero, List.set_cons_succ, i64_w, i32_w]
                    rfl
                  refine pure_ (i := 4) (N := some 18) (v := ?_) (a' := ?_) q25_3 rfl rfl (any_of HT_.out (by kernel_rfl)) (fun _ _ _ h => h) (Or.inl ⟨by rfl, ?_⟩) ?_ ?_
                  rotate_left
                  · intro w'
                    go_simp
                    with_reducible rfl
                  rotate_left
                  · simp only [Act.put, List.setIfInBounds_toArray, List.set_cons_zero, List.set_cons_succ, i64_w, i32_w]
                    rfl
                  refine pure_ (i := 6) (N := some 20) (v := ?_) (a' := ?_) q25_4 rfl rfl (any_of HT_.out (by kernel_rfl)) (fun _ _ _ h => h) (Or.inl ⟨by rfl, ?_⟩) ?_ ?_
                  rotate_left
                  · intro w'
                    go_simp
                    with_reducible rfl
                  rotate_left
                  · simp only [Act.put, List.setIfInBounds_toArray, List.set_cons_zero, List.set_cons_succ, i64_w, i32_w]
                    rfl
                  refine pure_ (i := 7) (N := some 21) (v := ?_) (a' := ?_) q25_5 rfl rfl (any_of HT_.out (by kernel_rfl)) (fun _ _ _ h => h) (Or.inl ⟨by rfl, ?_⟩) ?_ ?_
                  rotate_left
                  · intro w'
                    go_simp
                    with_reducible rfl
                  rotate_left
                  · simp only [Act.put, List.setIfInBounds_toArray, List.set_cons_zero, List.set_cons_succ, i64_w, i32_w]
                    rfl
                  refine take_ (i := 2) (N := some 16) (v := ?_) (a' := ?_) q25_6 rfl rfl (take_ofW HT_.out HW_.out (by kernel_rfl)) (fun _ _ _ h => h) (Or.inl ⟨by rfl, ?_⟩) hHeld ?_ ?_
                  rotate_left
                  · rintro w' ⟨s0, s1, s2, s3, s4, s5, s6, s7, s8⟩
                    go_simp
                    with_reducible rfl
                  rotate_left
                  · simp only [Act.put, List.setIfInBounds_toArray, List.set_cons_zero, List.set_cons_succ, i64_w, i32_w]
                    rfl
                  refine pure_ (i := 3) (N := some 17) (v := ?_) (a' := ?_) q25_7 rfl rfl (any_of HT_.out (by kernel_rfl)) (fun _ _ _ h => h) (Or.inl ⟨by rfl, ?_⟩) ?_ ?_
                  rotate_left
                  · intro w'
                    go_simp
                    with_reducible rfl
                  rotate_left
                  · simp only [Act.put, List.setIfInBounds_toArray, List.set_cons_zero, List.set_cons_succ, i64_w, i32_w]
                    rfl
                  refine pure_ (i := 5) (N := some 19) (v := ?_) (a' := ?_) q25_8 rfl rfl (any_of HT_.out (by kernel_rfl)) (fun _ _ _ h => h) (Or.inl ⟨by rfl, ?_⟩) ?_ ?_
                  rotate_left
                  · intro w'
                    go_simp
                    with_reducible rfl
                  rotate_left
                  · simp only [Act.put, List.setIfInBounds_toArray, List.set_cons_zero, List.set_cons_succ, i64_w, i32_w]
                    rfl
                  refine take_ (i := 8) (N := some 22) (v := ?_) (a' := ?_) q25_9 rfl rfl (take_ofW HT_.out HW_.out (by kernel_rfl)) (fun _ _ _ h => h) (Or.inl ⟨by rfl, ?_⟩) hHeld ?_ ?_
                  rotate_left
                  · rintro w' ⟨s0, s1, s2, s3, s4, s5, s6, s7, s8⟩
                    go_simp
                    with_reducible rfl
                  rotate_left
                  · simp only [Act.put, List.setIfInBounds_toArray, List.set_cons_zero, List.set_cons_succ, i64_w, i32_w]
                    rfl
                  refine pure_ (i := 9) (N := some 23) (v := ?_) (a' := ?_) q25_10 rfl rfl (any_of HT_.out (by kernel_rfl)) (fun _ _ _ h => h) (Or.inl ⟨by rfl, ?_⟩) ?_ ?_
                  rotate_left
                  · intro w'
                    go_simp
                    with_reducible rfl
                  rotate_left
                  · simp only [Act.put, List.setIfInBounds_toArray, List.set_cons_zero, List.set_cons_succ, i64_w, i32_w]
                    rfl
                  refine one_ (i := 10) (N := some 4) q25_11 rfl rfl (one_of HT_.out (by kernel_rfl)) (by decide) (fun K hK => ?_)
                  refine box_step ?hg (N := 4) ?hd (cs := #[.int .i64 0, .bool false]) (t := 25) ?hr ?_; (case hd => rfl); (case hg => rfl); (case hr => first | (go_simp; done) | (go_simp; rfl))
                  intro gb291 hg w98 hbox hb
                  have n0_ := Aside0.mk (blk_below (g := gb290) (o := .cells #[.int .i64 a0_0, .bool a0_1, .int .i64 a0_2, .int .i64 a0_3, .bool a0_4, .int .i64 a0_5, .bool a0_6, .int .i64 a0_7, .int .i64 a0_8] 27 (0, 0)) (by (with_reducible repeat (first | refine blk_drewN ?_ _ | refine blk_drew ?_ | refine blk_alloc ?_ _)); exact BK290.out) hb)
                  have n1_ := Aside0.mk (below_step (by repeat (first | (with_reducible first | exact HB.out | apply below_alloc | apply pw_below_drewN | apply below_drew1 | refine below_set ?_ GE290.out) | exact HB.out)) hb)
                  have n2_ := Aside0.mk (hbox)
                  have n3_ := Aside0.mk ((by rw [hg]; exact (below_size (by repeat (first | (with_reducible first | exact HB.out | apply below_alloc | apply pw_below_drewN | apply below_drew1 | refine below_set ?_ GE290.out) | exact HB.out))) : w.heap.size ≤ gb291))
                  have n4_ := Aside0.mk ((by rw [hg]; exact (below_size (by repeat (first | (with_reducible first | exact HB.out | apply below_alloc | apply pw_below_drewN | apply below_drew1 | refine below_set ?_ GE290.out) | exact HB.out))) : w.heap.size ≤ gb291))
                  have n5_ := Aside0.mk ((by rw [hg]; exact Nat.ne_of_lt (blk_lt (g := gb290) (o := .cells #[.int .i64 a0_0, .bool a0_1, .int .i64 a0_2, .int .i64 a0_3, .bool a0_4, .int .i64 a0_5, .bool a0_6, .int .i64 a0_7, .int .i64 a0_8] 27 (0, 0)) (by (with_reducible repeat (first | refine blk_drewN ?_ _ | refine blk_drew ?_ | refine blk_alloc ?_ _)); exact BK290.out)) : gb290 ≠ gb291))
                  have n6_ := Aside0.mk ((by rw [hg]; exact Nat.ne_of_gt (blk_lt (g := gb290) (o := .cells #[.int .i64 a0_0, .bool a0_1, .int .i64 a0_2, .int .i64 a0_3, .bool a0_4, .int .i64 a0_5, .bool a0_6, .int .i64 a0_7, .int .i64 a0_8] 27 (0, 0)) (by (with_reducible repeat (first | refine blk_drewN ?_ _ | refine blk_drew ?_ | refine blk_alloc ?_ _)); exact BK290.out)) : gb291 ≠ gb290))
                  clear BK290
                  clear HB
                  have BK290 := n0_
                  have HB := n1_
                  have BK291 := n2_
                  have GW291 := n3_
                  have GE291 := n4_
                  have NB290_291 := n5_
                  have NB291_290 := n6_
                  clear n0_ n1_ n2_ n3_ n4_ n5_ n6_
                  clear hb hbox hg
                  refine hK.out _ _ ⟨(blk_cell BK290.out 0).trans rfl, (blk_cell BK290.out 1).trans rfl, (blk_cell BK290.out 2).trans rfl, (blk_cell BK290.out 3).trans rfl, (blk_cell BK290.out 4).trans rfl, (blk_cell BK290.out 5).trans rfl, (blk_cell BK290.out 6).trans rfl, (blk_cell BK290.out 7).trans rfl, (blk_cell BK290.out 8).trans rfl⟩ (fun hHeld => ?_)
                  clear hK K
                  refine norm_ (a' := ?_) ?_ ?_
                  rotate_left
                  · show Act.put _ (some 4) _ = _
                    simp only [Act.put, List.setIfInBounds_toArray, List.set_cons_zero, List.set_cons_succ, i64_w, i32_w]
                    rfl
                  refine one_ (i := 11) (N := none) q25_12 rfl rfl (one_of HT_.out (by kernel_rfl)) (by decide) (fun K hK => ?_)
                  have hs99 : w98.cell? ⟨gb291, 0, none⟩ = some (.int .i64 0) := (blk_cell BK291.out 0).trans rfl
                  have hfs99 := blk_frozen BK291.out 0
                  have hns99_0 := NB290_291.out
                  have hms99_0 := NB291_290.out
                  have hs100 : w98.cell? ⟨gb291, 1, none⟩ = some (.bool false) := (blk_cell BK291.out 1).trans rfl
                  have hfs100 := blk_frozen BK291.out 1
                  have hns100_0 := NB290_291.out
                  have hms100_0 := NB291_290.out
                  refine skip_ (w1 := ?_) (by rfl) rfl ?_ ?_
                  rotate_left
                  · go_simp
                    rfl
                  refine hK.out _ _ ⟨((cell_far (p := ⟨gb291, _, none⟩) NB290_291.out _).trans (((cell_far (p := ⟨gb291, _, none⟩) NB290_291.out _).trans (hHeld.1)))), ((cell_far (p := ⟨gb291, _, none⟩) NB290_291.out _).trans (((cell_far (p := ⟨gb291, _, none⟩) NB290_291.out _).trans (hHeld.2.1)))), ((cell_far (p := ⟨gb291, _, none⟩) NB290_291.out _).trans (((cell_far (p := ⟨gb291, _, none⟩) NB290_291.out _).trans (hHeld.2.2.1)))), ((cell_far (p := ⟨gb291, _, none⟩) NB290_291.out _).trans (((cell_far (p := ⟨gb291, _, none⟩) NB290_291.out _).trans (hHeld.2.2.2.1)))), ((cell_far (p := ⟨gb291, _, none⟩) NB290_291.out _).trans (((cell_far (p := ⟨gb291, _, none⟩) NB290_291.out _).trans (hHeld.2.2.2.2.1)))), ((cell_far (p := ⟨gb291, _, none⟩) NB290_291.out _).trans (((cell_far (p := ⟨gb291, _, none⟩) NB290_291.out _).trans (hHeld.2.2.2.2.2.1)))), ((cell_far (p := ⟨gb291, _, none⟩) NB290_291.out _).trans (((cell_far (p := ⟨gb291, _, none⟩) NB290_291.out _).trans (hHeld.2.2.2.2.2.2.1)))), ((cell_far (p := ⟨gb291, _, none⟩) NB290_291.out _).trans (((cell_far (p := ⟨gb291, _, none⟩) NB290_291.out _).trans (hHeld.2.2.2.2.2.2.2.1)))), ((cell_far (p := ⟨gb291, _, none⟩) NB290_291.out _).trans (((cell_far (p := ⟨gb291, _, none⟩) NB290_291.out _).trans (hHeld.2.2.2.2.2.2.2.2))))⟩ (fun hHeld => ?_)
                  clear hK K
                  refine done_ (done_of HT_.out (by kernel_rfl)) ?_
                  try go_wp2
                  have n0_ : Aside0 (((w98.setCell ⟨gb291, 0, none⟩ (.int .i64 (Int.tmod (Go.bits .and .i64 a0_3 65535) (wrap64 (1 + (Go.bits .and .i64 a0_8 32767)))))).setCell ⟨gb291, 1, none⟩ (.bool a0_4)).heap[gb290]? = some (.cells #[.int .i64 a0_0, .bool a0_1, .int .i64 a0_2, .int .i64 a0_3, .bool a0_4, .int .i64 a0_5, .bool a0_6, .int .i64 a0_7, .int .i64 a0_8] 27 (0, 0))) := ⟨by (with_reducible repeat (first | refine blk_drewN ?_ _ | refine blk_drew ?_ | refine blk_alloc ?_ _)); refine blk_far ?_ NB290_291.out _; (with_reducible repeat (first | refine blk_drewN ?_ _ | refine blk_drew ?_ | refine blk_alloc ?_ _)); refine blk_far ?_ NB290_291.out _; (with_reducible repeat (first | refine blk_drewN ?_ _ | refine blk_drew ?_ | refine blk_alloc ?_ _)); exact BK290.out⟩
                  have n1_ : Aside0 (((w98.setCell ⟨gb291, 0, none⟩ (.int .i64 (Int.tmod (Go.bits .and .i64 a0_3 65535) (wrap64 (1 + (Go.bits .and .i64 a0_8 32767)))))).setCell ⟨gb291, 1, none⟩ (.bool a0_4)).heap[gb291]? = some (.cells #[.int .i64 (Int.tmod (Go.bits .and .i64 a0_3 65535) (wrap64 (1 + (Go.bits .and .i64 a0_8 32767)))), .bool a0_4] 25 (0, 0))) := ⟨by (with_reducible repeat (first | refine blk_drewN ?_ _ | refine blk_drew ?_ | refine blk_alloc ?_ _)); refine blk_put (cs := #[.int .i64 (Int.tmod (Go.bits .and .i64 a0_3 65535) (wrap64 (1 + (Go.bits .and .i64 a0_8 32767)))), .bool false]) ?_ 1 _ rfl; (with_reducible repeat (first | refine blk_drewN ?_ _ | refine blk_drew ?_ | refine blk_alloc ?_ _)); refine blk_put (cs := #[.int .i64 0, .bool false]) ?_ 0 _ rfl; (with_reducible repeat (first | refine blk_drewN ?_ _ | refine blk_drew ?_ | refine blk_alloc ?_ _)); exact BK291.out⟩
                  have n2_ : Aside0 (Below w.heap.size w ((w98.setCell ⟨gb291, 0, none⟩ (.int .i64 (Int.tmod (Go.bits .and .i64 a0_3 65535) (wrap64 (1 + (Go.bits .and .i64 a0_8 32767)))))).setCell ⟨gb291, 1, none⟩ (.bool a0_4))) := ⟨by repeat (first | (with_reducible first | exact HB.out | apply below_alloc | apply pw_below_drewN | apply below_drew1 | refine below_set ?_ GE290.out | refine below_set ?_ GE291.out) | exact HB.out)⟩
                  (try clear BK290)
                  (try clear BK291)
                  (try clear HB)
                  generalize ((w98.setCell ⟨gb291, 0, none⟩ (.int .i64 (Int.tmod (Go.bits .and .i64 a0_3 65535) (wrap64 (1 + (Go.bits .and .i64 a0_8 32767)))))).setCell ⟨gb291, 1, none⟩ (.bool a0_4)) = w101 at n0_ n1_ n2_ ⊢
                  have BK290 := n0_
                  have BK291 := n1_
                  have HB := n2_
                  clear n0_ n1_ n2_
                  have n0_ := Aside0.mk (blk_drew BK290.out)
                  have n1_ := Aside0.mk (blk_drew BK291.out)
                  have n2_ := Aside0.mk (below_drew1 HB.out)
                  clear BK290
                  clear BK291
                  clear HB
                  have BK290 := n0_
                  have BK291 := n1_
                  have HB := n2_
                  clear n0_ n1_ n2_
                  refine start_ (n := 12) (S := fun w' => w'.cell? ⟨gb290, 0, none⟩ = some (.int .i64 a0_0) ∧ w'.cell? ⟨gb290, 1, none⟩ = some (.bool a0_1) ∧ w'.cell? ⟨gb290, 2, none⟩ = some (.int .i64 a0_2) ∧ w'.cell? ⟨gb290, 3, none⟩ = some (.int .i64 a0_3) ∧ w'.cell? ⟨gb290, 4, none⟩ = some (.bool a0_4) ∧ w'.cell? ⟨gb290, 5, none⟩ = some (.int .i64 a0_5) ∧ w'.cell? ⟨gb290, 6, none⟩ = some (.bool a0_6) ∧ w'.cell? ⟨gb290, 7, none⟩ = some (.int .i64 a0_7) ∧ w'.cell? ⟨gb290, 8, none⟩ = some (.int .i64 a0_8)) (ds := []) q25_0 (by kernel_rfl) rfl rfl ⟨(blk_cell BK290.out 0).trans rfl, (blk_cell BK290.out 1).trans rfl, (blk_cell BK290.out 2).trans rfl, (blk_cell BK290.out 3).trans rfl, (blk_cell BK290.out 4).trans rfl, (blk_cell BK290.out 5).trans rfl, (blk_cell BK290.out 6).trans rfl, (blk_cell BK290.out 7).trans rfl, (blk_cell BK290.out 8).trans rfl⟩ (fun hHeld => ?_); refine with_tabW aqueductlaw13_SpotHalves.tab3 aqueductlaw13_SpotHalves.bits3 (fun HT_ HW_ => ?_)
                  generalize w101.drew = w102 at BK290 BK291 HB hHeld ⊢
                  refine pure_ (i := 0) (N := some 24) (v := ?_) (a' := ?_) q25_1 rfl rfl (any_of HT_.out (by kernel_rfl)) (fun _ _ _ h => h) (Or.inl ⟨by rfl, ?_⟩) ?_ ?_
                  rotate_left
                  · intro w'
                    go_simp
                    with_reducible rfl
                  rotate_left
                  · simp only [Act.put, List.setIfInBounds_toArray, List.set_cons_zero, List.set_cons_succ, i64_w, i32_w]
                    rfl
                  refine pure_ (i := 1) (N := some 25) (v := ?_) (a' := ?_) q25_2 rfl rfl (any_of HT_.out (by kernel_rfl)) (fun _ _ _ h => h) (Or.inl ⟨by rfl, ?_⟩) ?_ ?_
                  rotate_left
                  · intro w'
                    go_simp
                    with_reducible rfl
                  rotate_left
                  · simp only [Act.put, List.setIfInBounds_toArray, List.set_cons_zero, List.set_cons_succ, i64_w, i32_w]
                    rfl
                  refine pure_ (i := 4) (N := some 28) (v := ?_) (a' := ?_) q25_3 rfl rfl (any_of HT_.out (by kernel_rfl)) (fun _ _ _ h => h) (Or.inl ⟨by rfl, ?_⟩) ?_ ?_
                  rotate_left
                  · intro w'
                    go_simp
                    with_reducible rfl
                  rotate_left
                  · simp only [Act.put, List.setIfInBounds_toArray, List.set_cons_zero, List.set_cons_succ, i64_w, i32_w]
                    rfl
                  refine pure_ (i := 6) (N := some 30) (v := ?_) (a' := ?_) q25_4 rfl rfl (any_of HT_.out (by kernel_rfl)) (fun _ _ _ h => h) (Or.inl ⟨by rfl, ?_⟩) ?_ ?_
                  rotate_left
                  · intro w'
                    go_simp
                    with_reducible rfl
                  rotate_left
                  · simp only [Act.put, List.setIfInBounds_toArray, List.set_cons_zero, List.set_cons_succ, i64_w, i32_w]
                    rfl
                  refine pure_ (i := 7) (N := some 31) (v := ?_) (a' := ?_) q25_5 rfl rfl (any_of HT_.out (by kernel_rfl)) (fun _ _ _ h => h) (Or.inl ⟨by rfl, ?_⟩) ?_ ?_
                  rotate_left
                  · intro w'
                    go_simp
                    with_reducible rfl
                  rotate_left
                  · simp only [Act.put, List.setIfInBounds_toArray, List.set_cons_zero, List.set_cons_succ, i64_w, i32_w]
                    rfl
                  refine take_ (i := 2) (N := some 26) (v := ?_) (a' := ?_) q25_6 rfl rfl (take_ofW HT_.out HW_.out (by kernel_rfl)) (fun _ _ _ h => h) (Or.inl ⟨by rfl, ?_⟩) hHeld ?_ ?_
                  rotate_left
                  · rintro w' ⟨s0, s1, s2, s3, s4, s5, s6, s7, s8⟩
                    go_simp
                    with_reducible rfl
                  rotate_left
                  · simp only [Act.put, List.setIfInBounds_toArray, List.set_cons_zero, List.set_cons_succ, i64_w, i32_w]
                    rfl
                  refine pure_ (i := 3) (N := some 27) (v := ?_) (a' := ?_) q25_7 rfl rfl (any_of HT_.out (by kernel_rfl)) (fun _ _ _ h => h) (Or.inl ⟨by rfl, ?_⟩) ?_ ?_
                  rotate_left
                  · intro w'
                    go_simp
                    with_reducible rfl
                  rotate_left
                  · simp only [Act.put, List.setIfInBounds_toArray, List.set_cons_zero, List.set_cons_succ, i64_w, i32_w]
                    rfl
                  refine pure_ (i := 5) (N := some 29) (v := ?_) (a' := ?_) q25_8 rfl rfl (any_of HT_.out (by kernel_rfl)) (fun _ _ _ h => h) (Or.inl ⟨by rfl, ?_⟩) ?_ ?_
                  rotate_left
                  · intro w'
                    go_simp
                    with_reducible rfl
                  rotate_left
                  · simp only [Act.put, List.setIfInBounds_toArray, List.set_cons_zero, List.set_cons_succ, i64_w, i32_w]
                    rfl
                  refine take_ (i := 8) (N := some 32) (v := ?_) (a' := ?_) q25_9 rfl rfl (take_ofW HT_.out HW_.out (by kernel_rfl)) (fun _ _ _ h => h) (Or.inl ⟨by rfl, ?_⟩) hHeld ?_ ?_
                  rotate_left
                  · rintro w' ⟨s0, s1, s2, s3, s4, s5, s6, s7, s8⟩
                    go_simp
                    with_reducible rfl
                  rotate_left
                  · simp only [Act.put, List.setIfInBounds_toArray, List.set_cons_zero, List.set_cons_succ, i64_w, i32_w]
                    rfl
                  refine pure_ (i := 9) (N := some 33) (v := ?_) (a' := ?_) q25_10 rfl rfl (any_of HT_.out (by kernel_rfl)) (fun _ _ _ h => h) (Or.inl ⟨by rfl, ?_⟩) ?_ ?_
                  rotate_left
                  · intro w'
                    go_simp
                    with_reducible rfl
                  rotate_left
                  · simp only [Act.put, List.setIfInBounds_toArray, List.set_cons_zero, List.set_cons_succ, i64_w, i32_w]
                    rfl
                  refine one_ (i := 10) (N := some 5) q25_11 rfl rfl (one_of HT_.out (by kernel_rfl)) (by decide) (fun K hK => ?_)
                  refine box_step ?hg (N := 5) ?hd (cs := #[.int .i64 0, .bool false]) (t := 25) ?hr ?_; (case hd => rfl); (case hg => rfl); (case hr => first | (go_simp; done) | (go_simp; rfl))
                  intro gb292 hg w103 hbox hb
                  have n0_ := Aside0.mk (blk_below (g := gb290) (o := .cells #[.int .i64 a0_0, .bool a0_1, .int .i64 a0_2, .int .i64 a0_3, .bool a0_4, .int .i64 a0_5, .bool a0_6, .int .i64 a0_7, .int .i64 a0_8] 27 (0, 0)) (by (with_reducible repeat (first | refine blk_drewN ?_ _ | refine blk_drew ?_ | refine blk_alloc ?_ _)); exact BK290.out) hb)
                  have n1_ := Aside0.mk (blk_below (g := gb291) (o := .cells #[.int .i64 (Int.tmod (Go.bits .and .i64 a0_3 65535) (wrap64 (1 + (Go.bits .and .i64 a0_8 32767)))), .bool a0_4] 25 (0, 0)) (by (with_reducible repeat (first | refine blk_drewN ?_ _ | refine blk_drew ?_ | refine blk_alloc ?_ _)); exact BK291.out) hb)
                  have n2_ := Aside0.mk (below_step (by repeat (first | (with_reducible first | exact HB.out | apply below_alloc | apply pw_below_drewN | apply below_drew1 | refine below_set ?_ GE290.out | refine below_set ?_ GE291.out) | exact HB.out)) hb)
                  have n3_ := Aside0.mk (hbox)
                  have n4_ := Aside0.mk ((by rw [hg]; exact (below_size (by repeat (first | (with_reducible first | exact HB.out | apply below_alloc | apply pw_below_drewN | apply below_drew1 | refine below_set ?_ GE290.out | refine below_set ?_ GE291.out) | exact HB.out))) : w.heap.size ≤ gb292))
                  have n5_ := Aside0.mk ((by rw [hg]; exact (below_size (by repeat (first | (with_reducible first | exact HB.out | apply below_alloc | apply pw_below_drewN | apply below_drew1 | refine below_set ?_ GE290.out | refine below_set ?_ GE291.out) | exact HB.out))) : w.heap.size ≤ gb292))
                  have n6_ := Aside0.mk ((by rw [hg]; exact Nat.ne_of_lt (blk_lt (g := gb290) (o := .cells #[.int .i64 a0_0, .bool a0_1, .int .i64 a0_2, .int .i64 a0_3, .bool a0_4, .int .i64 a0_5, .bool a0_6, .int .i64 a0_7, .int .i64 a0_8] 27 (0, 0)) (by (with_reducible repeat (first | refine blk_drewN ?_ _ | refine blk_drew ?_ | refine blk_alloc ?_ _)); exact BK290.out)) : gb290 ≠ gb292))
                  have n7_ := Aside0.mk ((by rw [hg]; exact Nat.ne_of_gt (blk_lt (g := gb290) (o := .cells #[.int .i64 a0_0, .bool a0_1, .int .i64 a0_2, .int .i64 a0_3, .bool a0_4, .int .i64 a0_5, .bool a0_6, .int .i64 a0_7, .int .i64 a0_8] 27 (0, 0)) (by (with_reducible repeat (first | refine blk_drewN ?_ _ | refine blk_drew ?_ | refine blk_alloc ?_ _)); exact BK290.out)) : gb292 ≠ gb290))
                  have n8_ := Aside0.mk ((by rw [hg]; exact Nat.ne_of_lt (blk_lt (g := gb291) (o := .cells #[.int .i64 (Int.tmod (Go.bits .and .i64 a0_3 65535) (wrap64 (1 + (Go.bits .and .i64 a0_8 32767)))), .bool a0_4] 25 (0, 0)) (by (with_reducible repeat (first | refine blk_drewN ?_ _ | refine blk_drew ?_ | refine blk_alloc ?_ _)); exact BK291.out)) : gb291 ≠ gb292))
                  have n9_ := Aside0.mk ((by rw [hg]; exact Nat.ne_of_gt (blk_lt (g := gb291) (o := .cells #[.int .i64 (Int.tmod (Go.bits .and .i64 a0_3 65535) (wrap64 (1 + (Go.bits .and .i64 a0_8 32767)))), .bool a0_4] 25 (0, 0)) (by (with_reducible repeat (first | refine blk_drewN ?_ _ | refine blk_drew ?_ | refine blk_alloc ?_ _)); exact BK291.out)) : gb292 ≠ gb291))
                  clear BK290
                  clear BK291
                  clear HB
                  have BK290 := n0_
                  have BK291 := n1_
                  have HB := n2_
                  have BK292 := n3_
                  have GW292 := n4_
                  have GE292 := n5_
                  have NB290_292 := n6_
                  have NB292_290 := n7_
                  have NB291_292 := n8_
                  have NB292_291 := n9_
                  clear n0_ n1_ n2_ n3_ n4_ n5_ n6_ n7_ n8_ n9_
                  clear hb hbox hg
                  refine hK.out _ _ ⟨(blk_cell BK290.out 0).trans rfl, (blk_cell BK290.out 1).trans rfl, (blk_cell BK290.out 2).trans rfl, (blk_cell BK290.out 3).trans rfl, (blk_cell BK290.out 4).trans rfl, (blk_cell BK290.out 5).trans rfl, (blk_cell BK290.out 6).trans rfl, (blk_cell BK290.out 7).trans rfl, (blk_cell BK290.out 8).trans rfl⟩ (fun hHeld => ?_)
                  clear hK K
                  refine norm_ (a' := ?_) ?_ ?_
                  rotate_left
                  · show Act.put _ (some 5) _ = _
                    simp only [Act.put, List.setIfInBounds_toArray, List.set_cons_zero, List.set_cons_succ, i64_w, i32_w]
                    rfl
                  refine one_ (i := 11) (N := none) q25_12 rfl rfl (one_of HT_.out (by kernel_rfl)) (by decide) (fun K hK => ?_)
                  have hs104 : w103.cell? ⟨gb292, 0, none⟩ = some (.int .i64 0) := (blk_cell BK292.out 0).trans rfl
                  have hfs104 := blk_frozen BK292.out 0
                  have hns104_0 := NB290_292.out
                  have hns104_1 := NB291_292.out
                  have hms104_0 := NB292_290.out
                  have hms104_1 := NB292_291.out
                  have hs105 : w103.cell? ⟨gb292, 1, none⟩ = some (.bool false) := (blk_cell BK292.out 1).trans rfl
                  have hfs105 := blk_frozen BK292.out 1
                  have hns105_0 := NB290_292.out
                  have hns105_1 := NB291_292.out
                  have hms105_0 := NB292_290.out
                  have hms105_1 := NB292_291.out
                  refine skip_ (w1 := ?_) (by rfl) rfl ?_ ?_
                  rotate_left
                  · go_simp
                    rfl
                  refine hK.out _ _ ⟨((cell_far (p := ⟨gb292, _, none⟩) NB290_292.out _).trans (((cell_far (p := ⟨gb292, _, none⟩) NB290_292.out _).trans (hHeld.1)))), ((cell_far (p := ⟨gb292, _, none⟩) NB290_292.out _).trans (((cell_far (p := ⟨gb292, _, none⟩) NB290_292.out _).trans (hHeld.2.1)))), ((cell_far (p := ⟨gb292, _, none⟩) NB290_292.out _).trans (((cell_far (p := ⟨gb292, _, none⟩) NB290_292.out _).trans (hHeld.2.2.1)))), ((cell_far (p := ⟨gb292, _, none⟩) NB290_292.out _).trans (((cell_far (p := ⟨gb292, _, none⟩) NB290_292.out _).trans (hHeld.2.2.2.1)))), ((cell_far (p := ⟨gb292, _, none⟩) NB290_292.out _).trans (((cell_far (p := ⟨gb292, _, none⟩) NB290_292.out _).trans (hHeld.2.2.2.2.1)))), ((cell_far (p := ⟨gb292, _, none⟩) NB290_292.out _).trans (((cell_far (p := ⟨gb292, _, none⟩) NB290_292.out _).trans (hHeld.2.2.2.2.2.1)))), ((cell_far (p := ⟨gb292, _, none⟩) NB290_292.out _).trans (((cell_far (p := ⟨gb292, _, none⟩) NB290_292.out _).trans (hHeld.2.2.2.2.2.2.1)))), ((cell_far (p := ⟨gb292, _, none⟩) NB290_292.out _).trans (((cell_far (p := ⟨gb292, _, none⟩) NB290_292.out _).trans (hHeld.2.2.2.2.2.2.2.1)))), ((cell_far (p := ⟨gb292, _, none⟩) NB290_292.out _).trans (((cell_far (p := ⟨gb292, _, none⟩) NB290_292.out _).trans (hHeld.2.2.2.2.2.2.2.2))))⟩ (fun hHeld => ?_)
                  clear hK K
                  refine done_ (done_of HT_.out (by kernel_rfl)) ?_
                  have hnb106 := NB291_290.out
                  have hnc106 := NB290_291.out
                  have hnb107 := NB291_292.out
                  have hnc107 := NB292_291.out
                  have hcz108_0 : w103.cell? ⟨gb291, 0, none⟩ = some (.int .i64 (Int.tmod (Go.bits .and .i64 a0_3 65535) (wrap64 (1 + (Go.bits .and .i64 a0_8 32767))))) := (blk_cell BK291.out 0).trans rfl
                  have hcz108_1 : w103.cell? ⟨gb291, 1, none⟩ = some (.bool a0_4) := (blk_cell BK291.out 1).trans rfl
                  have hfz108_0 := blk_frozen BK291.out 0
                  have hfz108_1 := blk_frozen BK291.out 1
                  have hnb109 := NB292_290.out
                  have hnc109 := NB290_292.out
                  have hcz110_0 : w103.cell? ⟨gb292, 0, none⟩ = some (.int .i64 0) := (blk_cell BK292.out 0).trans rfl
                  have hcz110_1 : w103.cell? ⟨gb292, 1, none⟩ = some (.bool false) := (blk_cell BK292.out 1).trans rfl
                  have hfz110_0 := blk_frozen BK292.out 0
                  have hfz110_1 := blk_frozen BK292.out 1
                  try go_wp2_with (first | ((with_reducible refine gate_callee (f := 12) rfl ?_); refine goesL_ (some 38) rfl rfl Try.func12 (by kernel_rfl) rfl #[.agg #[.int .i64 (Int.tmod (Go.bits .and .i64 a0_3 65535) (wrap64 (1 + (Go.bits .and .i64 a0_8 32767)))), .bool a0_4], .agg #[.int .i64 (Int.tmod (Go.bits .and .i64 a0_5 65535) (wrap64 (1 + (Go.bits .and .i64 a0_8 32767)))), .bool a0_6], .int .i64 (wrap64 (1 + (Go.bits .and .i64 a0_8 32767)))] rfl (by (try simp only [List.map_toArray, List.map_cons, List.map_nil]); first | done | rfl | (simp only [List.length_drop, List.length_take]; rfl)) ?_; (with_reducible refine (spot_Gap.calls k (Int.tmod (Go.bits .and .i64 a0_3 65535) (wrap64 (1 + (Go.bits .and .i64 a0_8 32767)))) a0_4 (Int.tmod (Go.bits .and .i64 a0_5 65535) (wrap64 (1 + (Go.bits .and .i64 a0_8 32767)))) a0_6 (wrap64 (1 + (Go.bits .and .i64 a0_8 32767))) t293 t294 _ A3.out).mono ?_); rintro e w111 ⟨rfl, hb⟩; refine ⟨_, rfl, ?_⟩; have n0_ := Aside0.mk (blk_below (g := gb290) (o := .cells #[.int .i64 a0_0, .bool a0_1, .int .i64 a0_2, .int .i64 a0_3, .bool a0_4, .int .i64 a0_5, .bool a0_6, .int .i64 a0_7, .int .i64 a0_8] 27 (0, 0)) (by (with_reducible repeat (first | refine blk_drewN ?_ _ | refine blk_drew ?_ | refine blk_alloc ?_ _)); refine blk_far ?_ NB290_292.out _; (with_reducible repeat (first | refine blk_drewN ?_ _ | refine blk_drew ?_ | refine blk_alloc ?_ _)); refine blk_far ?_ NB290_292.out _; (with_reducible repeat (first | refine blk_drewN ?_ _ | refine blk_drew ?_ | refine blk_alloc ?_ _)); exact BK290.out) hb); have n1_ := Aside0.mk (blk_below (g := gb291) (o := .cells #[.int .i64 (Int.tmod (Go.bits .and .i64 a0_3 65535) (wrap64 (1 + (Go.bits .and .i64 a0_8 32767)))), .bool a0_4] 25 (0, 0)) (by (with_reducible repeat (first | refine blk_drewN ?_ _ | refine blk_drew ?_ | refine blk_alloc ?_ _)); refine blk_far ?_ NB291_292.out _; (with_reducible repeat (first | refine blk_drewN ?_ _ | refine blk_drew ?_ | refine blk_alloc ?_ _)); refine blk_far ?_ NB291_292.out _; (with_reducible repeat (first | refine blk_drewN ?_ _ | refine blk_drew ?_ | refine blk_alloc ?_ _)); exact BK291.out) hb); have n2_ := Aside0.mk (blk_below (g := gb292) (o := .cells #[.int .i64 (Int.tmod (Go.bits .and .i64 a0_5 65535) (wrap64 (1 + (Go.bits .and .i64 a0_8 32767)))), .bool a0_6] 25 (0, 0)) (by (with_reducible repeat (first | refine blk_drewN ?_ _ | refine blk_drew ?_ | refine blk_alloc ?_ _)); refine blk_put (cs := #[.int .i64 (Int.tmod (Go.bits .and .i64 a0_5 65535) (wrap64 (1 + (Go.bits .and .i64 a0_8 32767)))), .bool false]) ?_ 1 _ rfl; (with_reducible repeat (first | refine blk_drewN ?_ _ | refine blk_drew ?_ | refine blk_alloc ?_ _)); refine blk_put (cs := #[.int .i64 0, .bool false]) ?_ 0 _ rfl; (with_reducible repeat (first | refine blk_drewN ?_ _ | refine blk_drew ?_ | refine blk_alloc ?_ _)); exact BK292.out) hb); have n3_ := Aside0.mk (below_step (by repeat (first | (with_reducible first | exact HB.out | apply below_alloc | apply pw_below_drewN | apply below_drew1 | refine below_set ?_ GE290.out | refine below_set ?_ GE291.out | refine below_set ?_ GE292.out) | exact HB.out)) hb); clear BK290; clear BK291; clear BK292; clear HB; have BK290 := n0_; have BK291 := n1_; have BK292 := n2_; have HB := n3_; clear n0_ n1_ n2_ n3_; (try clear hb); (try clear hb2); (try clear hk); (try clear hi); have hcz112_0 : w111.cell? ⟨gb292, 0, none⟩ = some (.int .i64 (Int.tmod (Go.bits .and .i64 a0_5 65535) (wrap64 (1 + (Go.bits .and .i64 a0_8 32767))))) := (blk_cell BK292.out 0).trans rfl; have hcz112_1 : w111.cell? ⟨gb292, 1, none⟩ = some (.bool a0_6) := (blk_cell BK292.out 1).trans rfl; have hfz112_0 := blk_frozen BK292.out 0; have hfz112_1 := blk_frozen BK292.out 1; have hcz113_0 : w111.cell? ⟨gb291, 0, none⟩ = some (.int .i64 (Int.tmod (Go.bits .and .i64 a0_3 65535) (wrap64 (1 + (Go.bits .and .i64 a0_8 32767))))) := (blk_cell BK291.out 0).trans rfl; have hcz113_1 : w111.cell? ⟨gb291, 1, none⟩ = some (.bool a0_4) := (blk_cell BK291.out 1).trans rfl; have hfz113_0 := blk_frozen BK291.out 0; have hfz113_1 := blk_frozen BK291.out 1) | ((with_reducible refine gate_callee (f := 12) rfl ?_); refine goesL_ (some 45) rfl rfl Try.func12 (by kernel_rfl) rfl #[.agg #[.int .i64 (Int.tmod (Go.bits .and .i64 a0_5 65535) (wrap64 (1 + (Go.bits .and .i64 a0_8 32767)))), .bool a0_6], .agg #[.int .i64 (Int.tmod (Go.bits .and .i64 a0_3 65535) (wrap64 (1 + (Go.bits .and .i64 a0_8 32767)))), .bool a0_4], .int .i64 (wrap64 (1 + (Go.bits .and .i64 a0_8 32767)))] rfl (by (try simp only [List.map_toArray, List.map_cons, List.map_nil]); first | done | rfl | (simp only [List.length_drop, List.length_take]; rfl)) ?_; (with_reducible refine (spot_Gap.calls k (Int.tmod (Go.bits .and .i64 a0_5 65535) (wrap64 (1 + (Go.bits .and .i64 a0_8 32767)))) a0_6 (Int.tmod (Go.bits .and .i64 a0_3 65535) (wrap64 (1 + (Go.bits .and .i64 a0_8 32767)))) a0_4 (wrap64 (1 + (Go.bits .and .i64 a0_8 32767))) t295 t296 _ A4.out).mono ?_); rintro e w114 ⟨rfl, hb⟩; refine ⟨_, rfl, ?_⟩; have n0_ := Aside0.mk (blk_below (g := gb290) (o := .cells #[.int .i64 a0_0, .bool a0_1, .int .i64 a0_2, .int .i64 a0_3, .bool a0_4, .int .i64 a0_5, .bool a0_6, .int .i64 a0_7, .int .i64 a0_8] 27 (0, 0)) (by (with_reducible repeat (first | refine blk_drewN ?_ _ | refine blk_drew ?_ | refine blk_alloc ?_ _)); exact BK290.out) hb); have n1_ := Aside0.mk (blk_below (g := gb291) (o := .cells #[.int .i64 (Int.tmod (Go.bits .and .i64 a0_3 65535) (wrap64 (1 + (Go.bits .and .i64 a0_8 32767)))), .bool a0_4] 25 (0, 0)) (by (with_reducible repeat (first | refine blk_drewN ?_ _ | refine blk_drew ?_ | refine blk_alloc ?_ _)); exact BK291.out) hb); have n2_ := Aside0.mk (blk_below (g := gb292) (o := .cells #[.int .i64 (Int.tmod (Go.bits .and .i64 a0_5 65535) (wrap64 (1 + (Go.bits .and .i64 a0_8 32767)))), .bool a0_6] 25 (0, 0)) (by (with_reducible repeat (first | refine blk_drewN ?_ _ | refine blk_drew ?_ | refine blk_alloc ?_ _)); exact BK292.out) hb); have n3_ := Aside0.mk (below_step (by repeat (first | (with_reducible first | exact HB.out | apply below_alloc | apply pw_below_drewN | apply below_drew1 | refine below_set ?_ GE290.out | refine below_set ?_ GE291.out | refine below_set ?_ GE292.out) | exact HB.out)) hb); clear BK290; clear BK291; clear BK292; clear HB; have BK290 := n0_; have BK291 := n1_; have BK292 := n2_; have HB := n3_; clear n0_ n1_ n2_ n3_; (try clear hb); (try clear hb2); (try clear hk); (try clear hi); have hcz115_0 : w114.cell? ⟨gb291, 0, none⟩ = some (.int .i64 (Int.tmod (Go.bits .and .i64 a0_3 65535) (wrap64 (1 + (Go.bits .and .i64 a0_8 32767))))) := (blk_cell BK291.out 0).trans rfl; have hcz115_1 : w114.cell? ⟨gb291, 1, none⟩ = some (.bool a0_4) := (blk_cell BK291.out 1).trans rfl; have hfz115_0 := blk_frozen BK291.out 0; have hfz115_1 := blk_frozen BK291.out 1; have hcz116_0 : w114.cell? ⟨gb292, 0, none⟩ = some (.int .i64 (Int.tmod (Go.bits .and .i64 a0_5 65535) (wrap64 (1 + (Go.bits .and .i64 a0_8 32767))))) := (blk_cell BK292.out 0).trans rfl; have hcz116_1 : w114.cell? ⟨gb292, 1, none⟩ = some (.bool a0_6) := (blk_cell BK292.out 1).trans rfl; have hfz116_0 := blk_frozen BK292.out 0; have hfz116_1 := blk_frozen BK292.out 1) | (go_at_call 14; (with_reducible refine (aqueductlaw13_fixed.calls k  t300 _ A94.out).mono ?_); rintro e w117 ⟨rfl, hb⟩; have n0_ := Aside0.mk (blk_below (g := gb290) (o := .cells #[.int .i64 a0_0, .bool a0_1, .int .i64 a0_2, .int .i64 a0_3, .bool a0_4, .int .i64 a0_5, .bool a0_6, .int .i64 a0_7, .int .i64 a0_8] 27 (0, 0)) (by (with_reducible repeat (first | refine blk_drewN ?_ _ | refine blk_drew ?_ | refine blk_alloc ?_ _)); exact BK290.out) hb); have n1_ := Aside0.mk (blk_below (g := gb291) (o := .cells #[.int .i64 (Int.tmod (Go.bits .and .i64 a0_3 65535) (wrap64 (1 + (Go.bits .and .i64 a0_8 32767)))), .bool a0_4] 25 (0, 0)) (by (with_reducible repeat (first | refine blk_drewN ?_ _ | refine blk_drew ?_ | refine blk_alloc ?_ _)); exact BK291.out) hb); have n2_ := Aside0.mk (blk_below (g := gb292) (o := .cells #[.int .i64 (Int.tmod (Go.bits .and .i64 a0_5 65535) (wrap64 (1 + (Go.bits .and .i64 a0_8 32767)))), .bool a0_6] 25 (0, 0)) (by (with_reducible repeat (first | refine blk_drewN ?_ _ | refine blk_drew ?_ | refine blk_alloc ?_ _)); exact BK292.out) hb); have n3_ := Aside0.mk (below_step (by repeat (first | (with_reducible first | exact HB.out | apply below_alloc | apply pw_below_drewN | apply below_drew1 | refine below_set ?_ GE290.out | refine below_set ?_ GE291.out | refine below_set ?_ GE292.out) | exact HB.out)) hb); clear BK290; clear BK291; clear BK292; clear HB; have BK290 := n0_; have BK291 := n1_; have BK292 := n2_; have HB := n3_; clear n0_ n1_ n2_ n3_; (try clear hb); (try clear hb2); (try clear hk); (try clear hi)))
                  go_ret
                  exact ⟨by first | rfl | (simp [errW_none, errW_some] <;> rfl) | (simp [*, errW_none, errW_some] <;> rfl) | (exfalso; simp_all), by repeat (first | (with_reducible first | exact HB.out | apply below_alloc | apply pw_below_drewN | apply below_drew1 | refine below_set ?_ GE290.out | refine below_set ?_ GE291.out | refine below_set ?_ GE292.out) | exact HB.out)⟩
                · rw [if_neg c93] at H
                  have c93b0 : decide (0 < t295) = false := decide_eq_false c93
                  clear c93
                  obtain rfl := Option.some.inj H
                  exact absurd HR_.out (by decide)
              · rw [if_neg c92] at H
                have c92b0 : decide (0 < t293) = false := decide_eq_false c92
                clear c92
                obtain rfl := Option.some.inj H
                exact absurd HR_.out (by decide)
            · rw [if_neg c91] at H
              have c91b0 : ((wrap64 (t293 + t295)) == (wrap64 (2 * (wrap64 (1 + (Go.bits .and .i64 a0_8 32767)))))) = false := beq_eq_false_iff_ne.mpr c91
              have c91b1 : ((wrap64 (t293 + t295)) != (wrap64 (2 * (wrap64 (1 + (Go.bits .and .i64 a0_8 32767)))))) = true := bne_iff_ne.mpr c91
              obtain rfl := Option.some.inj H
              exact absurd HR_.out (by decide)
          · rw [if_neg c90] at H
            have c90b0 : (!((Int.tmod (Go.bits .and .i64 a0_3 65535) (wrap64 (1 + (Go.bits .and .i64 a0_8 32767)))) == (Int.tmod (Go.bits .and .i64 a0_5 65535) (wrap64 (1 + (Go.bits .and .i64 a0_8 32767))))) || (!(a0_4 == a0_6))) = false := by simpa using c90
            clear c90
            obtain rfl := Option.some.inj H
            exact absurd HR_.out (by decide)
      · rw [if_neg c6] at H
        have c6b0 : (t296 == 0) = false := beq_eq_false_iff_ne.mpr c6
        have c6b1 : (t296 != 0) = true := bne_iff_ne.mpr c6
        obtain rfl := Option.some.inj H
        exact absurd HR_.out (by decide)
    · rw [if_neg c5] at H
      have c5b0 : (t294 == 0) = false := beq_eq_false_iff_ne.mpr c5
      have c5b1 : (t294 != 0) = true := bne_iff_ne.mpr c5
      obtain rfl := Option.some.inj H
      exact absurd HR_.out (by decide)

end Go.Proofs.Ytdmhadoggghgnaa.P
