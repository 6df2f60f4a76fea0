/- What functions of the program compute, each with the walk that shows it: by a program (a turned copy of the kit's print; wip/myprint.py). -/
import Derived.Test.YtamicgnpmhbdbaaPx0
import Derived.Test.YtamicgnpmhbdbaaPx4
import Derived.Test.YtamicgnpmhbdbaaPx7
namespace Go.Proofs.Ytamicgnpmhbdbaa.P
open Go.RowKit Go.Proofs.YtamicgnpmhbdbaaW.PrintWords Go.Proofs.YtamicgnpmhbdbaaW.PrintLast Go.Proofs.YtamicgnpmhbdbaaW.PrintMore
attribute [local go_sem] max2_int min2_int max_two min_two max_three min_three max_four min_four   -- for this text's walks alone
set_option linter.unusedVariables false
set_option linter.unusedSimpArgs false

/-! ### aqueductlaw01_WordsGrow: function 6 -/
def aqueductlaw01_WordsGrow.f (k : Nat) (a0 : Int) (a1 : Int) : Option (Bool) := (words_Put.f k a0 (wrap64 (1 + (Int.tmod (Go.bits .and .i64 a1 65535) 7))) true).bind fun bt173 => ((words_Put.f k a0 (wrap64 ((wrap64 (1 + (Int.tmod (Go.bits .and .i64 a1 65535) 7))) + 1)) true).bind fun bt175 => ((words_Put.f k a0 8 true).bind fun bt177 => (if bt175.2 = 0 then (if bt177.2 = 0 then ((aqueductlaw01_fixed.f k).bind fun t179 => (if t179 = true then (if bt173.2 = 0 then (if 1 + bt173.1.size ≤ 9223372036854775807 then (if bt175.1.toList = ((⟨#[0]⟩ : ByteArray) ++ bt173.1).toList then (if (bt177.1.size : Int) = 8 then (if 0 ≤ (wrap64 (8 - (wrap64 (1 + (Int.tmod (Go.bits .and .i64 a1 65535) 7))))) then (if (wrap64 (8 - (wrap64 (1 + (Int.tmod (Go.bits .and .i64 a1 65535) 7))))) ≤ (bt177.1.size : Int) then (if (bt177.1.extract ((wrap64 (8 - (wrap64 (1 + (Int.tmod (Go.bits .and .i64 a1 65535) 7))))) : Int).toNat bt177.1.size).toList = bt173.1.toList then (if 0 ≤ (wrap64 (8 * (wrap64 (1 + (Int.tmod (Go.bits .and .i64 a1 65535) 7))))) then (some ((bt173.2 == 0) == (decide (a0 < (shl .u64 1 (wrap64 (8 * (wrap64 (1 + (Int.tmod (Go.bits .and .i64 a1 65535) 7)))))))))) else (none)) else (some false)) else (none)) else (none)) else (some false)) else (some false)) else (none)) else (if 0 ≤ (wrap64 (8 * (wrap64 (1 + (Int.tmod (Go.bits .and .i64 a1 65535) 7))))) then (some ((bt173.2 == 0) == (decide (a0 < (shl .u64 1 (wrap64 (8 * (wrap64 (1 + (Int.tmod (Go.bits .and .i64 a1 65535) 7)))))))))) else (none))) else (some false))) else (some false)) else (if bt173.2 = 0 then (some false) else (if bt177.2 = 0 then ((aqueductlaw01_fixed.f k).bind fun t180 => (if t180 = true then (if 0 ≤ (wrap64 (8 * (wrap64 (1 + (Int.tmod (Go.bits .and .i64 a1 65535) 7))))) then (some ((bt173.2 == 0) == (decide (a0 < (shl .u64 1 (wrap64 (8 * (wrap64 (1 + (Int.tmod (Go.bits .and .i64 a1 65535) 7)))))))))) else (none)) else (some false))) else (some false))))))
theorem aqueductlaw01_WordsGrow.mono : ∀ a0 a1 k, LeO (aqueductlaw01_WordsGrow.f k a0 a1) (aqueductlaw01_WordsGrow.f (k + 1) a0 a1) := by
  intro a0 a1 k
  unfold aqueductlaw01_WordsGrow.f
  repeat' first
      | (with_reducible exact aqueductlaw01_fixed.mono _)
      | (with_reducible exact words_Put.mono _ _ _ _)
      | (with_reducible exact LeO.refl _)
      | (with_reducible exact LeO.none _)
      | (with_reducible refine LeO.ite ?_ ?_)
      | (with_reducible refine LeO.bind ?_ (fun _ => ?_))
      | exact aqueductlaw01_fixed.mono _
      | exact words_Put.mono _ _ _ _
      | exact LeO.none _
      | refine LeO.ite ?_ ?_
      | refine LeO.bind ?_ (fun _ => ?_)
set_option maxHeartbeats 8000000 in
set_option maxRecDepth 100000 in
theorem aqueductlaw01_WordsGrow.calls (k : Nat) (a0 : Int) (a1 : Int) (r : Bool) (w : World) (h : aqueductlaw01_WordsGrow.f k a0 a1 = some r) (hr_ : r = true) :
    Calls Try.prog 6 #[.int .u64 a0, .int .i64 a1] w fun e w' => e = .returned (.bool r) ∧ Below w.heap.size w w' := by
  have HB := Aside0.mk (Below.refl w.heap.size w)
  have H : ((words_Put.f k a0 (wrap64 (1 + (Int.tmod (Go.bits .and .i64 a1 65535) 7))) true).bind fun bt173 => ((words_Put.f k a0 (wrap64 ((wrap64 (1 + (Int.tmod (Go.bits .and .i64 a1 65535) 7))) + 1)) true).bind fun bt175 => ((words_Put.f k a0 8 true).bind fun bt177 => (if bt175.2 = 0 then (if bt177.2 = 0 then ((aqueductlaw01_fixed.f k).bind fun t179 => (if t179 = true then (if bt173.2 = 0 then (if 1 + bt173.1.size ≤ 9223372036854775807 then (if bt175.1.toList = ((⟨#[0]⟩ : ByteArray) ++ bt173.1).toList then (if (bt177.1.size : Int) = 8 then (if 0 ≤ (wrap64 (8 - (wrap64 (1 + (Int.tmod (Go.bits .and .i64 a1 65535) 7))))) then (if (wrap64 (8 - (wrap64 (1 + (Int.tmod (Go.bits .and .i64 a1 65535) 7))))) ≤ (bt177.1.size : Int) then (if (bt177.1.extract ((wrap64 (8 - (wrap64 (1 + (Int.tmod (Go.bits .and .i64 a1 65535) 7))))) : Int).toNat bt177.1.size).toList = bt173.1.toList then (if 0 ≤ (wrap64 (8 * (wrap64 (1 + (Int.tmod (Go.bits .and .i64 a1 65535) 7))))) then (some ((bt173.2 == 0) == (decide (a0 < (shl .u64 1 (wrap64 (8 * (wrap64 (1 + (Int.tmod (Go.bits .and .i64 a1 65535) 7)))))))))) else (none)) else (some false)) else (none)) else (none)) else (some false)) else (some false)) else (none)) else (if 0 ≤ (wrap64 (8 * (wrap64 (1 + (Int.tmod (Go.bits .and .i64 a1 65535) 7))))) then (some ((bt173.2 == 0) == (decide (a0 < (shl .u64 1 (wrap64 (8 * (wrap64 (1 + (Int.tmod (Go.bits .and .i64 a1 65535) 7)))))))))) else (none))) else (some false))) else (some false)) else (if bt173.2 = 0 then (some false) else (if bt177.2 = 0 then ((aqueductlaw01_fixed.f k).bind fun t180 => (if t180 = true then (if 0 ≤ (wrap64 (8 * (wrap64 (1 + (Int.tmod (Go.bits .and .i64 a1 65535) 7))))) then (some ((bt173.2 == 0) == (decide (a0 < (shl .u64 1 (wrap64 (8 * (wrap64 (1 + (Int.tmod (Go.bits .and .i64 a1 65535) 7)))))))))) else (none)) else (some false))) else (some false))))))) = some r := h
  clear h
  have HR_ := Aside0.mk hr_
  clear hr_
  replace H := Option.bind_eq_some_iff.mp H
  obtain ⟨⟨t173, t174⟩, A30, H⟩ := H
  replace H : ((words_Put.f k a0 (wrap64 ((wrap64 (1 + (Int.tmod (Go.bits .and .i64 a1 65535) 7))) + 1)) true).bind fun bt175 => ((words_Put.f k a0 8 true).bind fun bt177 => (if bt175.2 = 0 then (if bt177.2 = 0 then ((aqueductlaw01_fixed.f k).bind fun t179 => (if t179 = true then (if t174 = 0 then (if 1 + t173.size ≤ 9223372036854775807 then (if bt175.1.toList = ((⟨#[0]⟩ : ByteArray) ++ t173).toList then (if (bt177.1.size : Int) = 8 then (if 0 ≤ (wrap64 (8 - (wrap64 (1 + (Int.tmod (Go.bits .and .i64 a1 65535) 7))))) then (if (wrap64 (8 - (wrap64 (1 + (Int.tmod (Go.bits .and .i64 a1 65535) 7))))) ≤ (bt177.1.size : Int) then (if (bt177.1.extract ((wrap64 (8 - (wrap64 (1 + (Int.tmod (Go.bits .and .i64 a1 65535) 7))))) : Int).toNat bt177.1.size).toList = t173.toList then (if 0 ≤ (wrap64 (8 * (wrap64 (1 + (Int.tmod (Go.bits .and .i64 a1 65535) 7))))) then (some ((t174 == 0) == (decide (a0 < (shl .u64 1 (wrap64 (8 * (wrap64 (1 + (Int.tmod (Go.bits .and .i64 a1 65535) 7)))))))))) else (none)) else (some false)) else (none)) else (none)) else (some false)) else (some false)) else (none)) else (if 0 ≤ (wrap64 (8 * (wrap64 (1 + (Int.tmod (Go.bits .and .i64 a1 65535) 7))))) then (some ((t174 == 0) == (decide (a0 < (shl .u64 1 (wrap64 (8 * (wrap64 (1 + (Int.tmod (Go.bits .and .i64 a1 65535) 7)))))))))) else (none))) else (some false))) else (some false)) else (if t174 = 0 then (some false) else (if bt177.2 = 0 then ((aqueductlaw01_fixed.f k).bind fun t180 => (if t180 = true then (if 0 ≤ (wrap64 (8 * (wrap64 (1 + (Int.tmod (Go.bits .and .i64 a1 65535) 7))))) then (some ((t174 == 0) == (decide (a0 < (shl .u64 1 (wrap64 (8 * (wrap64 (1 + (Int.tmod (Go.bits .and .i64 a1 65535) 7)))))))))) else (none)) else (some false))) else (some false)))))) = some r := H
  have A3 := Aside0.mk A30
  clear A30
  replace H := Option.bind_eq_some_iff.mp H
  obtain ⟨⟨t175, t176⟩, A40, H⟩ := H
  replace H : ((words_Put.f k a0 8 true).bind fun bt177 => (if t176 = 0 then (if bt177.2 = 0 then ((aqueductlaw01_fixed.f k).bind fun t179 => (if t179 = true then (if t174 = 0 then (if 1 + t173.size ≤ 9223372036854775807 then (if t175.toList = ((⟨#[0]⟩ : ByteArray) ++ t173).toList then (if (bt177.1.size : Int) = 8 then (if 0 ≤ (wrap64 (8 - (wrap64 (1 + (Int.tmod (Go.bits .and .i64 a1 65535) 7))))) then (if (wrap64 (8 - (wrap64 (1 + (Int.tmod (Go.bits .and .i64 a1 65535) 7))))) ≤ (bt177.1.size : Int) then (if (bt177.1.extract ((wrap64 (8 - (wrap64 (1 + (Int.tmod (Go.bits .and .i64 a1 65535) 7))))) : Int).toNat bt177.1.size).toList = t173.toList then (if 0 ≤ (wrap64 (8 * (wrap64 (1 + (Int.tmod (Go.bits .and .i64 a1 65535) 7))))) then (some ((t174 == 0) == (decide (a0 < (shl .u64 1 (wrap64 (8 * (wrap64 (1 + (Int.tmod (Go.bits .and .i64 a1 65535) 7)))))))))) else (none)) else (some false)) else (none)) else (none)) else (some false)) else (some false)) else (none)) else (if 0 ≤ (wrap64 (8 * (wrap64 (1 + (Int.tmod (Go.bits .and .i64 a1 65535) 7))))) then (some ((t174 == 0) == (decide (a0 < (shl .u64 1 (wrap64 (8 * (wrap64 (1 + (Int.tmod (Go.bits .and .i64 a1 65535) 7)))))))))) else (none))) else (some false))) else (some false)) else (if t174 = 0 then (some false) else (if bt177.2 = 0 then ((aqueductlaw01_fixed.f k).bind fun t180 => (if t180 = true then (if 0 ≤ (wrap64 (8 * (wrap64 (1 + (Int.tmod (Go.bits .and .i64 a1 65535) 7))))) then (some ((t174 == 0) == (decide (a0 < (shl .u64 1 (wrap64 (8 * (wrap64 (1 + (Int.tmod (Go.bits .and .i64 a1 65535) 7)))))))))) else (none)) else (some false))) else (some false))))) = some r := H
  have A4 := Aside0.mk A40
  clear A40
  replace H := Option.bind_eq_some_iff.mp H
  obtain ⟨⟨t177, t178⟩, A50, H⟩ := H
  replace H : (if t176 = 0 then (if t178 = 0 then ((aqueductlaw01_fixed.f k).bind fun t179 => (if t179 = true then (if t174 = 0 then (if 1 + t173.size ≤ 9223372036854775807 then (if t175.toList = ((⟨#[0]⟩ : ByteArray) ++ t173).toList then (if (t177.size : Int) = 8 then (if 0 ≤ (wrap64 (8 - (wrap64 (1 + (Int.tmod (Go.bits .and .i64 a1 65535) 7))))) then (if (wrap64 (8 - (wrap64 (1 + (Int.tmod (Go.bits .and .i64 a1 65535) 7))))) ≤ (t177.size : Int) then (if (t177.extract ((wrap64 (8 - (wrap64 (1 + (Int.tmod (Go.bits .and .i64 a1 65535) 7))))) : Int).toNat t177.size).toList = t173.toList then (if 0 ≤ (wrap64 (8 * (wrap64 (1 + (Int.tmod (Go.bits .and .i64 a1 65535) 7))))) then (some ((t174 == 0) == (decide (a0 < (shl .u64 1 (wrap64 (8 * (wrap64 (1 + (Int.tmod (Go.bits .and .i64 a1 65535) 7)))))))))) else (none)) else (some false)) else (none)) else (none)) else (some false)) else (some false)) else (none)) else (if 0 ≤ (wrap64 (8 * (wrap64 (1 + (Int.tmod (Go.bits .and .i64 a1 65535) 7))))) then (some ((t174 == 0) == (decide (a0 < (shl .u64 1 (wrap64 (8 * (wrap64 (1 + (Int.tmod (Go.bits .and .i64 a1 65535) 7)))))))))) else (none))) else (some false))) else (some false)) else (if t174 = 0 then (some false) else (if t178 = 0 then ((aqueductlaw01_fixed.f k).bind fun t180 => (if t180 = true then (if 0 ≤ (wrap64 (8 * (wrap64 (1 + (Int.tmod (Go.bits .and .i64 a1 65535) 7))))) then (some ((t174 == 0) == (decide (a0 < (shl .u64 1 (wrap64 (8 * (wrap64 (1 + (Int.tmod (Go.bits .and .i64 a1 65535) 7)))))))))) else (none)) else (some false))) else (some false)))) = some r := H
  have A5 := Aside0.mk A50
  clear A50
  by_cases c6 : t176 = 0
  · rw [if_pos c6] at H
    have c6b0 : (t176 == 0) = true := beq_iff_eq.mpr c6
    have c6b1 : (t176 != 0) = false := bne_eq_false_iff_eq.mpr c6
    clear c6
    by_cases c7 : t178 = 0
    · rw [if_pos c7] at H
      have c7b0 : (t178 == 0) = true := beq_iff_eq.mpr c7
      have c7b1 : (t178 != 0) = false := bne_eq_false_iff_eq.mpr c7
      clear c7
      replace H := Option.bind_eq_some_iff.mp H
      obtain ⟨t179, A80, H⟩ := H
      replace H : (if t179 = true then (if t174 = 0 then (if 1 + t173.size ≤ 9223372036854775807 then (if t175.toList = ((⟨#[0]⟩ : ByteArray) ++ t173).toList then (if (t177.size : Int) = 8 then (if 0 ≤ (wrap64 (8 - (wrap64 (1 + (Int.tmod (Go.bits .and .i64 a1 65535) 7))))) then (if (wrap64 (8 - (wrap64 (1 + (Int.tmod (Go.bits .and .i64 a1 65535) 7))))) ≤ (t177.size : Int) then (if (t177.extract ((wrap64 (8 - (wrap64 (1 + (Int.tmod (Go.bits .and .i64 a1 65535) 7))))) : Int).toNat t177.size).toList = t173.toList then (if 0 ≤ (wrap64 (8 * (wrap64 (1 + (Int.tmod (Go.bits .and .i64 a1 65535) 7))))) then (some ((t174 == 0) == (decide (a0 < (shl .u64 1 (wrap64 (8 * (wrap64 (1 + (Int.tmod (Go.bits .and .i64 a1 65535) 7)))))))))) else (none)) else (some false)) else (none)) else (none)) else (some false)) else (some false)) else (none)) else (if 0 ≤ (wrap64 (8 * (wrap64 (1 + (Int.tmod (Go.bits .and .i64 a1 65535) 7))))) then (some ((t174 == 0) == (decide (a0 < (shl .u64 1 (wrap64 (8 * (wrap64 (1 + (Int.tmod (Go.bits .and .i64 a1 65535) 7)))))))))) else (none))) else (some false)) = some r := H
      have A8 := Aside0.mk A80
      clear A80
      by_cases c9 : t179 = true
      · subst c9
        have H1 : (if t174 = 0 then (if 1 + t173.size ≤ 9223372036854775807 then (if t175.toList = ((⟨#[0]⟩ : ByteArray) ++ t173).toList then (if (t177.size : Int) = 8 then (if 0 ≤ (wrap64 (8 - (wrap64 (1 + (Int.tmod (Go.bits .and .i64 a1 65535) 7))))) then (if (wrap64 (8 - (wrap64 (1 + (Int.tmod (Go.bits .and .i64 a1 65535) 7))))) ≤ (t177.size : Int) then (if (t177.extract ((wrap64 (8 - (wrap64 (1 + (Int.tmod (Go.bits .and .i64 a1 65535) 7))))) : Int).toNat t177.size).toList = t173.toList then (if 0 ≤ (wrap64 (8 * (wrap64 (1 + (Int.tmod (Go.bits .and .i64 a1 65535) 7))))) then (some ((t174 == 0) == (decide (a0 < (shl .u64 1 (wrap64 (8 * (wrap64 (1 + (Int.tmod (Go.bits .and .i64 a1 65535) 7)))))))))) else (none)) else (some false)) else (none)) else (none)) else (some false)) else (some false)) else (none)) else (if 0 ≤ (wrap64 (8 * (wrap64 (1 + (Int.tmod (Go.bits .and .i64 a1 65535) 7))))) then (some ((t174 == 0) == (decide (a0 < (shl .u64 1 (wrap64 (8 * (wrap64 (1 + (Int.tmod (Go.bits .and .i64 a1 65535) 7)))))))))) else (none))) = some r := by rw [if_pos rfl] at H; exact H
        clear H
        have H := H1
        clear H1
        by_cases c10 : t174 = 0
        · rw [if_pos c10] at H
          have c10b0 : (t174 == 0) = true := beq_iff_eq.mpr c10
          have c10b1 : (t174 != 0) = false := bne_eq_false_iff_eq.mpr c10
          clear c10
          by_cases c11 : 1 + t173.size ≤ 9223372036854775807
          · rw [if_pos c11] at H
            have c11b0 := eq_true c11
            have c11b1 : decide (1 + t173.size ≤ 9223372036854775807) = true := decide_eq_true c11
            try have c11b2 : (9223372036854775807 < 1 + t173.size) = False := eq_false (Nat.not_lt.2 c11)
            by_cases c12 : t175.toList = ((⟨#[0]⟩ : ByteArray) ++ t173).toList
            · rw [if_pos c12] at H
              have c12b0 : (t175.toList == ((⟨#[0]⟩ : ByteArray) ++ t173).toList) = true := beq_iff_eq.mpr c12
              have c12b1 : (t175.toList != ((⟨#[0]⟩ : ByteArray) ++ t173).toList) = false := bne_eq_false_iff_eq.mpr c12
              clear c12
              by_cases c13 : (t177.size : Int) = 8
              · rw [if_pos c13] at H
                have c13b0 : ((t177.size : Int) == 8) = true := beq_iff_eq.mpr c13
                have c13b1 : ((t177.size : Int) != 8) = false := bne_eq_false_iff_eq.mpr c13
                clear c13
                obtain ⟨ji14, hji14⟩ : ∃ j_ : Int, (wrap64 (8 - (wrap64 (1 + (Int.tmod (Go.bits .and .i64 a1 65535) 7))))) = j_ := ⟨_, rfl⟩
                replace H : (if 0 ≤ (ji14) then (if (ji14) ≤ (t177.size : Int) then (if (t177.extract ((ji14) : Int).toNat t177.size).toList = t173.toList then (if 0 ≤ (wrap64 (8 * (wrap64 (1 + (Int.tmod (Go.bits .and .i64 a1 65535) 7))))) then (some ((t174 == 0) == (decide (a0 < (shl .u64 1 (wrap64 (8 * (wrap64 (1 + (Int.tmod (Go.bits .and .i64 a1 65535) 7)))))))))) else (none)) else (some false)) else (none)) else (none)) = some r := by first | (rw [hji14] at H; exact H) | (simp only [hji14] at H ⊢; exact H)
                (try rw [hji14] at A3)
                (try rw [hji14] at A4)
                (try rw [hji14] at A5)
                (try rw [hji14] at A8)
                have hji14w : (IntKind.i64.wrap (8 - (wrap64 (1 + (Int.tmod (Go.bits .and .i64 a1 65535) 7))))) = ji14 := (i64_w _).trans hji14
                by_cases c15 : 0 ≤ (ji14)
                · rw [if_pos c15] at H
                  have c15b0 := eq_true c15
                  have c15b1 : decide (0 ≤ (ji14)) = true := decide_eq_true c15
                  clear c15
                  by_cases c16 : (ji14) ≤ (t177.size : Int)
                  · rw [if_pos c16] at H
                    have c16b0 := eq_true c16
                    have c16b1 : decide ((ji14) ≤ (t177.size : Int)) = true := decide_eq_true c16
                    clear c16
                    by_cases c17 : (t177.extract ((ji14) : Int).toNat t177.size).toList = t173.toList
                    · rw [if_pos c17] at H
                      have c17b0 : ((t177.extract ((ji14) : Int).toNat t177.size).toList == t173.toList) = true := beq_iff_eq.mpr c17
                      have c17b1 : ((t177.extract ((ji14) : Int).toNat t177.size).toList != t173.toList) = false := bne_eq_false_iff_eq.mpr c17
                      clear c17
                      obtain ⟨ji18, hji18⟩ : ∃ j_ : Int, (wrap64 (8 * (wrap64 (1 + (Int.tmod (Go.bits .and .i64 a1 65535) 7))))) = j_ := ⟨_, rfl⟩
                      replace H : (if 0 ≤ (ji18) then (some ((t174 == 0) == (decide (a0 < (shl .u64 1 (ji18)))))) else (none)) = some r := by first | (rw [hji18] at H; exact H) | (simp only [hji18] at H ⊢; exact H)
                      (try rw [hji18] at A3)
                      (try rw [hji18] at A4)
                      (try rw [hji18] at A5)
                      (try rw [hji18] at A8)
                      have hji18w : (IntKind.i64.wrap (8 * (wrap64 (1 + (Int.tmod (Go.bits .and .i64 a1 65535) 7))))) = ji18 := (i64_w _).trans hji18
                      by_cases c19 : 0 ≤ (ji18)
                      · rw [if_pos c19] at H
                        have c19b0 := eq_true c19
                        have c19b1 : decide (0 ≤ (ji18)) = true := decide_eq_true c19
                        clear c19
                        obtain ⟨ji20, hji20⟩ : ∃ j_ : Int, (shl .u64 1 (ji18)) = j_ := ⟨_, rfl⟩
                        replace H : (some ((t174 == 0) == (decide (a0 < (ji20))))) = some r := by first | (rw [hji20] at H; exact H) | (simp only [hji20] at H ⊢; exact H)
                        (try rw [hji20] at A3)
                        (try rw [hji20] at A4)
                        (try rw [hji20] at A5)
                        (try rw [hji20] at A8)
                        have hji20_ : (IntKind.u64.wrap (1 * 2 ^ min (ji18).toNat 64)) = ji20 := hji20
                        have hji20z : (ji18) ≤ 64 → (IntKind.u64.wrap (1 * 2 ^ (ji18).toNat)) = ji20 := shl_small hji20
                        have hji20u : (IntKind.u64.wrap (2 ^ min (ji18).toNat 64)) = ji20 := by have h_ := hji20_; rw [Int.one_mul] at h_; exact h_
                        have hji20v : (ji18) ≤ 64 → (IntKind.u64.wrap (2 ^ (ji18).toNat)) = ji20 := fun hle_ => by have h_ := hji20z hle_; rw [Int.one_mul] at h_; exact h_
                        obtain rfl := Option.some.inj H
                        go_enter Try.func6, Try.ntmps6
                        go_wp2_with (first | ((with_reducible refine gate_callee (f := 11) rfl ?_); refine goesL_ (some 19) rfl rfl Try.func11 (by kernel_rfl) rfl #[.int .u64 a0, .int .i64 (wrap64 (1 + (Int.tmod (Go.bits .and .i64 a1 65535) 7))), .bool true] rfl (by (try simp only [List.map_toArray, List.map_cons, List.map_nil]); first | done | rfl | (simp only [List.length_drop, List.length_take]; rfl)) ?_; (with_reducible refine (words_Put.calls k a0 (wrap64 (1 + (Int.tmod (Go.bits .and .i64 a1 65535) 7))) true t173 t174 _ A3.out).mono ?_); rintro e w21 ⟨rfl, hb⟩; refine ⟨_, rfl, ?_⟩; have n0_ := Aside0.mk (below_step (by repeat (first | (with_reducible first | exact HB.out | apply below_alloc | apply pw_below_drewN | apply below_drew1) | exact HB.out)) hb); clear HB; have HB := n0_; clear n0_; (try clear hb); (try clear hb2); (try clear hk); (try clear hi)) | ((with_reducible refine gate_callee (f := 11) rfl ?_); refine goesL_ (some 26) rfl rfl Try.func11 (by kernel_rfl) rfl #[.int .u64 a0, .int .i64 (wrap64 ((wrap64 (1 + (Int.tmod (Go.bits .and .i64 a1 65535) 7))) + 1)), .bool true] rfl (by (try simp only [List.map_toArray, List.map_cons, List.map_nil]); first | done | rfl | (simp only [List.length_drop, List.length_take]; rfl)) ?_; (with_reducible refine (words_Put.calls k a0 (wrap64 ((wrap64 (1 + (Int.tmod (Go.bits .and .i64 a1 65535) 7))) + 1)) true t175 t176 _ A4.out).mono ?_); rintro e w22 ⟨rfl, hb⟩; refine ⟨_, rfl, ?_⟩; have n0_ := Aside0.mk (below_step (by repeat (first | (with_reducible first | exact HB.out | apply below_alloc | apply pw_below_drewN | apply below_drew1) | exact HB.out)) hb); clear HB; have HB := n0_; clear n0_; (try clear hb); (try clear hb2); (try clear hk); (try clear hi)) | ((with_reducible refine gate_callee (f := 11) rfl ?_); refine goesL_ (some 31) rfl rfl Try.func11 (by kernel_rfl) rfl #[.int .u64 a0, .int .i64 8, .bool true] rfl (by (try simp only [List.map_toArray, List.map_cons, List.map_nil]); first | done | rfl | (simp only [List.length_drop, List.length_take]; rfl)) ?_; (with_reducible refine (words_Put.calls k a0 8 true t177 t178 _ A5.out).mono ?_); rintro e w23 ⟨rfl, hb⟩; refine ⟨_, rfl, ?_⟩; have n0_ := Aside0.mk (below_step (by repeat (first | (with_reducible first | exact HB.out | apply below_alloc | apply pw_below_drewN | apply below_drew1) | exact HB.out)) hb); clear HB; have HB := n0_; clear n0_; (try clear hb); (try clear hb2); (try clear hk); (try clear hi)) | ((with_reducible refine gate_callee (f := 13) rfl ?_); refine goesL_ (some 44) rfl rfl Try.func13 (by kernel_rfl) rfl #[] rfl (by (try simp only [List.map_toArray, List.map_cons, List.map_nil]); first | done | rfl | (simp only [List.length_drop, List.length_take]; rfl)) ?_; (with_reducible refine (aqueductlaw01_fixed.calls k  true _ A8.out).mono ?_); rintro e w24 ⟨rfl, hb⟩; refine ⟨_, rfl, ?_⟩; have n0_ := Aside0.mk (below_step (by repeat (first | (with_reducible first | exact HB.out | apply below_alloc | apply pw_below_drewN | apply below_drew1) | exact HB.out)) hb); clear HB; have HB := n0_; clear n0_; (try clear hb); (try clear hb2); (try clear hk); (try clear hi)))
                        go_ret
                        exact ⟨by first | rfl | (simp [errW_none, errW_some] <;> rfl) | (simp only [← hji14, ← hji18, ← hji20]; first | rfl | (simp [errW_none, errW_some] <;> rfl)) | (simp [*, errW_none, errW_some] <;> rfl), by repeat (first | (with_reducible first | exact HB.out | apply below_alloc | apply pw_below_drewN | apply below_drew1) | exact HB.out)⟩
                      · rw [if_neg c19] at H
                        exact absurd H (by simp)
                    · rw [if_neg c17] at H
                      have c17b0 : ((t177.extract ((ji14) : Int).toNat t177.size).toList == t173.toList) = false := beq_eq_false_iff_ne.mpr c17
                      have c17b1 : ((t177.extract ((ji14) : Int).toNat t177.size).toList != t173.toList) = true := bne_iff_ne.mpr c17
                      obtain rfl := Option.some.inj H
                      exact absurd HR_.out (by decide)
                  · rw [if_neg c16] at H
                    exact absurd H (by simp)
                · rw [if_neg c15] at H
                  exact absurd H (by simp)
              · rw [if_neg c13] at H
                have c13b0 : ((t177.size : Int) == 8) = false := beq_eq_false_iff_ne.mpr c13
                have c13b1 : ((t177.size : Int) != 8) = true := bne_iff_ne.mpr c13
                obtain rfl := Option.some.inj H
                exact absurd HR_.out (by decide)
            · rw [if_neg c12] at H
              have c12b0 : (t175.toList == ((⟨#[0]⟩ : ByteArray) ++ t173).toList) = false := beq_eq_false_iff_ne.mpr c12
              have c12b1 : (t175.toList != ((⟨#[0]⟩ : ByteArray) ++ t173).toList) = true := bne_iff_ne.mpr c12
              obtain rfl := Option.some.inj H
              exact absurd HR_.out (by decide)
          · rw [if_neg c11] at H
            exact absurd H (by simp)
        · rw [if_neg c10] at H
          have c10b0 : (t174 == 0) = false := beq_eq_false_iff_ne.mpr c10
          have c10b1 : (t174 != 0) = true := bne_iff_ne.mpr c10
          obtain ⟨ji25, hji25⟩ : ∃ j_ : Int, (wrap64 (8 * (wrap64 (1 + (Int.tmod (Go.bits .and .i64 a1 65535) 7))))) = j_ := ⟨_, rfl⟩
          replace H : (if 0 ≤ (ji25) then (some ((t174 == 0) == (decide (a0 < (shl .u64 1 (ji25)))))) else (none)) = some r := by first | (rw [hji25] at H; exact H) | (simp only [hji25] at H ⊢; exact H)
          (try rw [hji25] at A3)
          (try rw [hji25] at A4)
          (try rw [hji25] at A5)
          (try rw [hji25] at A8)
          have hji25w : (IntKind.i64.wrap (8 * (wrap64 (1 + (Int.tmod (Go.bits .and .i64 a1 65535) 7))))) = ji25 := (i64_w _).trans hji25
          by_cases c26 : 0 ≤ (ji25)
          · rw [if_pos c26] at H
            have c26b0 := eq_true c26
            have c26b1 : decide (0 ≤ (ji25)) = true := decide_eq_true c26
            clear c26
            obtain ⟨ji27, hji27⟩ : ∃ j_ : Int, (shl .u64 1 (ji25)) = j_ := ⟨_, rfl⟩
            replace H : (some ((t174 == 0) == (decide (a0 < (ji27))))) = some r := by first | (rw [hji27] at H; exact H) | (simp only [hji27] at H ⊢; exact H)
            (try rw [hji27] at A3)
            (try rw [hji27] at A4)
            (try rw [hji27] at A5)
            (try rw [hji27] at A8)
            have hji27_ : (IntKind.u64.wrap (1 * 2 ^ min (ji25).toNat 64)) = ji27 := hji27
            have hji27z : (ji25) ≤ 64 → (IntKind.u64.wrap (1 * 2 ^ (ji25).toNat)) = ji27 := shl_small hji27
            have hji27u : (IntKind.u64.wrap (2 ^ min (ji25).toNat 64)) = ji27 := by have h_ := hji27_; rw [Int.one_mul] at h_; exact h_
            have hji27v : (ji25) ≤ 64 → (IntKind.u64.wrap (2 ^ (ji25).toNat)) = ji27 := fun hle_ => by have h_ := hji27z hle_; rw [Int.one_mul] at h_; exact h_
            obtain rfl := Option.some.inj H
            go_enter Try.func6, Try.ntmps6
            go_wp2_with (first | ((with_reducible refine gate_callee (f := 11) rfl ?_); refine goesL_ (some 19) rfl rfl Try.func11 (by kernel_rfl) rfl #[.int .u64 a0, .int .i64 (wrap64 (1 + (Int.tmod (Go.bits .and .i64 a1 65535) 7))), .bool true] rfl (by (try simp only [List.map_toArray, List.map_cons, List.map_nil]); first | done | rfl | (simp only [List.length_drop, List.length_take]; rfl)) ?_; (with_reducible refine (words_Put.calls k a0 (wrap64 (1 + (Int.tmod (Go.bits .and .i64 a1 65535) 7))) true t173 t174 _ A3.out).mono ?_); rintro e w28 ⟨rfl, hb⟩; refine ⟨_, rfl, ?_⟩; have n0_ := Aside0.mk (below_step (by repeat (first | (with_reducible first | exact HB.out | apply below_alloc | apply pw_below_drewN | apply below_drew1) | exact HB.out)) hb); clear HB; have HB := n0_; clear n0_; (try clear hb); (try clear hb2); (try clear hk); (try clear hi)) | ((with_reducible refine gate_callee (f := 11) rfl ?_); refine goesL_ (some 26) rfl rfl Try.func11 (by kernel_rfl) rfl #[.int .u64 a0, .int .i64 (wrap64 ((wrap64 (1 + (Int.tmod (Go.bits .and .i64 a1 65535) 7))) + 1)), .bool true] rfl (by (try simp only [List.map_toArray, List.map_cons, List.map_nil]); first | done | rfl | (simp only [List.length_drop, List.length_take]; rfl)) ?_; (with_reducible refine (words_Put.calls k a0 (wrap64 ((wrap64 (1 + (Int.tmod (Go.bits .and .i64 a1 65535) 7))) + 1)) true t175 t176 _ A4.out).mono ?_); rintro e w29 ⟨rfl, hb⟩; refine ⟨_, rfl, ?_⟩; have n0_ := Aside0.mk (below_step (by repeat (first | (with_reducible first | exact HB.out | apply below_alloc | apply pw_below_drewN | apply below_drew1) | exact HB.out)) hb); clear HB; have HB := n0_; clear n0_; (try clear hb); (try clear hb2); (try clear hk); (try clear hi)) | ((with_reducible refine gate_callee (f := 11) rfl ?_); refine goesL_ (some 31) rfl rfl Try.func11 (by kernel_rfl) rfl #[.int .u64 a0, .int .i64 8, .bool true] rfl (by (try simp only [List.map_toArray, List.map_cons, List.map_nil]); first | done | rfl | (simp only [List.length_drop, List.length_take]; rfl)) ?_; (with_reducible refine (words_Put.calls k a0 8 true t177 t178 _ A5.out).mono ?_); rintro e w30 ⟨rfl, hb⟩; refine ⟨_, rfl, ?_⟩; have n0_ := Aside0.mk (below_step (by repeat (first | (with_reducible first | exact HB.out | apply below_alloc | apply pw_below_drewN | apply below_drew1) | exact HB.out)) hb); clear HB; have HB := n0_; clear n0_; (try clear hb); (try clear hb2); (try clear hk); (try clear hi)) | ((with_reducible refine gate_callee (f := 13) rfl ?_); refine goesL_ (some 44) rfl rfl Try.func13 (by kernel_rfl) rfl #[] rfl (by (try simp only [List.map_toArray, List.map_cons, List.map_nil]); first | done | rfl | (simp only [List.length_drop, List.length_take]; rfl)) ?_; (with_reducible refine (aqueductlaw01_fixed.calls k  true _ A8.out).mono ?_); rintro e w31 ⟨rfl, hb⟩; refine ⟨_, rfl, ?_⟩; have n0_ := Aside0.mk (below_step (by repeat (first | (with_reducible first | exact HB.out | apply below_alloc | apply pw_below_drewN | apply below_drew1) | exact HB.out)) hb); clear HB; have HB := n0_; clear n0_; (try clear hb); (try clear hb2); (try clear hk); (try clear hi)))
            go_ret
            exact ⟨by first | rfl | (simp [errW_none, errW_some] <;> rfl) | (simp only [← hji25, ← hji27]; first | rfl | (simp [errW_none, errW_some] <;> rfl)) | (simp [*, errW_none, errW_some] <;> rfl), by repeat (first | (with_reducible first | exact HB.out | apply below_alloc | apply pw_below_drewN | apply below_drew1) | exact HB.out)⟩
          · rw [if_neg c26] at H
            exact absurd H (by simp)
      · replace c9 := Bool.eq_false_iff.mpr c9
        subst c9
        have H1 : (some false) = some r := by rw [if_neg (show ¬ (false = true) by decide)] at H; exact H
        clear H
        have H := H1
        clear H1
        obtain rfl := Option.some.inj H
        exact absurd HR_.out (by decide)
    · rw [if_neg c7] at H
      have c7b0 : (t178 == 0) = false := beq_eq_false_iff_ne.mpr c7
      have c7b1 : (t178 != 0) = true := bne_iff_ne.mpr c7
      obtain rfl := Option.some.inj H
      exact absurd HR_.out (by decide)
  · rw [if_neg c6] at H
    have c6b0 : (t176 == 0) = false := beq_eq_false_iff_ne.mpr c6
    have c6b1 : (t176 != 0) = true := bne_iff_ne.mpr c6
    by_cases c32 : t174 = 0
    · rw [if_pos c32] at H
      have c32b0 : (t174 == 0) = true := beq_iff_eq.mpr c32
      have c32b1 : (t174 != 0) = false := bne_eq_false_iff_eq.mpr c32
      clear c32
      obtain rfl := Option.some.inj H
      exact absurd HR_.out (by decide)
    · rw [if_neg c32] at H
      have c32b0 : (t174 == 0) = false := beq_eq_false_iff_ne.mpr c32
      have c32b1 : (t174 != 0) = true := bne_iff_ne.mpr c32
      by_cases c33 : t178 = 0
      · rw [if_pos c33] at H
        have c33b0 : (t178 == 0) = true := beq_iff_eq.mpr c33
        have c33b1 : (t178 != 0) = false := bne_eq_false_iff_eq.mpr c33
        clear c33
        replace H := Option.bind_eq_some_iff.mp H
        obtain ⟨t180, A340, H⟩ := H
        replace H : (if t180 = true then (if 0 ≤ (wrap64 (8 * (wrap64 (1 + (Int.tmod (Go.bits .and .i64 a1 65535) 7))))) then (some ((t174 == 0) == (decide (a0 < (shl .u64 1 (wrap64 (8 * (wrap64 (1 + (Int.tmod (Go.bits .and .i64 a1 65535) 7)))))))))) else (none)) else (some false)) = some r := H
        have A34 := Aside0.mk A340
        clear A340
        by_cases c35 : t180 = true
        · subst c35
          have H1 : (if 0 ≤ (wrap64 (8 * (wrap64 (1 + (Int.tmod (Go.bits .and .i64 a1 65535) 7))))) then (some ((t174 == 0) == (decide (a0 < (shl .u64 1 (wrap64 (8 * (wrap64 (1 + (Int.tmod (Go.bits .and .i64 a1 65535) 7)))))))))) else (none)) = some r := by rw [if_pos rfl] at H; exact H
          clear H
          have H := H1
          clear H1
          obtain ⟨ji36, hji36⟩ : ∃ j_ : Int, (wrap64 (8 * (wrap64 (1 + (Int.tmod (Go.bits .and .i64 a1 65535) 7))))) = j_ := ⟨_, rfl⟩
          replace H : (if 0 ≤ (ji36) then (some ((t174 == 0) == (decide (a0 < (shl .u64 1 (ji36)))))) else (none)) = some r := by first | (rw [hji36] at H; exact H) | (simp only [hji36] at H ⊢; exact H)
          (try rw [hji36] at A3)
          (try rw [hji36] at A4)
          (try rw [hji36] at A5)
          (try rw [hji36] at A34)
          have hji36w : (IntKind.i64.wrap (8 * (wrap64 (1 + (Int.tmod (Go.bits .and .i64 a1 65535) 7))))) = ji36 := (i64_w _).trans hji36
          by_cases c37 : 0 ≤ (ji36)
          · rw [if_pos c37] at H
            have c37b0 := eq_true c37
            have c37b1 : decide (0 ≤ (ji36)) = true := decide_eq_true c37
            clear c37
            obtain ⟨ji38, hji38⟩ : ∃ j_ : Int, (shl .u64 1 (ji36)) = j_ := ⟨_, rfl⟩
            replace H : (some ((t174 == 0) == (decide (a0 < (ji38))))) = some r := by first | (rw [hji38] at H; exact H) | (simp only [hji38] at H ⊢; exact H)
            (try rw [hji38] at A3)
            (try rw [hji38] at A4)
            (try rw [hji38] at A5)
            (try rw [hji38] at A34)
            have hji38_ : (IntKind.u64.wrap (1 * 2 ^ min (ji36).toNat 64)) = ji38 := hji38
            have hji38z : (ji36) ≤ 64 → (IntKind.u64.wrap (1 * 2 ^ (ji36).toNat)) = ji38 := shl_small hji38
            have hji38u : (IntKind.u64.wrap (2 ^ min (ji36).toNat 64)) = ji38 := by have h_ := hji38_; rw [Int.one_mul] at h_; exact h_
            have hji38v : (ji36) ≤ 64 → (IntKind.u64.wrap (2 ^ (ji36).toNat)) = ji38 := fun hle_ => by have h_ := hji38z hle_; rw [Int.one_mul] at h_; exact h_
            obtain rfl := Option.some.inj H
            go_enter Try.func6, Try.ntmps6
            go_wp2_with (first | ((with_reducible refine gate_callee (f := 11) rfl ?_); refine goesL_ (some 19) rfl rfl Try.func11 (by kernel_rfl) rfl #[.int .u64 a0, .int .i64 (wrap64 (1 + (Int.tmod (Go.bits .and .i64 a1 65535) 7))), .bool true] rfl (by (try simp only [List.map_toArray, List.map_cons, List.map_nil]); first | done | rfl | (simp only [List.length_drop, List.length_take]; rfl)) ?_; (with_reducible refine (words_Put.calls k a0 (wrap64 (1 + (Int.tmod (Go.bits .and .i64 a1 65535) 7))) true t173 t174 _ A3.out).mono ?_); rintro e w39 ⟨rfl, hb⟩; refine ⟨_, rfl, ?_⟩; have n0_ := Aside0.mk (below_step (by repeat (first | (with_reducible first | exact HB.out | apply below_alloc | apply pw_below_drewN | apply below_drew1) | exact HB.out)) hb); clear HB; have HB := n0_; clear n0_; (try clear hb); (try clear hb2); (try clear hk); (try clear hi)) | ((with_reducible refine gate_callee (f := 11) rfl ?_); refine goesL_ (some 26) rfl rfl Try.func11 (by kernel_rfl) rfl #[.int .u64 a0, .int .i64 (wrap64 ((wrap64 (1 + (Int.tmod (Go.bits .and .i64 a1 65535) 7))) + 1)), .bool true] rfl (by (try simp only [List.map_toArray, List.map_cons, List.map_nil]); first | done | rfl | (simp only [List.length_drop, List.length_take]; rfl)) ?_; (with_reducible refine (words_Put.calls k a0 (wrap64 ((wrap64 (1 + (Int.tmod (Go.bits .and .i64 a1 65535) 7))) + 1)) true t175 t176 _ A4.out).mono ?_); rintro e w40 ⟨rfl, hb⟩; refine ⟨_, rfl, ?_⟩; have n0_ := Aside0.mk (below_step (by repeat (first | (with_reducible first | exact HB.out | apply below_alloc | apply pw_below_drewN | apply below_drew1) | exact HB.out)) hb); clear HB; have HB := n0_; clear n0_; (try clear hb); (try clear hb2); (try clear hk); (try clear hi)) | ((with_reducible refine gate_callee (f := 11) rfl ?_); refine goesL_ (some 31) rfl rfl Try.func11 (by kernel_rfl) rfl #[.int .u64 a0, .int .i64 8, .bool true] rfl (by (try simp only [List.map_toArray, List.map_cons, List.map_nil]); first | done | rfl | (simp only [List.length_drop, List.length_take]; rfl)) ?_; (with_reducible refine (words_Put.calls k a0 8 true t177 t178 _ A5.out).mono ?_); rintro e w41 ⟨rfl, hb⟩; refine ⟨_, rfl, ?_⟩; have n0_ := Aside0.mk (below_step (by repeat (first | (with_reducible first | exact HB.out | apply below_alloc | apply pw_below_drewN | apply below_drew1) | exact HB.out)) hb); clear HB; have HB := n0_; clear n0_; (try clear hb); (try clear hb2); (try clear hk); (try clear hi)) | ((with_reducible refine gate_callee (f := 13) rfl ?_); refine goesL_ (some 44) rfl rfl Try.func13 (by kernel_rfl) rfl #[] rfl (by (try simp only [List.map_toArray, List.map_cons, List.map_nil]); first | done | rfl | (simp only [List.length_drop, List.length_take]; rfl)) ?_; (with_reducible refine (aqueductlaw01_fixed.calls k  true _ A34.out).mono ?_); rintro e w42 ⟨rfl, hb⟩; refine ⟨_, rfl, ?_⟩; have n0_ := Aside0.mk (below_step (by repeat (first | (with_reducible first | exact HB.out | apply below_alloc | apply pw_below_drewN | apply below_drew1) | exact HB.out)) hb); clear HB; have HB := n0_; clear n0_; (try clear hb); (try clear hb2); (try clear hk); (try clear hi)))
            go_ret
            exact ⟨by first | rfl | (simp [errW_none, errW_some] <;> rfl) | (simp only [← hji36, ← hji38]; first | rfl | (simp [errW_none, errW_some] <;> rfl)) | (simp [*, errW_none, errW_some] <;> rfl), by repeat (first | (with_reducible first | exact HB.out | apply below_alloc | apply pw_below_drewN | apply below_drew1) | exact HB.out)⟩
          · rw [if_neg c37] at H
            exact absurd H (by simp)
        · replace c35 := Bool.eq_false_iff.mpr c35
          subst c35
          have H1 : (some false) = some r := by rw [if_neg (show ¬ (false = true) by decide)] at H; exact H
          clear H
          have H := H1
          clear H1
          obtain rfl := Option.some.inj H
          exact absurd HR_.out (by decide)
      · rw [if_neg c33] at H
        have c33b0 : (t178 == 0) = false := beq_eq_false_iff_ne.mpr c33
        have c33b1 : (t178 != 0) = true := bne_iff_ne.mpr c33
        obtain rfl := Option.some.inj H
        exact absurd HR_.out (by decide)

/-- THE ONE PURE STATEMENT of aqueductlaw01_WordsGrow: yours. -/
def aqueductlaw01_WordsGrow.Pure : Prop := ∀ (a0 : Int) (a1 : Int), (Lit.int .u64 a0).wf = true → (Lit.int .i64 a1).wf = true → ∃ k, aqueductlaw01_WordsGrow.f k a0 a1 = some true
theorem aqueductlaw01_WordsGrow.walk (P : aqueductlaw01_WordsGrow.Pure) (a0 : Int) (a1 : Int) (w : World) (w0 : (Lit.int .u64 a0).wf = true) (w1 : (Lit.int .i64 a1).wf = true) :
    Calls Try.prog 6 #[.int .u64 a0, .int .i64 a1] w fun e w' => e = .returned (.bool true) ∧ Below w.heap.size w w' := by
  obtain ⟨k, h⟩ := P a0 a1 w0 w1
  refine (aqueductlaw01_WordsGrow.calls k a0 a1 true w h rfl).mono ?_
  rintro e w' ⟨rfl, hd⟩
  exact ⟨rfl, hd⟩

end Go.Proofs.Ytamicgnpmhbdbaa.P
