/- What functions of the program compute, each with the walk that shows it: by a program (a turned copy of the kit's print; wip/myprint.py). -/
import Derived.Test.YtiffbjpmmbfkjaaDoorPx0
namespace Go.Proofs.YtiffbjpmmbfkjaaDoor.P
open Go.RowKit Go.Proofs.YtiffbjpmmbfkjaaDoorW.PrintWords Go.Proofs.YtiffbjpmmbfkjaaDoorW.PrintLast Go.Proofs.YtiffbjpmmbfkjaaDoorW.PrintMore
attribute [local go_sem] max2_int min2_int max_two min_two max_three min_three max_four min_four   -- for this text's walks alone
set_option linter.unusedVariables false
set_option linter.unusedSimpArgs false

-- NOT PRINTED: function 35 (abi_NoEscape)

-- NOT PRINTED: function 30 (strings_Builder_copyCheck)

-- NOT PRINTED: function 36 (bytealg_MakeNoZero)

-- NOT PRINTED: function 31 (strings_Builder_grow)

-- NOT PRINTED: function 25 (strings_Builder_Grow)

-- NOT PRINTED: function 26 (strings_Builder_WriteString)

-- NOT PRINTED: function 27 (strings_Builder_String)

-- NOT PRINTED: function 19 (strings_Join)

/-! ### aqueductref05_digit: function 20 -/
def aqueductref05_digit.f (a0 : Int) : Option (ByteArray) := if 0 ≤ a0 then (if a0 ≤ (wrap64 (a0 + 1)) then (if (wrap64 (a0 + 1)) ≤ 16 then (some ((⟨#[48, 49, 50, 51, 52, 53, 54, 55, 56, 57, 97, 98, 99, 100, 101, 102]⟩ : ByteArray).extract (a0 : Int).toNat ((wrap64 (a0 + 1)) : Int).toNat)) else (none)) else (none)) else (none)
set_option maxHeartbeats 8000000 in
set_option maxRecDepth 100000 in
theorem aqueductref05_digit.calls (a0 : Int) (r : ByteArray) (w : World) (h : aqueductref05_digit.f a0 = some r) :
    Calls Tryd.prog 20 #[.int .i64 a0] w fun e w' => e = .returned (.string r) ∧ Drawn0 w w' := by
  have H : (if 0 ≤ a0 then (if a0 ≤ (wrap64 (a0 + 1)) then (if (wrap64 (a0 + 1)) ≤ 16 then (some ((⟨#[48, 49, 50, 51, 52, 53, 54, 55, 56, 57, 97, 98, 99, 100, 101, 102]⟩ : ByteArray).extract (a0 : Int).toNat ((wrap64 (a0 + 1)) : Int).toNat)) else (none)) else (none)) else (none)) = some r := h
  clear h
  by_cases c2 : 0 ≤ a0
  · rw [if_pos c2] at H
    have c2b0 := eq_true c2
    have c2b1 : decide (0 ≤ a0) = true := decide_eq_true c2
    clear c2
    by_cases c3 : a0 ≤ (wrap64 (a0 + 1))
    · rw [if_pos c3] at H
      have c3b0 := eq_true c3
      have c3b1 : decide (a0 ≤ (wrap64 (a0 + 1))) = true := decide_eq_true c3
      by_cases c4 : (wrap64 (a0 + 1)) ≤ 16
      · rw [if_pos c4] at H
        have c4b0 := eq_true c4
        have c4b1 : decide ((wrap64 (a0 + 1)) ≤ 16) = true := decide_eq_true c4
        obtain rfl := Option.some.inj H
        go_enter Tryd.func20, Tryd.ntmps20
        go_wp2
        go_ret
        exact ⟨by first | rfl | (simp; done) | (simp [*]; done), by repeat (first | exact Drawn0.refl _ | apply Drawn0.step)⟩
      · rw [if_neg c4] at H
        exact absurd H (by simp)
    · rw [if_neg c3] at H
      exact absurd H (by simp)
  · rw [if_neg c2] at H
    exact absurd H (by simp)

/-! ### aqueductref05_Print: function 9 -/
def aqueductref05_Print.l0 : Nat → ByteArray → ByteArray → Int → Option (ByteArray × Int)
  | 0, _, _, _ => none
  | k + 1, x0, x4, x5 => if x5 < 6 then (if x5 > 0 then (if x4.size + 1 ≤ 9223372036854775807 then (if 0 ≤ x5 then (if x5 < (x0.size : Int) then ((aqueductref05_digit.f (wrap64 (Int.tdiv (wrap64 (bt x0 x5)) 16))).bind fun t102 => ((aqueductref05_digit.f (Int.tmod (wrap64 (bt x0 x5)) 16)).bind fun t103 => (if t102.size + t103.size ≤ 9223372036854775807 then (if (x4 ++ (⟨#[58]⟩ : ByteArray)).size + (t102 ++ t103).size ≤ 9223372036854775807 then (aqueductref05_Print.l0 k x0 ((x4 ++ (⟨#[58]⟩ : ByteArray)) ++ (t102 ++ t103)) (wrap64 (x5 + 1))) else (none)) else (none)))) else (none)) else (none)) else (none)) else (if 0 ≤ x5 then (if x5 < (x0.size : Int) then ((aqueductref05_digit.f (wrap64 (Int.tdiv (wrap64 (bt x0 x5)) 16))).bind fun t104 => ((aqueductref05_digit.f (Int.tmod (wrap64 (bt x0 x5)) 16)).bind fun t105 => (if t104.size + t105.size ≤ 9223372036854775807 then (if x4.size + (t104 ++ t105).size ≤ 9223372036854775807 then (aqueductref05_Print.l0 k x0 (x4 ++ (t104 ++ t105)) (wrap64 (x5 + 1))) else (none)) else (none)))) else (none)) else (none))) else (some (x4, 0))
def aqueductref05_Print.f (k : Nat) (a0 : ByteArray) : Option (ByteArray × Int) := if (a0.size : Int) = 6 then (aqueductref05_Print.l0 k a0 (⟨#[]⟩ : ByteArray) 0) else (some ((⟨#[]⟩ : ByteArray), 1))
theorem aqueductref05_Print.mono_l : ∀ k, (∀ y0 y1 y2, LeO (aqueductref05_Print.l0 k y0 y1 y2) (aqueductref05_Print.l0 (k + 1) y0 y1 y2))
  | 0 => fun _ _ _ r h => by simp [aqueductref05_Print.l0] at h
  | k + 1 => by
    have ih0 := aqueductref05_Print.mono_l k
    · intro y0 y1 y2
      unfold aqueductref05_Print.l0
      repeat' first
      | (with_reducible exact ih0 _ _ _)
      | (with_reducible exact LeO.refl _)
      | (with_reducible exact LeO.none _)
      | (with_reducible refine LeO.ite ?_ ?_)
      | (with_reducible refine LeO.bind ?_ (fun _ => ?_))
      | exact ih0 _ _ _
      | exact LeO.none _
      | refine LeO.ite ?_ ?_
      | refine LeO.bind ?_ (fun _ => ?_)
theorem aqueductref05_Print.mono : ∀ a0 k, LeO (aqueductref05_Print.f k a0) (aqueductref05_Print.f (k + 1) a0) := by
  intro a0 k
  have ih0 := aqueductref05_Print.mono_l k
  unfold aqueductref05_Print.f
  repeat' first
      | (with_reducible exact ih0 _ _ _)
      | (with_reducible exact LeO.refl _)
      | (with_reducible exact LeO.none _)
      | (with_reducible refine LeO.ite ?_ ?_)
      | (with_reducible refine LeO.bind ?_ (fun _ => ?_))
      | exact ih0 _ _ _
      | exact LeO.none _
      | refine LeO.ite ?_ ?_
      | refine LeO.bind ?_ (fun _ => ?_)
set_option maxHeartbeats 8000000 in
set_option maxRecDepth 100000 in
theorem aqueductref05_Print.calls (k : Nat) (a0 : ByteArray) (r1 : ByteArray) (r2 : Int) (w : World) (h : aqueductref05_Print.f k a0 = some (r1, r2)) :
    Calls Tryd.prog 9 #[.string a0] w fun e w' => e = .returned (.tuple #[.string r1, .int .i64 r2]) ∧ Drawn0 w w' := by
  have H : (if (a0.size : Int) = 6 then (aqueductref05_Print.l0 k a0 (⟨#[]⟩ : ByteArray) 0) else (some ((⟨#[]⟩ : ByteArray), 1))) = some (r1, r2) := h
  clear h
  by_cases c2 : (a0.size : Int) = 6
  · rw [if_pos c2] at H
    have c2b0 : ((a0.size : Int) == 6) = true := beq_iff_eq.mpr c2
    have c2b1 : ((a0.size : Int) != 6) = false := bne_eq_false_iff_eq.mpr c2
    clear c2
    have H' := Aside0.mk H
    clear H
    go_enter Tryd.func9, Tryd.ntmps9
    go_wp2
    repeat (go_quiet (fail); try go_wp2)
    go_loopg [4, 5] k (fun kq v4 v5 w' => ∃ (x4_1 : ByteArray) (x5_1 : Int), v4 = .string x4_1 ∧ v5 = .int .i64 x5_1 ∧ Aside0 (aqueductref05_Print.l0 kq a0 x4_1 x5_1 = some (r1, r2)) ∧ Aside0 (kq ≤ k) ∧ Drawn0 w w')
    case atStart => exact ⟨((⟨#[]⟩ : ByteArray)), (0), (by first | rfl | (simp; done) | (simp [*]; done)), (by first | rfl | (simp; done) | (simp [*]; done)), H', ⟨Nat.le_refl _⟩, by repeat (first | exact Drawn0.refl _ | apply Drawn0.step)⟩
    case round =>
      clear H'
      try clear c2
      try clear c2b0
      try clear c2b1
      try clear p2
      obtain ⟨x4_1, x5_1, rfl, rfl, HA, HK1, ⟨m1, rfl⟩⟩ := hrel
      cases gk with
      | zero => exact absurd HA.out (by simp [aqueductref05_Print.l0])
      | succ k1 =>
        have H := HA.out
        clear HA
        simp only [aqueductref05_Print.l0] at H
        by_cases c3 : x5_1 < 6
        · rw [if_pos c3] at H
          have c3b0 : decide (x5_1 < 6) = true := decide_eq_true c3
          clear c3
          by_cases c4 : x5_1 > 0
          · rw [if_pos c4] at H
            have c4b0 : decide (0 < x5_1) = true := decide_eq_true c4
            clear c4
            by_cases c5 : x4_1.size + 1 ≤ 9223372036854775807
            · rw [if_pos c5] at H
              have c5b0 := eq_true c5
              have c5b1 : decide (x4_1.size + 1 ≤ 9223372036854775807) = true := decide_eq_true c5
              try have c5b2 : (9223372036854775807 < x4_1.size + 1) = False := eq_false (Nat.not_lt.2 c5)
              by_cases c6 : 0 ≤ x5_1
              · rw [if_pos c6] at H
                have c6b0 : decide (0 ≤ x5_1) = true := decide_eq_true c6
                clear c6
                by_cases c7 : x5_1 < (a0.size : Int)
                · rw [if_pos c7] at H
                  have c7b0 : decide (x5_1 < (a0.size : Int)) = true := decide_eq_true c7
                  clear c7
                  replace H := Option.bind_eq_some_iff.mp H
                  obtain ⟨t102, A90, H⟩ := H
                  replace H : ((aqueductref05_digit.f (Int.tmod (wrap64 (bt a0 x5_1)) 16)).bind fun t103 => (if t102.size + t103.size ≤ 9223372036854775807 then (if (x4_1 ++ (⟨#[58]⟩ : ByteArray)).size + (t102 ++ t103).size ≤ 9223372036854775807 then (aqueductref05_Print.l0 k1 a0 ((x4_1 ++ (⟨#[58]⟩ : ByteArray)) ++ (t102 ++ t103)) (wrap64 (x5_1 + 1))) else (none)) else (none))) = some (r1, r2) := H
                  have A9 := Aside0.mk A90
                  clear A90
                  replace H := Option.bind_eq_some_iff.mp H
                  obtain ⟨t103, A110, H⟩ := H
                  replace H : (if t102.size + t103.size ≤ 9223372036854775807 then (if (x4_1 ++ (⟨#[58]⟩ : ByteArray)).size + (t102 ++ t103).size ≤ 9223372036854775807 then (aqueductref05_Print.l0 k1 a0 ((x4_1 ++ (⟨#[58]⟩ : ByteArray)) ++ (t102 ++ t103)) (wrap64 (x5_1 + 1))) else (none)) else (none)) = some (r1, r2) := H
                  have A11 := Aside0.mk A110
                  clear A110
                  by_cases c12 : t102.size + t103.size ≤ 9223372036854775807
                  · rw [if_pos c12] at H
                    have c12b0 := eq_true c12
                    have c12b1 : decide (t102.size + t103.size ≤ 9223372036854775807) = true := decide_eq_true c12
                    try have c12b2 : (9223372036854775807 < t102.size + t103.size) = False := eq_false (Nat.not_lt.2 c12)
                    by_cases c13 : (x4_1 ++ (⟨#[58]⟩ : ByteArray)).size + (t102 ++ t103).size ≤ 9223372036854775807
                    · rw [if_pos c13] at H
                      have c13b0 := eq_true c13
                      have c13b1 : decide ((x4_1 ++ (⟨#[58]⟩ : ByteArray)).size + (t102 ++ t103).size ≤ 9223372036854775807) = true := decide_eq_true c13
                      try have c13b2 : (9223372036854775807 < (x4_1 ++ (⟨#[58]⟩ : ByteArray)).size + (t102 ++ t103).size) = False := eq_false (Nat.not_lt.2 c13)
                      (try (have c13b3 : (9223372036854775807 < ((x4_1.size) + ((⟨#[58]⟩ : ByteArray).size)) + ((t102.size) + (t103.size))) = False := eq_false (by have h_ := c13; simp only [ByteArray.size_append] at h_; omega)))
                      (try (have c13b4 : (((x4_1.size) + ((⟨#[58]⟩ : ByteArray).size)) + ((t102.size) + (t103.size)) ≤ 9223372036854775807) = True := eq_true (by have h_ := c13; simp only [ByteArray.size_append] at h_; omega)))
                      have H' := Aside0.mk H
                      clear H
                      have p8 : 0 ≤ (x5_1 : Int) := of_decide_eq_true (by first | (with_reducible assumption) | assumption)
                      have q8 : x5_1 < (a0.size : Int) := of_decide_eq_true (by first | (with_reducible assumption) | assumption)
                      have hx8 := bt_at a0 x5_1
                      replace p8 := eq_true p8
                      replace q8 := eq_true q8
                      go_wp2_with (first | (go_at_call 20; (with_reducible refine (aqueductref05_digit.calls (wrap64 (Int.tdiv (wrap64 (bt a0 x5_1)) 16)) t102 _ A9.out).mono ?_); rintro e w' ⟨rfl, ⟨nd, rfl⟩⟩; (try first | exact ⟨rfl, _, World.drewN_drewN _ _ _⟩ | exact ⟨rfl, _, Eq.trans (World.drewN_drewN _ _ _) (congrArg (World.drewN _) (Nat.add_assoc _ _ _))⟩); have p10 : 0 ≤ (x5_1 : Int) := of_decide_eq_true (by first | (with_reducible assumption) | assumption); have q10 : x5_1 < (a0.size : Int) := of_decide_eq_true (by first | (with_reducible assumption) | assumption); have hx10 := bt_at a0 x5_1; replace p10 := eq_true p10; replace q10 := eq_true q10) | (go_at_call 20; (with_reducible refine (aqueductref05_digit.calls (Int.tmod (wrap64 (bt a0 x5_1)) 16) t103 _ A11.out).mono ?_); rintro e w' ⟨rfl, ⟨nd, rfl⟩⟩; (try first | exact ⟨rfl, _, World.drewN_drewN _ _ _⟩ | exact ⟨rfl, _, Eq.trans (World.drewN_drewN _ _ _) (congrArg (World.drewN _) (Nat.add_assoc _ _ _))⟩)))
                      repeat (go_quiet (first | (go_at_call 20; (with_reducible refine (aqueductref05_digit.calls (wrap64 (Int.tdiv (wrap64 (bt a0 x5_1)) 16)) t102 _ A9.out).mono ?_); rintro e w' ⟨rfl, ⟨nd, rfl⟩⟩; (try first | exact ⟨rfl, _, World.drewN_drewN _ _ _⟩ | exact ⟨rfl, _, Eq.trans (World.drewN_drewN _ _ _) (congrArg (World.drewN _) (Nat.add_assoc _ _ _))⟩)) | (go_at_call 20; (with_reducible refine (aqueductref05_digit.calls (Int.tmod (wrap64 (bt a0 x5_1)) 16) t103 _ A11.out).mono ?_); rintro e w' ⟨rfl, ⟨nd, rfl⟩⟩; (try first | exact ⟨rfl, _, World.drewN_drewN _ _ _⟩ | exact ⟨rfl, _, Eq.trans (World.drewN_drewN _ _ _) (congrArg (World.drewN _) (Nat.add_assoc _ _ _))⟩))); try go_wp2_with (first | (go_at_call 20; (with_reducible refine (aqueductref05_digit.calls (wrap64 (Int.tdiv (wrap64 (bt a0 x5_1)) 16)) t102 _ A9.out).mono ?_); rintro e w' ⟨rfl, ⟨nd, rfl⟩⟩; (try first | exact ⟨rfl, _, World.drewN_drewN _ _ _⟩ | exact ⟨rfl, _, Eq.trans (World.drewN_drewN _ _ _) (congrArg (World.drewN _) (Nat.add_assoc _ _ _))⟩)) | (go_at_call 20; (with_reducible refine (aqueductref05_digit.calls (Int.tmod (wrap64 (bt a0 x5_1)) 16) t103 _ A11.out).mono ?_); rintro e w' ⟨rfl, ⟨nd, rfl⟩⟩; (try first | exact ⟨rfl, _, World.drewN_drewN _ _ _⟩ | exact ⟨rfl, _, Eq.trans (World.drewN_drewN _ _ _) (congrArg (World.drewN _) (Nat.add_assoc _ _ _))⟩))))
                      go_roundg k1
                      case measure => have := HK1.out; omega
                      case rel => exact ⟨((x4_1 ++ (⟨#[58]⟩ : ByteArray)) ++ (t102 ++ t103)), (wrap64 (x5_1 + 1)), (by first | rfl | (simp; done) | (simp [*]; done)), (by first | rfl | (simp; done) | (simp [*]; done)), H', ⟨by have := HK1.out; omega⟩, by repeat (first | exact Drawn0.refl _ | apply Drawn0.step)⟩
                    · rw [if_neg c13] at H
                      exact absurd H (by simp)
                  · rw [if_neg c12] at H
                    exact absurd H (by simp)
                · rw [if_neg c7] at H
                  exact absurd H (by simp)
              · rw [if_neg c6] at H
                exact absurd H (by simp)
            · rw [if_neg c5] at H
              exact absurd H (by simp)
          · rw [if_neg c4] at H
            have c4b0 : decide (0 < x5_1) = false := decide_eq_false c4
            clear c4
            by_cases c14 : 0 ≤ x5_1
            · rw [if_pos c14] at H
              have c14b0 : decide (0 ≤ x5_1) = true := decide_eq_true c14
              clear c14
              by_cases c15 : x5_1 < (a0.size : Int)
              · rw [if_pos c15] at H
                have c15b0 : decide (x5_1 < (a0.size : Int)) = true := decide_eq_true c15
                clear c15
                replace H := Option.bind_eq_some_iff.mp H
                obtain ⟨t104, A170, H⟩ := H
                replace H : ((aqueductref05_digit.f (Int.tmod (wrap64 (bt a0 x5_1)) 16)).bind fun t105 => (if t104.size + t105.size ≤ 9223372036854775807 then (if x4_1.size + (t104 ++ t105).size ≤ 9223372036854775807 then (aqueductref05_Print.l0 k1 a0 (x4_1 ++ (t104 ++ t105)) (wrap64 (x5_1 + 1))) else (none)) else (none))) = some (r1, r2) := H
                have A17 := Aside0.mk A170
                clear A170
                replace H := Option.bind_eq_some_iff.mp H
                obtain ⟨t105, A190, H⟩ := H
                replace H : (if t104.size + t105.size ≤ 9223372036854775807 then (if x4_1.size + (t104 ++ t105).size ≤ 9223372036854775807 then (aqueductref05_Print.l0 k1 a0 (x4_1 ++ (t104 ++ t105)) (wrap64 (x5_1 + 1))) else (none)) else (none)) = some (r1, r2) := H
                have A19 := Aside0.mk A190
                clear A190
                by_cases c20 : t104.size + t105.size ≤ 9223372036854775807
                · rw [if_pos c20] at H
                  have c20b0 := eq_true c20
                  have c20b1 : decide (t104.size + t105.size ≤ 9223372036854775807) = true := decide_eq_true c20
                  try have c20b2 : (9223372036854775807 < t104.size + t105.size) = False := eq_false (Nat.not_lt.2 c20)
                  by_cases c21 : x4_1.size + (t104 ++ t105).size ≤ 9223372036854775807
                  · rw [if_pos c21] at H
                    have c21b0 := eq_true c21
                    have c21b1 : decide (x4_1.size + (t104 ++ t105).size ≤ 9223372036854775807) = true := decide_eq_true c21
                    try have c21b2 : (9223372036854775807 < x4_1.size + (t104 ++ t105).size) = False := eq_false (Nat.not_lt.2 c21)
                    (try (have c21b3 : (9223372036854775807 < x4_1.size + ((t104.size) + (t105.size))) = False := eq_false (by have h_ := c21; simp only [ByteArray.size_append] at h_; omega)))
                    (try (have c21b4 : (x4_1.size + ((t104.size) + (t105.size)) ≤ 9223372036854775807) = True := eq_true (by have h_ := c21; simp only [ByteArray.size_append] at h_; omega)))
                    have H' := Aside0.mk H
                    clear H
                    have p16 : 0 ≤ (x5_1 : Int) := of_decide_eq_true (by first | (with_reducible assumption) | assumption)
                    have q16 : x5_1 < (a0.size : Int) := of_decide_eq_true (by first | (with_reducible assumption) | assumption)
                    have hx16 := bt_at a0 x5_1
                    replace p16 := eq_true p16
                    replace q16 := eq_true q16
                    go_wp2_with (first | (go_at_call 20; (with_reducible refine (aqueductref05_digit.calls (wrap64 (Int.tdiv (wrap64 (bt a0 x5_1)) 16)) t104 _ A17.out).mono ?_); rintro e w' ⟨rfl, ⟨nd, rfl⟩⟩; (try first | exact ⟨rfl, _, World.drewN_drewN _ _ _⟩ | exact ⟨rfl, _, Eq.trans (World.drewN_drewN _ _ _) (congrArg (World.drewN _) (Nat.add_assoc _ _ _))⟩); have p18 : 0 ≤ (x5_1 : Int) := of_decide_eq_true (by first | (with_reducible assumption) | assumption); have q18 : x5_1 < (a0.size : Int) := of_decide_eq_true (by first | (with_reducible assumption) | assumption); have hx18 := bt_at a0 x5_1; replace p18 := eq_true p18; replace q18 := eq_true q18) | (go_at_call 20; (with_reducible refine (aqueductref05_digit.calls (Int.tmod (wrap64 (bt a0 x5_1)) 16) t105 _ A19.out).mono ?_); rintro e w' ⟨rfl, ⟨nd, rfl⟩⟩; (try first | exact ⟨rfl, _, World.drewN_drewN _ _ _⟩ | exact ⟨rfl, _, Eq.trans (World.drewN_drewN _ _ _) (congrArg (World.drewN _) (Nat.add_assoc _ _ _))⟩)))
                    repeat (go_quiet (first | (go_at_call 20; (with_reducible refine (aqueductref05_digit.calls (wrap64 (Int.tdiv (wrap64 (bt a0 x5_1)) 16)) t104 _ A17.out).mono ?_); rintro e w' ⟨rfl, ⟨nd, rfl⟩⟩; (try first | exact ⟨rfl, _, World.drewN_drewN _ _ _⟩ | exact ⟨rfl, _, Eq.trans (World.drewN_drewN _ _ _) (congrArg (World.drewN _) (Nat.add_assoc _ _ _))⟩)) | (go_at_call 20; (with_reducible refine (aqueductref05_digit.calls (Int.tmod (wrap64 (bt a0 x5_1)) 16) t105 _ A19.out).mono ?_); rintro e w' ⟨rfl, ⟨nd, rfl⟩⟩; (try first | exact ⟨rfl, _, World.drewN_drewN _ _ _⟩ | exact ⟨rfl, _, Eq.trans (World.drewN_drewN _ _ _) (congrArg (World.drewN _) (Nat.add_assoc _ _ _))⟩))); try go_wp2_with (first | (go_at_call 20; (with_reducible refine (aqueductref05_digit.calls (wrap64 (Int.tdiv (wrap64 (bt a0 x5_1)) 16)) t104 _ A17.out).mono ?_); rintro e w' ⟨rfl, ⟨nd, rfl⟩⟩; (try first | exact ⟨rfl, _, World.drewN_drewN _ _ _⟩ | exact ⟨rfl, _, Eq.trans (World.drewN_drewN _ _ _) (congrArg (World.drewN _) (Nat.add_assoc _ _ _))⟩)) | (go_at_call 20; (with_reducible refine (aqueductref05_digit.calls (Int.tmod (wrap64 (bt a0 x5_1)) 16) t105 _ A19.out).mono ?_); rintro e w' ⟨rfl, ⟨nd, rfl⟩⟩; (try first | exact ⟨rfl, _, World.drewN_drewN _ _ _⟩ | exact ⟨rfl, _, Eq.trans (World.drewN_drewN _ _ _) (congrArg (World.drewN _) (Nat.add_assoc _ _ _))⟩))))
                    go_roundg k1
                    case measure => have := HK1.out; omega
                    case rel => exact ⟨(x4_1 ++ (t104 ++ t105)), (wrap64 (x5_1 + 1)), (by first | rfl | (simp; done) | (simp [*]; done)), (by first | rfl | (simp; done) | (simp [*]; done)), H', ⟨by have := HK1.out; omega⟩, by repeat (first | exact Drawn0.refl _ | apply Drawn0.step)⟩
                  · rw [if_neg c21] at H
                    exact absurd H (by simp)
                · rw [if_neg c20] at H
                  exact absurd H (by simp)
              · rw [if_neg c15] at H
                exact absurd H (by simp)
            · rw [if_neg c14] at H
              exact absurd H (by simp)
        · rw [if_neg c3] at H
          have c3b0 : decide (x5_1 < 6) = false := decide_eq_false c3
          clear c3
          simp only [Option.some.injEq, Prod.mk.injEq] at H
          obtain ⟨rfl, rfl⟩ := H
          go_wp2
          repeat (go_quiet (fail); try go_wp2)
          go_ret2
          exact ⟨by first | rfl | (simp; done) | (simp [*]; done), by repeat (first | exact Drawn0.refl _ | apply Drawn0.step)⟩
  · rw [if_neg c2] at H
    have c2b0 : ((a0.size : Int) == 6) = false := beq_eq_false_iff_ne.mpr c2
    have c2b1 : ((a0.size : Int) != 6) = true := bne_iff_ne.mpr c2
    simp only [Option.some.injEq, Prod.mk.injEq] at H
    obtain ⟨rfl, rfl⟩ := H
    go_enter Tryd.func9, Tryd.ntmps9
    go_wp2
    repeat (go_quiet (fail); try go_wp2)
    go_ret2
    exact ⟨by first | rfl | (simp; done) | (simp [*]; done), by repeat (first | exact Drawn0.refl _ | apply Drawn0.step)⟩

-- NOT PRINTED: function 37 (utf8_RuneCountInString)

-- NOT PRINTED: function 41 (utf8_decodeRuneInStringSlow)

-- NOT PRINTED: function 38 (utf8_DecodeRuneInString)

-- NOT PRINTED: function 32 (strings_explode)

-- NOT PRINTED: function 46 (bytealg_IndexByteString)

-- NOT PRINTED: function 42 (stringslite_IndexByte)

-- NOT PRINTED: function 43 (bytealg_IndexString)

/-! ### bytealg_Cutover: function 44 -/
def bytealg_Cutover.f (a0 : Int) : Option (Int) := some (wrap64 (Int.tdiv (wrap64 (a0 + 16)) 8))
set_option maxHeartbeats 8000000 in
set_option maxRecDepth 100000 in
theorem bytealg_Cutover.calls (a0 : Int) (r : Int) (w : World) (h : bytealg_Cutover.f a0 = some r) :
    Calls Tryd.prog 44 #[.int .i64 a0] w fun e w' => e = .returned (.int .i64 r) ∧ Drawn0 w w' := by
  have H : (some (wrap64 (Int.tdiv (wrap64 (a0 + 16)) 8))) = some r := h
  clear h
  obtain rfl := Option.some.inj H
  go_enter Tryd.func44, Tryd.ntmps44
  go_wp2
  go_ret
  exact ⟨by first | rfl | (simp; done) | (simp [*]; done), by repeat (first | exact Drawn0.refl _ | apply Drawn0.step)⟩

end Go.Proofs.YtiffbjpmmbfkjaaDoor.P
