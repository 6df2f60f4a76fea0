/- What functions of the program compute, each with the walk that shows it: by a program (a turned copy of the kit's print; wip/myprint.py). -/
import Derived.Test.YtehaffldjnmblaaPx0
namespace Go.Proofs.Ytehaffldjnmblaa.P
open Go.RowKit Go.Proofs.YtehaffldjnmblaaW.PrintWords Go.Proofs.YtehaffldjnmblaaW.PrintLast Go.Proofs.YtehaffldjnmblaaW.PrintMore
attribute [local go_sem] max2_int min2_int max_two min_two max_three min_three max_four min_four   -- for this text's walks alone
set_option linter.unusedVariables false
set_option linter.unusedSimpArgs false

/-! ### desc_says: function 25 -/
def desc_says.j0 : Nat → Bool → Bool → Bool → Bool → Option (Int)
  | 0, _, _, _, _ => none
  | k + 1, x1, x5, x6, x13 => if x13 = true then (some 2) else (if (x5 != x6) = true then (if (x5 == x1) = true then (some 1) else (some 0)) else (some 0))
def desc_says.f (k : Nat) (a0 : Int) (a1 : Bool) : Option (Int) := if (((Go.bits .and .i64 a0 128) != 0) == ((Go.bits .and .i64 a0 32768) != 0)) = true then (desc_says.j0 k a1 ((Go.bits .and .i64 a0 128) != 0) ((Go.bits .and .i64 a0 32768) != 0) (((Go.bits .and .i64 a0 128) != 0) == a1)) else (desc_says.j0 k a1 ((Go.bits .and .i64 a0 128) != 0) ((Go.bits .and .i64 a0 32768) != 0) false)
theorem desc_says.mono_l : ∀ k, (∀ y0 y1 y2 y3, LeO (desc_says.j0 k y0 y1 y2 y3) (desc_says.j0 (k + 1) y0 y1 y2 y3))
  | 0 => fun _ _ _ _ r h => by simp [desc_says.j0] at h
  | k + 1 => by
    have ih0 := desc_says.mono_l k
    · intro y0 y1 y2 y3
      unfold desc_says.j0
      repeat' first
      | (with_reducible exact ih0 _ _ _ _)
      | (with_reducible exact LeO.refl _)
      | (with_reducible exact LeO.none _)
      | (with_reducible refine LeO.ite ?_ ?_)
      | (with_reducible refine LeO.bind ?_ (fun _ => ?_))
      | exact ih0 _ _ _ _
      | exact LeO.none _
      | refine LeO.ite ?_ ?_
      | refine LeO.bind ?_ (fun _ => ?_)
theorem desc_says.mono : ∀ a0 a1 k, LeO (desc_says.f k a0 a1) (desc_says.f (k + 1) a0 a1) := by
  intro a0 a1 k
  have ih0 := desc_says.mono_l k
  unfold desc_says.f
  repeat' first
      | (with_reducible exact ih0 _ _ _ _)
      | (with_reducible exact LeO.refl _)
      | (with_reducible exact LeO.none _)
      | (with_reducible refine LeO.ite ?_ ?_)
      | (with_reducible refine LeO.bind ?_ (fun _ => ?_))
      | exact ih0 _ _ _ _
      | exact LeO.none _
      | refine LeO.ite ?_ ?_
      | refine LeO.bind ?_ (fun _ => ?_)
set_option maxHeartbeats 8000000 in
set_option maxRecDepth 100000 in
theorem desc_says.calls (k : Nat) (a0 : Int) (a1 : Bool) (r : Int) (w : World) (h : desc_says.f k a0 a1 = some r) :
    Calls Try.prog 25 #[.int .i64 a0, .bool a1] w fun e w' => e = .returned (.int .i64 r) ∧ Drawn0 w w' := by
  have H : (if (((Go.bits .and .i64 a0 128) != 0) == ((Go.bits .and .i64 a0 32768) != 0)) = true then (desc_says.j0 k a1 ((Go.bits .and .i64 a0 128) != 0) ((Go.bits .and .i64 a0 32768) != 0) (((Go.bits .and .i64 a0 128) != 0) == a1)) else (desc_says.j0 k a1 ((Go.bits .and .i64 a0 128) != 0) ((Go.bits .and .i64 a0 32768) != 0) false)) = some r := h
  clear h
  have HC3 := Aside0.mk H
  clear H
  go_enter Try.func25, Try.ntmps25
  go_upto_region 2 with (fail)
  go_cut [13] (fun v13 wc => ∃ (kq : Nat) (x13_2 : Bool), v13 = .bool x13_2 ∧ Aside0 (desc_says.j0 kq a1 ((Go.bits .and .i64 a0 128) != 0) ((Go.bits .and .i64 a0 32768) != 0) x13_2 = some r) ∧ Aside0 (kq ≤ k) ∧ Drawn0 w wc)
  case first =>
    have H := HC3.out
    clear HC3
    by_cases c4 : (((Go.bits .and .i64 a0 128) != 0) == ((Go.bits .and .i64 a0 32768) != 0)) = true
    · rw [if_pos c4] at H
      have c4b0 : (((Go.bits .and .i64 a0 128) != 0) == ((Go.bits .and .i64 a0 32768) != 0)) = true := c4
      (try (have c4b1 : decide (((Go.bits .and .i64 a0 128) != 0) = ((Go.bits .and .i64 a0 32768) != 0)) = true := by simpa using c4))
      (try (have c4b2 : (((Go.bits .and .i64 a0 128) != 0) == ((Go.bits .and .i64 a0 32768) != 0)) = true := by simpa using c4))
      clear c4
      (first | rw [c4b0] | (simp only [i64_w, i32_w]; rw [c4b0]) | skip)
      have H' := Aside0.mk H
      clear H
      go_wp2
      go_meet
      case rel => exact ⟨_, ((((Go.bits .and .i64 a0 128) != 0) == a1)), (by first | rfl | (simp; done) | (simp [*]; done)), H', ⟨by first | omega | exact Nat.le_refl _⟩, by repeat (first | exact Drawn0.refl _ | apply Drawn0.step)⟩
    · rw [if_neg c4] at H
      have c4b0 : (((Go.bits .and .i64 a0 128) != 0) == ((Go.bits .and .i64 a0 32768) != 0)) = false := by simpa using c4
      (try (have c4b1 : decide (((Go.bits .and .i64 a0 128) != 0) = ((Go.bits .and .i64 a0 32768) != 0)) = false := by simpa using c4))
      (try (have c4b2 : (((Go.bits .and .i64 a0 128) != 0) == ((Go.bits .and .i64 a0 32768) != 0)) = false := by simpa using c4))
      (try (have c4b3 : ¬ (((Go.bits .and .i64 a0 128) != 0) = ((Go.bits .and .i64 a0 32768) != 0)) := by simpa using c4))
      clear c4
      (first | rw [c4b0] | (simp only [i64_w, i32_w]; rw [c4b0]) | skip)
      have H' := Aside0.mk H
      clear H
      go_wp2
      go_meet
      case rel => exact ⟨_, (false), (by first | rfl | (simp; done) | (simp [*]; done)), H', ⟨by first | omega | exact Nat.le_refl _⟩, by repeat (first | exact Drawn0.refl _ | apply Drawn0.step)⟩
  case rest =>
    clear HC3
    try clear c2
    try clear p2
    try clear c4
    try clear c4b0
    try clear c4b1
    try clear c4b2
    obtain ⟨kq, x13_2, rfl, HA, HJ2, ⟨mc2, rfl⟩⟩ := hcut
    cases kq with
    | zero => exact absurd HA.out (by simp [desc_says.j0])
    | succ kj2 =>
      have H := HA.out
      clear HA
      simp only [desc_says.j0] at H
      by_cases c5 : x13_2 = true
      · subst c5
        have H1 : (some 2) = some r := by rw [if_pos rfl] at H; exact H
        clear H
        have H := H1
        clear H1
        obtain rfl := Option.some.inj H
        go_wp2
        go_ret
        exact ⟨by first | rfl | (simp; done) | (simp [*]; done), by repeat (first | exact Drawn0.refl _ | apply Drawn0.step)⟩
      · replace c5 := Bool.eq_false_iff.mpr c5
        subst c5
        have H1 : (if (((Go.bits .and .i64 a0 128) != 0) != ((Go.bits .and .i64 a0 32768) != 0)) = true then (if (((Go.bits .and .i64 a0 128) != 0) == a1) = true then (some 1) else (some 0)) else (some 0)) = some r := by rw [if_neg (show ¬ (false = true) by decide)] at H; exact H
        clear H
        have H := H1
        clear H1
        by_cases c6 : (((Go.bits .and .i64 a0 128) != 0) != ((Go.bits .and .i64 a0 32768) != 0)) = true
        · rw [if_pos c6] at H
          have c6b0 : (((Go.bits .and .i64 a0 128) != 0) != ((Go.bits .and .i64 a0 32768) != 0)) = true := c6
          (try (have c6b1 : decide (((Go.bits .and .i64 a0 128) != 0) = ((Go.bits .and .i64 a0 32768) != 0)) = false := by simpa using c6))
          (try (have c6b2 : (((Go.bits .and .i64 a0 128) != 0) == ((Go.bits .and .i64 a0 32768) != 0)) = false := by simpa using c6))
          (try (have c6b3 : ¬ (((Go.bits .and .i64 a0 128) != 0) = ((Go.bits .and .i64 a0 32768) != 0)) := by simpa using c6))
          clear c6
          by_cases c7 : (((Go.bits .and .i64 a0 128) != 0) == a1) = true
          · rw [if_pos c7] at H
            have c7b0 : (((Go.bits .and .i64 a0 128) != 0) == a1) = true := c7
            (try (have c7b1 : decide (((Go.bits .and .i64 a0 128) != 0) = a1) = true := by simpa using c7))
            (try (have c7b2 : (((Go.bits .and .i64 a0 128) != 0) == a1) = true := by simpa using c7))
            clear c7
            obtain rfl := Option.some.inj H
            go_wp2
            go_ret
            exact ⟨by first | rfl | (simp; done) | (simp [*]; done), by repeat (first | exact Drawn0.refl _ | apply Drawn0.step)⟩
          · rw [if_neg c7] at H
            have c7b0 : (((Go.bits .and .i64 a0 128) != 0) == a1) = false := by simpa using c7
            (try (have c7b1 : decide (((Go.bits .and .i64 a0 128) != 0) = a1) = false := by simpa using c7))
            (try (have c7b2 : (((Go.bits .and .i64 a0 128) != 0) == a1) = false := by simpa using c7))
            (try (have c7b3 : ¬ (((Go.bits .and .i64 a0 128) != 0) = a1) := by simpa using c7))
            clear c7
            obtain rfl := Option.some.inj H
            go_wp2
            go_ret
            exact ⟨by first | rfl | (simp; done) | (simp [*]; done), by repeat (first | exact Drawn0.refl _ | apply Drawn0.step)⟩
        · rw [if_neg c6] at H
          have c6b0 : (((Go.bits .and .i64 a0 128) != 0) != ((Go.bits .and .i64 a0 32768) != 0)) = false := by simpa using c6
          (try (have c6b1 : decide (((Go.bits .and .i64 a0 128) != 0) = ((Go.bits .and .i64 a0 32768) != 0)) = true := by simpa using c6))
          (try (have c6b2 : (((Go.bits .and .i64 a0 128) != 0) == ((Go.bits .and .i64 a0 32768) != 0)) = true := by simpa using c6))
          clear c6
          obtain rfl := Option.some.inj H
          go_wp2
          go_ret
          exact ⟨by first | rfl | (simp; done) | (simp [*]; done), by repeat (first | exact Drawn0.refl _ | apply Drawn0.step)⟩

/-! ### desc_Avail: function 14 -/
def desc_Avail.f (k : Nat) (a0 : Int) (a1 : Bool) : Option (Bool) := (desc_says.f k a0 a1).bind fun t141 => (some (t141 == 1))
theorem desc_Avail.mono : ∀ a0 a1 k, LeO (desc_Avail.f k a0 a1) (desc_Avail.f (k + 1) a0 a1) := by
  intro a0 a1 k
  unfold desc_Avail.f
  repeat' first
      | (with_reducible exact desc_says.mono _ _ _)
      | (with_reducible exact LeO.refl _)
      | (with_reducible exact LeO.none _)
      | (with_reducible refine LeO.ite ?_ ?_)
      | (with_reducible refine LeO.bind ?_ (fun _ => ?_))
      | exact desc_says.mono _ _ _
      | exact LeO.none _
      | refine LeO.ite ?_ ?_
      | refine LeO.bind ?_ (fun _ => ?_)
set_option maxHeartbeats 8000000 in
set_option maxRecDepth 100000 in
theorem desc_Avail.calls (k : Nat) (a0 : Int) (a1 : Bool) (r : Bool) (w : World) (h : desc_Avail.f k a0 a1 = some r) :
    Calls Try.prog 14 #[.int .i64 a0, .bool a1] w fun e w' => e = .returned (.bool r) ∧ Drawn0 w w' := by
  have H : ((desc_says.f k a0 a1).bind fun t141 => (some (t141 == 1))) = some r := h
  clear h
  replace H := Option.bind_eq_some_iff.mp H
  obtain ⟨t141, A30, H⟩ := H
  replace H : (some (t141 == 1)) = some r := H
  have A3 := Aside0.mk A30
  clear A30
  obtain rfl := Option.some.inj H
  go_enter Try.func14, Try.ntmps14
  go_wp2_with (first | ((with_reducible refine gate_callee (f := 25) rfl ?_); refine goesL_ (some 7) rfl rfl Try.func25 (by kernel_rfl) rfl #[.int .i64 a0, .bool a1] rfl (by (try simp only [List.map_toArray, List.map_cons, List.map_nil]); first | done | rfl | (simp only [List.length_drop, List.length_take]; rfl)) ?_; (with_reducible refine (desc_says.calls k a0 a1 t141 _ A3.out).mono ?_); rintro e w' ⟨rfl, ⟨nd, rfl⟩⟩; refine ⟨_, rfl, ?_⟩))
  go_ret
  exact ⟨by first | rfl | (simp; done) | (simp [*]; done), by repeat (first | exact Drawn0.refl _ | apply Drawn0.step)⟩

/-! ### desc_Used: function 16 -/
def desc_Used.f (k : Nat) (a0 : Int) (a1 : Bool) : Option (Bool) := (desc_says.f k a0 a1).bind fun t142 => (some (t142 == 2))
theorem desc_Used.mono : ∀ a0 a1 k, LeO (desc_Used.f k a0 a1) (desc_Used.f (k + 1) a0 a1) := by
  intro a0 a1 k
  unfold desc_Used.f
  repeat' first
      | (with_reducible exact desc_says.mono _ _ _)
      | (with_reducible exact LeO.refl _)
      | (with_reducible exact LeO.none _)
      | (with_reducible refine LeO.ite ?_ ?_)
      | (with_reducible refine LeO.bind ?_ (fun _ => ?_))
      | exact desc_says.mono _ _ _
      | exact LeO.none _
      | refine LeO.ite ?_ ?_
      | refine LeO.bind ?_ (fun _ => ?_)
set_option maxHeartbeats 8000000 in
set_option maxRecDepth 100000 in
theorem desc_Used.calls (k : Nat) (a0 : Int) (a1 : Bool) (r : Bool) (w : World) (h : desc_Used.f k a0 a1 = some r) :
    Calls Try.prog 16 #[.int .i64 a0, .bool a1] w fun e w' => e = .returned (.bool r) ∧ Drawn0 w w' := by
  have H : ((desc_says.f k a0 a1).bind fun t142 => (some (t142 == 2))) = some r := h
  clear h
  replace H := Option.bind_eq_some_iff.mp H
  obtain ⟨t142, A30, H⟩ := H
  replace H : (some (t142 == 2)) = some r := H
  have A3 := Aside0.mk A30
  clear A30
  obtain rfl := Option.some.inj H
  go_enter Try.func16, Try.ntmps16
  go_wp2_with (first | ((with_reducible refine gate_callee (f := 25) rfl ?_); refine goesL_ (some 7) rfl rfl Try.func25 (by kernel_rfl) rfl #[.int .i64 a0, .bool a1] rfl (by (try simp only [List.map_toArray, List.map_cons, List.map_nil]); first | done | rfl | (simp only [List.length_drop, List.length_take]; rfl)) ?_; (with_reducible refine (desc_says.calls k a0 a1 t142 _ A3.out).mono ?_); rintro e w' ⟨rfl, ⟨nd, rfl⟩⟩; refine ⟨_, rfl, ?_⟩))
  go_ret
  exact ⟨by first | rfl | (simp; done) | (simp [*]; done), by repeat (first | exact Drawn0.refl _ | apply Drawn0.step)⟩

/-! ### desc_Mark: function 18 -/
def desc_Mark.f (a0 : Int) (a1 : Bool) (a2 : Bool) : Option (Int) := if a1 = true then (if (a1 == a2) = true then (some (Go.bits .or .i64 (Go.bits .or .i64 (Go.bits .andNot .i64 a0 32896) 128) 32768)) else (some (Go.bits .or .i64 (Go.bits .andNot .i64 a0 32896) 128))) else (if (a1 == a2) = true then (some (Go.bits .or .i64 (Go.bits .andNot .i64 a0 32896) 32768)) else (some (Go.bits .andNot .i64 a0 32896)))
set_option maxHeartbeats 8000000 in
set_option maxRecDepth 100000 in
theorem desc_Mark.calls (a0 : Int) (a1 : Bool) (a2 : Bool) (r : Int) (w : World) (h : desc_Mark.f a0 a1 a2 = some r) :
    Calls Try.prog 18 #[.int .i64 a0, .bool a1, .bool a2] w fun e w' => e = .returned (.int .i64 r) ∧ Drawn0 w w' := by
  have H : (if a1 = true then (if (a1 == a2) = true then (some (Go.bits .or .i64 (Go.bits .or .i64 (Go.bits .andNot .i64 a0 32896) 128) 32768)) else (some (Go.bits .or .i64 (Go.bits .andNot .i64 a0 32896) 128))) else (if (a1 == a2) = true then (some (Go.bits .or .i64 (Go.bits .andNot .i64 a0 32896) 32768)) else (some (Go.bits .andNot .i64 a0 32896)))) = some r := h
  clear h
  by_cases c4 : a1 = true
  · subst c4
    have H1 : (if (true == a2) = true then (some (Go.bits .or .i64 (Go.bits .or .i64 (Go.bits .andNot .i64 a0 32896) 128) 32768)) else (some (Go.bits .or .i64 (Go.bits .andNot .i64 a0 32896) 128))) = some r := by rw [if_pos rfl] at H; exact H
    clear H
    have H := H1
    clear H1
    by_cases c5 : (true == a2) = true
    · rw [if_pos c5] at H
      have c5b0 : (true == a2) = true := c5
      (try (have c5b1 : decide (true = a2) = true := by simpa using c5))
      (try (have c5b2 : (true == a2) = true := by simpa using c5))
      clear c5
      obtain rfl := Option.some.inj H
      go_enter Try.func18, Try.ntmps18
      go_wp2
      go_ret
      exact ⟨by first | rfl | (simp; done) | (simp [*]; done), by repeat (first | exact Drawn0.refl _ | apply Drawn0.step)⟩
    · rw [if_neg c5] at H
      have c5b0 : (true == a2) = false := by simpa using c5
      (try (have c5b1 : decide (true = a2) = false := by simpa using c5))
      (try (have c5b2 : (true == a2) = false := by simpa using c5))
      (try (have c5b3 : ¬ (true = a2) := by simpa using c5))
      clear c5
      obtain rfl := Option.some.inj H
      go_enter Try.func18, Try.ntmps18
      go_wp2
      go_ret
      exact ⟨by first | rfl | (simp; done) | (simp [*]; done), by repeat (first | exact Drawn0.refl _ | apply Drawn0.step)⟩
  · replace c4 := Bool.eq_false_iff.mpr c4
    subst c4
    have H1 : (if (false == a2) = true then (some (Go.bits .or .i64 (Go.bits .andNot .i64 a0 32896) 32768)) else (some (Go.bits .andNot .i64 a0 32896))) = some r := by rw [if_neg (show ¬ (false = true) by decide)] at H; exact H
    clear H
    have H := H1
    clear H1
    by_cases c6 : (false == a2) = true
    · rw [if_pos c6] at H
      have c6b0 : (false == a2) = true := c6
      (try (have c6b1 : decide (false = a2) = true := by simpa using c6))
      (try (have c6b2 : (false == a2) = true := by simpa using c6))
      clear c6
      obtain rfl := Option.some.inj H
      go_enter Try.func18, Try.ntmps18
      go_wp2
      go_ret
      exact ⟨by first | rfl | (simp; done) | (simp [*]; done), by repeat (first | exact Drawn0.refl _ | apply Drawn0.step)⟩
    · rw [if_neg c6] at H
      have c6b0 : (false == a2) = false := by simpa using c6
      (try (have c6b1 : decide (false = a2) = false := by simpa using c6))
      (try (have c6b2 : (false == a2) = false := by simpa using c6))
      (try (have c6b3 : ¬ (false = a2) := by simpa using c6))
      clear c6
      obtain rfl := Option.some.inj H
      go_enter Try.func18, Try.ntmps18
      go_wp2
      go_ret
      exact ⟨by first | rfl | (simp; done) | (simp [*]; done), by repeat (first | exact Drawn0.refl _ | apply Drawn0.step)⟩

end Go.Proofs.Ytehaffldjnmblaa.P
