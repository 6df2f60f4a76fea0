/- What functions of the program compute, each with the walk that shows it: by a program (a turned copy of the kit's print; wip/myprint.py). -/
import Derived.Test.YtiffbjpmmbfkjaaDoorPx0
import Derived.Test.YtiffbjpmmbfkjaaDoorPx1
namespace Go.Proofs.YtiffbjpmmbfkjaaDoor.P
open Go.RowKit Go.Proofs.YtiffbjpmmbfkjaaDoorW.PrintWords Go.Proofs.YtiffbjpmmbfkjaaDoorW.PrintLast Go.Proofs.YtiffbjpmmbfkjaaDoorW.PrintMore
attribute [local go_sem] max2_int min2_int max_two min_two max_three min_three max_four min_four   -- for this text's walks alone
set_option linter.unusedVariables false
set_option linter.unusedSimpArgs false

-- NOT PRINTED: function 40 (stringslite_Index)

-- NOT PRINTED: function 34 (strings_Index)

-- NOT PRINTED: function 39 (bytealg_CountString)

-- NOT PRINTED: function 33 (strings_Count)

-- NOT PRINTED: function 28 (strings_genSplit)

-- NOT PRINTED: function 21 (strings_Split)

-- NOT PRINTED: function 22 (addr_digit)

/-! ### aqueductref05_value: function 23 -/
def aqueductref05_value.l0 : Nat → Int → Int → Option (Int)
  | 0, _, _ => none
  | k + 1, x0, x3 => if x3 < 16 then ((aqueductref05_digit.f x3).bind fun t108 => (if 0 < (t108.size : Int) then (if (bt t108 0) = x0 then (some x3) else (aqueductref05_value.l0 k x0 (wrap64 (x3 + 1)))) else (none))) else (some 0)
def aqueductref05_value.f (k : Nat) (a0 : Int) : Option (Int) := aqueductref05_value.l0 k a0 0
theorem aqueductref05_value.mono_l : ∀ k, (∀ y0 y1, LeO (aqueductref05_value.l0 k y0 y1) (aqueductref05_value.l0 (k + 1) y0 y1))
  | 0 => fun _ _ r h => by simp [aqueductref05_value.l0] at h
  | k + 1 => by
    have ih0 := aqueductref05_value.mono_l k
    · intro y0 y1
      unfold aqueductref05_value.l0
      repeat' first
      | (with_reducible exact ih0 _ _)
      | (with_reducible exact LeO.refl _)
      | (with_reducible exact LeO.none _)
      | (with_reducible refine LeO.ite ?_ ?_)
      | (with_reducible refine LeO.bind ?_ (fun _ => ?_))
      | exact ih0 _ _
      | exact LeO.none _
      | refine LeO.ite ?_ ?_
      | refine LeO.bind ?_ (fun _ => ?_)
theorem aqueductref05_value.mono : ∀ a0 k, LeO (aqueductref05_value.f k a0) (aqueductref05_value.f (k + 1) a0) := by
  intro a0 k
  have ih0 := aqueductref05_value.mono_l k
  unfold aqueductref05_value.f
  repeat' first
      | (with_reducible exact ih0 _ _)
      | (with_reducible exact LeO.refl _)
      | (with_reducible exact LeO.none _)
      | (with_reducible refine LeO.ite ?_ ?_)
      | (with_reducible refine LeO.bind ?_ (fun _ => ?_))
      | exact ih0 _ _
      | exact LeO.none _
      | refine LeO.ite ?_ ?_
      | refine LeO.bind ?_ (fun _ => ?_)
set_option maxHeartbeats 8000000 in
set_option maxRecDepth 100000 in
theorem aqueductref05_value.calls (k : Nat) (a0 : Int) (r : Int) (w : World) (h : aqueductref05_value.f k a0 = some r) :
    Calls Tryd.prog 23 #[.int .u8 a0] w fun e w' => e = .returned (.int .i64 r) ∧ Drawn0 w w' := by
  have H : (aqueductref05_value.l0 k a0 0) = some r := h
  clear h
  have H' := Aside0.mk H
  clear H
  go_enter Tryd.func23, Tryd.ntmps23
  go_wp2
  go_loopg [3] k (fun kq v3 w' => ∃ (x3_1 : Int), v3 = .int .i64 x3_1 ∧ Aside0 (aqueductref05_value.l0 kq a0 x3_1 = some r) ∧ Aside0 (kq ≤ k) ∧ Drawn0 w w')
  case atStart => exact ⟨(0), (by first | rfl | (simp; done) | (simp [*]; done)), H', ⟨Nat.le_refl _⟩, by repeat (first | exact Drawn0.refl _ | apply Drawn0.step)⟩
  case round =>
    clear H'
    obtain ⟨x3_1, rfl, HA, HK1, ⟨m1, rfl⟩⟩ := hrel
    cases gk with
    | zero => exact absurd HA.out (by simp [aqueductref05_value.l0])
    | succ k1 =>
      have H := HA.out
      clear HA
      simp only [aqueductref05_value.l0] at H
      by_cases c2 : x3_1 < 16
      · rw [if_pos c2] at H
        have c2b0 : decide (x3_1 < 16) = true := decide_eq_true c2
        clear c2
        replace H := Option.bind_eq_some_iff.mp H
        obtain ⟨t108, A30, H⟩ := H
        replace H : (if 0 < (t108.size : Int) then (if (bt t108 0) = a0 then (some x3_1) else (aqueductref05_value.l0 k1 a0 (wrap64 (x3_1 + 1)))) else (none)) = some r := H
        have A3 := Aside0.mk A30
        clear A30
        by_cases c4 : 0 < (t108.size : Int)
        · rw [if_pos c4] at H
          have c4b0 : decide (0 < (t108.size : Int)) = true := decide_eq_true c4
          have c4b1 : decide (0 < t108.size) = true := decide_eq_true (by omega)
          clear c4
          by_cases c6 : (bt t108 0) = a0
          · rw [if_pos c6] at H
            have c6b0 : ((bt t108 0) == a0) = true := beq_iff_eq.mpr c6
            have c6b1 : ((bt t108 0) != a0) = false := bne_eq_false_iff_eq.mpr c6
            clear c6
            obtain rfl := Option.some.inj H
            go_wp2_with (first | ((with_reducible refine gate_callee (f := 20) rfl ?_); refine goesL_ (some 9) rfl rfl Tryd.func20 (by kernel_rfl) rfl #[.int .i64 x3_1] rfl (by (try simp only [List.map_toArray, List.map_cons, List.map_nil]); first | done | rfl | (simp only [List.length_drop, List.length_take]; rfl)) ?_; (with_reducible refine (aqueductref05_digit.calls x3_1 t108 _ A3.out).mono ?_); rintro e w' ⟨rfl, ⟨nd, rfl⟩⟩; refine ⟨_, rfl, ?_⟩; have p5 : 0 ≤ (0 : Int) := (by omega); have q5 : 0 < t108.size := (by have : (0 : Int) < (t108.size : Int) := of_decide_eq_true (by first | (with_reducible assumption) | assumption); omega); have hx5 : ∀ h : 0 < t108.size, ((t108[0]'h).toNat : Int) = bt t108 0 := bt_at t108 0; clear p5; have qi5 : (0 < (t108.size : Int)) = True := eq_true (of_decide_eq_true (by first | (with_reducible assumption) | assumption)); replace q5 := eq_true q5))
            go_ret
            exact ⟨by first | rfl | (simp; done) | (simp [*]; done), by repeat (first | exact Drawn0.refl _ | apply Drawn0.step)⟩
          · rw [if_neg c6] at H
            have c6b0 : ((bt t108 0) == a0) = false := beq_eq_false_iff_ne.mpr c6
            have c6b1 : ((bt t108 0) != a0) = true := bne_iff_ne.mpr c6
            have H' := Aside0.mk H
            clear H
            go_wp2_with (first | ((with_reducible refine gate_callee (f := 20) rfl ?_); refine goesL_ (some 9) rfl rfl Tryd.func20 (by kernel_rfl) rfl #[.int .i64 x3_1] rfl (by (try simp only [List.map_toArray, List.map_cons, List.map_nil]); first | done | rfl | (simp only [List.length_drop, List.length_take]; rfl)) ?_; (with_reducible refine (aqueductref05_digit.calls x3_1 t108 _ A3.out).mono ?_); rintro e w' ⟨rfl, ⟨nd, rfl⟩⟩; refine ⟨_, rfl, ?_⟩; have p5 : 0 ≤ (0 : Int) := (by omega); have q5 : 0 < t108.size := (by have : (0 : Int) < (t108.size : Int) := of_decide_eq_true (by first | (with_reducible assumption) | assumption); omega); have hx5 : ∀ h : 0 < t108.size, ((t108[0]'h).toNat : Int) = bt t108 0 := bt_at t108 0; clear p5; have qi5 : (0 < (t108.size : Int)) = True := eq_true (of_decide_eq_true (by first | (with_reducible assumption) | assumption)); replace q5 := eq_true q5))
            go_roundg k1
            case measure => have := HK1.out; omega
            case rel => exact ⟨(wrap64 (x3_1 + 1)), (by first | rfl | (simp; done) | (simp [*]; done)), H', ⟨by have := HK1.out; omega⟩, by repeat (first | exact Drawn0.refl _ | apply Drawn0.step)⟩
        · rw [if_neg c4] at H
          exact absurd H (by simp)
      · rw [if_neg c2] at H
        have c2b0 : decide (x3_1 < 16) = false := decide_eq_false c2
        clear c2
        obtain rfl := Option.some.inj H
        go_wp2
        go_ret
        exact ⟨by first | rfl | (simp; done) | (simp [*]; done), by repeat (first | exact Drawn0.refl _ | apply Drawn0.step)⟩

end Go.Proofs.YtiffbjpmmbfkjaaDoor.P
