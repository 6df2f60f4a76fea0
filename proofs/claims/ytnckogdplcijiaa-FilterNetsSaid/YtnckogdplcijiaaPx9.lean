/- What functions of the program compute, each with the walk that shows it: by a program (a turned copy of the kit's print; wip/myprint.py). -/
import Derived.Test.YtnckogdplcijiaaPx0
namespace Go.Proofs.Ytnckogdplcijiaa.P
open Go.RowKit Go.Proofs.YtnckogdplcijiaaW.PrintWords Go.Proofs.YtnckogdplcijiaaW.PrintLast Go.Proofs.YtnckogdplcijiaaW.PrintMore
attribute [local go_sem] max2_int min2_int max_two min_two max_three min_three max_four min_four   -- for this text's walks alone
set_option linter.unusedVariables false
set_option linter.unusedSimpArgs false

-- NOT PRINTED: function 55 (slices_rotateRight_int)

-- NOT PRINTED: function 35 (slices_Insert_int_int)

-- NOT PRINTED: function 16 (filter_Add)

-- NOT PRINTED: function 10 (aqueductlaw16_fixed)

/-! ### aqueductref05_Kind: function 25 -/
def aqueductref05_Kind.l0 : Nat → ByteArray → Bool → Int → Option (Int)
  | 0, _, _, _ => none
  | k + 1, x0, x3, x4 => if x4 < 6 then (if x3 = true then (if 0 ≤ x4 then (if x4 < (x0.size : Int) then (aqueductref05_Kind.l0 k x0 ((bt x0 x4) == 255) (wrap64 (x4 + 1))) else (none)) else (none)) else (aqueductref05_Kind.l0 k x0 false (wrap64 (x4 + 1)))) else (if x3 = true then (some 3) else (if 0 < (x0.size : Int) then (if (Int.tmod (wrap64 (bt x0 0)) 2) = 1 then (some 2) else (some 1)) else (none)))
def aqueductref05_Kind.f (k : Nat) (a0 : ByteArray) : Option (Int) := if (a0.size : Int) = 6 then (aqueductref05_Kind.l0 k a0 true 0) else (some 0)
theorem aqueductref05_Kind.mono_l : ∀ k, (∀ y0 y1 y2, LeO (aqueductref05_Kind.l0 k y0 y1 y2) (aqueductref05_Kind.l0 (k + 1) y0 y1 y2))
  | 0 => fun _ _ _ r h => by simp [aqueductref05_Kind.l0] at h
  | k + 1 => by
    have ih0 := aqueductref05_Kind.mono_l k
    · intro y0 y1 y2
      unfold aqueductref05_Kind.l0
      repeat' first
      | (with_reducible exact ih0 _ _ _)
      | (with_reducible exact LeO.refl _)
      | (with_reducible exact LeO.none _)
      | (with_reducible refine LeO.ite ?_ ?_)
      | (with_reducible refine LeO.bind ?_ (fun _ => ?_))
      | exact ih0 _ _ _
      | exact LeO.none _
      | refine LeO.ite ?_ ?_
      | refine LeO.bind ?_ (fun _ => ?_)
theorem aqueductref05_Kind.mono : ∀ a0 k, LeO (aqueductref05_Kind.f k a0) (aqueductref05_Kind.f (k + 1) a0) := by
  intro a0 k
  have ih0 := aqueductref05_Kind.mono_l k
  unfold aqueductref05_Kind.f
  repeat' first
      | (with_reducible exact ih0 _ _ _)
      | (with_reducible exact LeO.refl _)
      | (with_reducible exact LeO.none _)
      | (with_reducible refine LeO.ite ?_ ?_)
      | (with_reducible refine LeO.bind ?_ (fun _ => ?_))
      | exact ih0 _ _ _
      | exact LeO.none _
      | refine LeO.ite ?_ ?_
      | refine LeO.bind ?_ (fun _ => ?_)
set_option maxHeartbeats 8000000 in
set_option maxRecDepth 100000 in
theorem aqueductref05_Kind.calls (k : Nat) (a0 : ByteArray) (r : Int) (w : World) (h : aqueductref05_Kind.f k a0 = some r) :
    Calls Try.prog 25 #[.string a0] w fun e w' => e = .returned (.int .i64 r) ∧ Drawn0 w w' := by
  have H : (if (a0.size : Int) = 6 then (aqueductref05_Kind.l0 k a0 true 0) else (some 0)) = some r := h
  clear h
  by_cases c2 : (a0.size : Int) = 6
  · rw [if_pos c2] at H
    have c2b0 : ((a0.size : Int) == 6) = true := beq_iff_eq.mpr c2
    have c2b1 : ((a0.size : Int) != 6) = false := bne_eq_false_iff_eq.mpr c2
    clear c2
    have H' := Aside0.mk H
    clear H
    go_enter Try.func25, Try.ntmps25
    go_wp2
    go_loopg [3, 4] k (fun kq v3 v4 w' => ∃ (x3_1 : Bool) (x4_1 : Int), v3 = .bool x3_1 ∧ v4 = .int .i64 x4_1 ∧ Aside0 (aqueductref05_Kind.l0 kq a0 x3_1 x4_1 = some r) ∧ Aside0 (kq ≤ k) ∧ Drawn0 w w')
    case atStart => exact ⟨(true), (0), (by first | rfl | (simp; done) | (simp [*]; done)), (by first | rfl | (simp; done) | (simp [*]; done)), H', ⟨Nat.le_refl _⟩, by repeat (first | exact Drawn0.refl _ | apply Drawn0.step)⟩
    case round =>
      clear H'
      try clear c2
      try clear c2b0
      try clear c2b1
      try clear p2
      obtain ⟨x3_1, x4_1, rfl, rfl, HA, HK1, ⟨m1, rfl⟩⟩ := hrel
      cases gk with
      | zero => exact absurd HA.out (by simp [aqueductref05_Kind.l0])
      | succ k1 =>
        have H := HA.out
        clear HA
        simp only [aqueductref05_Kind.l0] at H
        by_cases c3 : x4_1 < 6
        · rw [if_pos c3] at H
          have c3b0 : decide (x4_1 < 6) = true := decide_eq_true c3
          clear c3
          by_cases c4 : x3_1 = true
          · subst c4
            have H1 : (if 0 ≤ x4_1 then (if x4_1 < (a0.size : Int) then (aqueductref05_Kind.l0 k1 a0 ((bt a0 x4_1) == 255) (wrap64 (x4_1 + 1))) else (none)) else (none)) = some r := by rw [if_pos rfl] at H; exact H
            clear H
            have H := H1
            clear H1
            by_cases c5 : 0 ≤ x4_1
            · rw [if_pos c5] at H
              have c5b0 : decide (0 ≤ x4_1) = true := decide_eq_true c5
              clear c5
              by_cases c6 : x4_1 < (a0.size : Int)
              · rw [if_pos c6] at H
                have c6b0 : decide (x4_1 < (a0.size : Int)) = true := decide_eq_true c6
                clear c6
                have H' := Aside0.mk H
                clear H
                have p7 : 0 ≤ (x4_1 : Int) := of_decide_eq_true (by first | (with_reducible assumption) | assumption)
                have q7 : x4_1 < (a0.size : Int) := of_decide_eq_true (by first | (with_reducible assumption) | assumption)
                have hx7 := bt_at a0 x4_1
                replace p7 := eq_true p7
                replace q7 := eq_true q7
                go_wp2
                go_roundg k1
                case measure => have := HK1.out; omega
                case rel => exact ⟨(((bt a0 x4_1) == 255)), (wrap64 (x4_1 + 1)), (by first | rfl | (simp; done) | (simp [*]; done)), (by first | rfl | (simp; done) | (simp [*]; done)), H', ⟨by have := HK1.out; omega⟩, by repeat (first | exact Drawn0.refl _ | apply Drawn0.step)⟩
              · rw [if_neg c6] at H
                exact absurd H (by simp)
            · rw [if_neg c5] at H
              exact absurd H (by simp)
          · replace c4 := Bool.eq_false_iff.mpr c4
            subst c4
            have H1 : (aqueductref05_Kind.l0 k1 a0 false (wrap64 (x4_1 + 1))) = some r := by rw [if_neg (show ¬ (false = true) by decide)] at H; exact H
            clear H
            have H := H1
            clear H1
            have H' := Aside0.mk H
            clear H
            go_wp2
            go_roundg k1
            case measure => have := HK1.out; omega
            case rel => exact ⟨(false), (wrap64 (x4_1 + 1)), (by first | rfl | (simp; done) | (simp [*]; done)), (by first | rfl | (simp; done) | (simp [*]; done)), H', ⟨by have := HK1.out; omega⟩, by repeat (first | exact Drawn0.refl _ | apply Drawn0.step)⟩
        · rw [if_neg c3] at H
          have c3b0 : decide (x4_1 < 6) = false := decide_eq_false c3
          clear c3
          by_cases c8 : x3_1 = true
          · subst c8
            have H1 : (some 3) = some r := by rw [if_pos rfl] at H; exact H
            clear H
            have H := H1
            clear H1
            obtain rfl := Option.some.inj H
            go_wp2
            go_ret
            exact ⟨by first | rfl | (simp; done) | (simp [*]; done), by repeat (first | exact Drawn0.refl _ | apply Drawn0.step)⟩
          · replace c8 := Bool.eq_false_iff.mpr c8
            subst c8
            have H1 : (if 0 < (a0.size : Int) then (if (Int.tmod (wrap64 (bt a0 0)) 2) = 1 then (some 2) else (some 1)) else (none)) = some r := by rw [if_neg (show ¬ (false = true) by decide)] at H; exact H
            clear H
            have H := H1
            clear H1
            by_cases c9 : 0 < (a0.size : Int)
            · rw [if_pos c9] at H
              have c9b0 : decide (0 < (a0.size : Int)) = true := decide_eq_true c9
              have c9b1 : decide (0 < a0.size) = true := decide_eq_true (by omega)
              clear c9
              by_cases c11 : (Int.tmod (wrap64 (bt a0 0)) 2) = 1
              · rw [if_pos c11] at H
                have c11b0 : ((Int.tmod (wrap64 (bt a0 0)) 2) == 1) = true := beq_iff_eq.mpr c11
                have c11b1 : ((Int.tmod (wrap64 (bt a0 0)) 2) != 1) = false := bne_eq_false_iff_eq.mpr c11
                clear c11
                obtain rfl := Option.some.inj H
                have p10 : 0 ≤ (0 : Int) := (by omega)
                have q10 : 0 < a0.size := (by have : (0 : Int) < (a0.size : Int) := of_decide_eq_true (by first | (with_reducible assumption) | assumption); omega)
                have hx10 : ∀ h : 0 < a0.size, ((a0[0]'h).toNat : Int) = bt a0 0 := bt_at a0 0
                clear p10
                have qi10 : (0 < (a0.size : Int)) = True := eq_true (of_decide_eq_true (by first | (with_reducible assumption) | assumption))
                replace q10 := eq_true q10
                go_wp2
                go_ret
                exact ⟨by first | rfl | (simp; done) | (simp [*]; done), by repeat (first | exact Drawn0.refl _ | apply Drawn0.step)⟩
              · rw [if_neg c11] at H
                have c11b0 : ((Int.tmod (wrap64 (bt a0 0)) 2) == 1) = false := beq_eq_false_iff_ne.mpr c11
                have c11b1 : ((Int.tmod (wrap64 (bt a0 0)) 2) != 1) = true := bne_iff_ne.mpr c11
                obtain rfl := Option.some.inj H
                have p10 : 0 ≤ (0 : Int) := (by omega)
                have q10 : 0 < a0.size := (by have : (0 : Int) < (a0.size : Int) := of_decide_eq_true (by first | (with_reducible assumption) | assumption); omega)
                have hx10 : ∀ h : 0 < a0.size, ((a0[0]'h).toNat : Int) = bt a0 0 := bt_at a0 0
                clear p10
                have qi10 : (0 < (a0.size : Int)) = True := eq_true (of_decide_eq_true (by first | (with_reducible assumption) | assumption))
                replace q10 := eq_true q10
                go_wp2
                go_ret
                exact ⟨by first | rfl | (simp; done) | (simp [*]; done), by repeat (first | exact Drawn0.refl _ | apply Drawn0.step)⟩
            · rw [if_neg c9] at H
              exact absurd H (by simp)
  · rw [if_neg c2] at H
    have c2b0 : ((a0.size : Int) == 6) = false := beq_eq_false_iff_ne.mpr c2
    have c2b1 : ((a0.size : Int) != 6) = true := bne_iff_ne.mpr c2
    obtain rfl := Option.some.inj H
    go_enter Try.func25, Try.ntmps25
    go_wp2
    go_ret
    exact ⟨by first | rfl | (simp; done) | (simp [*]; done), by repeat (first | exact Drawn0.refl _ | apply Drawn0.step)⟩

/-! ### aqueductref16_kinds: function 26 -/
def aqueductref16_kinds.l0 : Nat → List ByteArray → Int → Int → Option (Bool)
  | 0, _, _, _ => none
  | k + 1, x0, x1, x5 => if x5 < (x0.length : Int) then (if 0 ≤ x5 then ((aqueductref05_Kind.f k (rdOf ByteArray.empty x0 x5)).bind fun t168 => (if t168 = x1 then (aqueductref16_kinds.l0 k x0 x1 (wrap64 (x5 + 1))) else (some false))) else (none)) else (some (decide ((x0.length : Int) ≤ 16)))
def aqueductref16_kinds.f (k : Nat) (l0 : List ByteArray) (a1 : Int) : Option (Bool) := aqueductref16_kinds.l0 k l0 a1 0
theorem aqueductref16_kinds.mono_l : ∀ k, (∀ y0 y1 y2, LeO (aqueductref16_kinds.l0 k y0 y1 y2) (aqueductref16_kinds.l0 (k + 1) y0 y1 y2))
  | 0 => fun _ _ _ r h => by simp [aqueductref16_kinds.l0] at h
  | k + 1 => by
    have ih0 := aqueductref16_kinds.mono_l k
    · intro y0 y1 y2
      unfold aqueductref16_kinds.l0
      repeat' first
      | (with_reducible exact ih0 _ _ _)
      | (with_reducible exact aqueductref05_Kind.mono _ _)
      | (with_reducible exact LeO.refl _)
      | (with_reducible exact LeO.none _)
      | (with_reducible refine LeO.ite ?_ ?_)
      | (with_reducible refine LeO.bind ?_ (fun _ => ?_))
      | exact ih0 _ _ _
      | exact aqueductref05_Kind.mono _ _
      | exact LeO.none _
      | refine LeO.ite ?_ ?_
      | refine LeO.bind ?_ (fun _ => ?_)
theorem aqueductref16_kinds.mono : ∀ a0 a1 k, LeO (aqueductref16_kinds.f k a0 a1) (aqueductref16_kinds.f (k + 1) a0 a1) := by
  intro a0 a1 k
  have ih0 := aqueductref16_kinds.mono_l k
  unfold aqueductref16_kinds.f
  repeat' first
      | (with_reducible exact ih0 _ _ _)
      | (with_reducible exact aqueductref05_Kind.mono _ _)
      | (with_reducible exact LeO.refl _)
      | (with_reducible exact LeO.none _)
      | (with_reducible refine LeO.ite ?_ ?_)
      | (with_reducible refine LeO.bind ?_ (fun _ => ?_))
      | exact ih0 _ _ _
      | exact aqueductref05_Kind.mono _ _
      | exact LeO.none _
      | refine LeO.ite ?_ ?_
      | refine LeO.bind ?_ (fun _ => ?_)
set_option maxHeartbeats 8000000 in
set_option maxRecDepth 100000 in
theorem aqueductref16_kinds.calls (k : Nat) (A0 : Option Addr) (c0 : Nat) (l0 : List ByteArray) (a1 : Int) (r : Bool) (w : World) (hr0 : Kd.C Kd.string w A0 l0.length l0) (hc0 : l0.length ≤ c0) (h : aqueductref16_kinds.f k l0 a1 = some r) :
    Calls Try.prog 26 #[.slice A0 l0.length c0, .int .i64 a1] w fun e w' => e = .returned (.bool r) ∧ Drawn0 w w' := by
  have HR0 := Aside0.mk hr0
  have HC0 := Aside0.mk hc0
  clear hr0 hc0
  have H : (aqueductref16_kinds.l0 k l0 a1 0) = some r := h
  clear h
  have H' := Aside0.mk H
  clear H
  go_enter Try.func26, Try.ntmps26
  go_wp2
  go_loopg [5] k (fun kq v5 w' => ∃ (x5_1 : Int), v5 = .int .i64 x5_1 ∧ Aside0 (aqueductref16_kinds.l0 kq l0 a1 x5_1 = some r) ∧ Aside0 (kq ≤ k) ∧ Drawn0 w w')
  case atStart => exact ⟨(0), (by first | rfl | (simp; done) | (simp [*]; done)), H', ⟨Nat.le_refl _⟩, by repeat (first | exact Drawn0.refl _ | apply Drawn0.step)⟩
  case round =>
    clear H'
    try clear c2
    try clear p2
    obtain ⟨x5_1, rfl, HA, HK1, ⟨m1, rfl⟩⟩ := hrel
    cases gk with
    | zero => exact absurd HA.out (by simp [aqueductref16_kinds.l0])
    | succ k1 =>
      have H := HA.out
      clear HA
      simp only [aqueductref16_kinds.l0] at H
      by_cases c3 : x5_1 < (l0.length : Int)
      · rw [if_pos c3] at H
        have c3b0 : decide (x5_1 < (l0.length : Int)) = true := decide_eq_true c3
        clear c3
        by_cases c4 : 0 ≤ x5_1
        · rw [if_pos c4] at H
          have c4b0 : decide (0 ≤ x5_1) = true := decide_eq_true c4
          clear c4
          replace H := Option.bind_eq_some_iff.mp H
          obtain ⟨t168, A50, H⟩ := H
          replace H : (if t168 = a1 then (aqueductref16_kinds.l0 k1 l0 a1 (wrap64 (x5_1 + 1))) else (some false)) = some r := H
          have A5 := Aside0.mk A50
          clear A50
          by_cases c6 : t168 = a1
          · rw [if_pos c6] at H
            have c6b0 : (t168 == a1) = true := beq_iff_eq.mpr c6
            have c6b1 : (t168 != a1) = false := bne_eq_false_iff_eq.mpr c6
            clear c6
            have H' := Aside0.mk H
            clear H
            have p167 : 0 ≤ (x5_1 : Int) := of_decide_eq_true (by first | (with_reducible assumption) | assumption)
            have q167 : x5_1 < (l0.length : Int) := of_decide_eq_true (by first | (with_reducible assumption) | assumption)
            obtain ⟨ad167, e167, hx167_0⟩ := Kd.at_string HR0.out x5_1 p167 q167
            cases e167
            replace p167 := eq_true p167
            replace q167 := eq_true q167
            go_wp2_with (first | ((with_reducible refine gate_callee (f := 25) rfl ?_); refine goesL_ (some 16) rfl rfl Try.func25 (by kernel_rfl) rfl #[.string (rdOf ByteArray.empty l0 x5_1)] rfl (by (try simp only [List.map_toArray, List.map_cons, List.map_nil]); first | done | rfl | (simp only [List.length_drop, List.length_take]; rfl)) ?_; (with_reducible refine (aqueductref05_Kind.calls k1 (rdOf ByteArray.empty l0 x5_1) t168 _ A5.out).mono ?_); rintro e w' ⟨rfl, ⟨nd, rfl⟩⟩; refine ⟨_, rfl, ?_⟩))
            go_roundg k1
            case measure => have := HK1.out; omega
            case rel => exact ⟨(wrap64 (x5_1 + 1)), (by first | rfl | (simp; done) | (simp [*]; done)), H', ⟨by have := HK1.out; omega⟩, by repeat (first | exact Drawn0.refl _ | apply Drawn0.step)⟩
          · rw [if_neg c6] at H
            have c6b0 : (t168 == a1) = false := beq_eq_false_iff_ne.mpr c6
            have c6b1 : (t168 != a1) = true := bne_iff_ne.mpr c6
            obtain rfl := Option.some.inj H
            have p167 : 0 ≤ (x5_1 : Int) := of_decide_eq_true (by first | (with_reducible assumption) | assumption)
            have q167 : x5_1 < (l0.length : Int) := of_decide_eq_true (by first | (with_reducible assumption) | assumption)
            obtain ⟨ad167, e167, hx167_0⟩ := Kd.at_string HR0.out x5_1 p167 q167
            cases e167
            replace p167 := eq_true p167
            replace q167 := eq_true q167
            go_wp2_with (first | ((with_reducible refine gate_callee (f := 25) rfl ?_); refine goesL_ (some 16) rfl rfl Try.func25 (by kernel_rfl) rfl #[.string (rdOf ByteArray.empty l0 x5_1)] rfl (by (try simp only [List.map_toArray, List.map_cons, List.map_nil]); first | done | rfl | (simp only [List.length_drop, List.length_take]; rfl)) ?_; (with_reducible refine (aqueductref05_Kind.calls k1 (rdOf ByteArray.empty l0 x5_1) t168 _ A5.out).mono ?_); rintro e w' ⟨rfl, ⟨nd, rfl⟩⟩; refine ⟨_, rfl, ?_⟩))
            go_ret
            exact ⟨by first | rfl | (simp; done) | (simp [*]; done), by repeat (first | exact Drawn0.refl _ | apply Drawn0.step)⟩
        · rw [if_neg c4] at H
          exact absurd H (by simp)
      · rw [if_neg c3] at H
        have c3b0 : decide (x5_1 < (l0.length : Int)) = false := decide_eq_false c3
        clear c3
        obtain rfl := Option.some.inj H
        go_wp2
        go_ret
        exact ⟨by first | rfl | (simp; done) | (simp [*]; done), by repeat (first | exact Drawn0.refl _ | apply Drawn0.step)⟩

end Go.Proofs.Ytnckogdplcijiaa.P
