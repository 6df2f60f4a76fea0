/- What functions of the program compute, each with the walk that shows it: by a program (a turned copy of the kit's print; wip/myprint.py). -/
import Derived.Test.YtehaffldjnmblaaPx0
namespace Go.Proofs.Ytehaffldjnmblaa.P
open Go.RowKit Go.Proofs.YtehaffldjnmblaaW.PrintWords Go.Proofs.YtehaffldjnmblaaW.PrintLast Go.Proofs.YtehaffldjnmblaaW.PrintMore
attribute [local go_sem] max2_int min2_int max_two min_two max_three min_three max_four min_four   -- for this text's walks alone
set_option linter.unusedVariables false
set_option linter.unusedSimpArgs false

/-! ### aqueductref01_Get: function 22 -/
mutual
def aqueductref01_Get.j0 : Nat → ByteArray → Int → Int → Bool → Bool → Option (Int × Int)
  | 0, _, _, _, _, _ => none
  | k + 1, x0, x1, x2, x3, x17 => if x17 = true then (some (0, 1)) else (if x1 < 0 then (aqueductref01_Get.j1 k x0 x1 x2 x3 true) else (aqueductref01_Get.j1 k x0 x1 x2 x3 (decide (x1 > (wrap64 ((x0.size : Int) - x2))))))
def aqueductref01_Get.j1 : Nat → ByteArray → Int → Int → Bool → Bool → Option (Int × Int)
  | 0, _, _, _, _, _ => none
  | k + 1, x0, x1, x2, x3, x27 => if x27 = true then (some (0, 10)) else (aqueductref01_Get.l0 k x0 x1 x2 x3 0 0)
def aqueductref01_Get.l0 : Nat → ByteArray → Int → Int → Bool → Int → Int → Option (Int × Int)
  | 0, _, _, _, _, _, _ => none
  | k + 1, x0, x1, x2, x3, x10, x11 => if x11 < x2 then (if x3 = true then (if 0 ≤ (wrap64 (x1 + x11)) then (if (wrap64 (x1 + x11)) < (x0.size : Int) then (aqueductref01_Get.l0 k x0 x1 x2 x3 (IntKind.u64.wrap ((IntKind.u64.wrap (x10 * 256)) + (IntKind.u64.wrap (bt x0 (wrap64 (x1 + x11)))))) (wrap64 (x11 + 1))) else (none)) else (none)) else (if 0 ≤ (wrap64 ((wrap64 ((wrap64 (x1 + x2)) - 1)) - x11)) then (if (wrap64 ((wrap64 ((wrap64 (x1 + x2)) - 1)) - x11)) < (x0.size : Int) then (aqueductref01_Get.l0 k x0 x1 x2 x3 (IntKind.u64.wrap ((IntKind.u64.wrap (x10 * 256)) + (IntKind.u64.wrap (bt x0 (wrap64 ((wrap64 ((wrap64 (x1 + x2)) - 1)) - x11)))))) (wrap64 (x11 + 1))) else (none)) else (none))) else (some (x10, 0))
end
def aqueductref01_Get.f (k : Nat) (a0 : ByteArray) (a1 : Int) (a2 : Int) (a3 : Bool) : Option (Int × Int) := if a2 < 1 then (aqueductref01_Get.j0 k a0 a1 a2 a3 true) else (aqueductref01_Get.j0 k a0 a1 a2 a3 (decide (a2 > 8)))
theorem aqueductref01_Get.mono_l : ∀ k, (∀ y0 y1 y2 y3 y4, LeO (aqueductref01_Get.j0 k y0 y1 y2 y3 y4) (aqueductref01_Get.j0 (k + 1) y0 y1 y2 y3 y4)) ∧ (∀ y0 y1 y2 y3 y4, LeO (aqueductref01_Get.j1 k y0 y1 y2 y3 y4) (aqueductref01_Get.j1 (k + 1) y0 y1 y2 y3 y4)) ∧ (∀ y0 y1 y2 y3 y4 y5, LeO (aqueductref01_Get.l0 k y0 y1 y2 y3 y4 y5) (aqueductref01_Get.l0 (k + 1) y0 y1 y2 y3 y4 y5))
  | 0 => ⟨fun _ _ _ _ _ r h => by simp [aqueductref01_Get.j0] at h, fun _ _ _ _ _ r h => by simp [aqueductref01_Get.j1] at h, fun _ _ _ _ _ _ r h => by simp [aqueductref01_Get.l0] at h⟩
  | k + 1 => by
    obtain ⟨ih0, ih1, ih2⟩ := aqueductref01_Get.mono_l k
    refine ⟨?_, ?_, ?_⟩
    · intro y0 y1 y2 y3 y4
      unfold aqueductref01_Get.j0
      repeat' first
      | (with_reducible exact ih0 _ _ _ _ _)
      | (with_reducible exact ih1 _ _ _ _ _)
      | (with_reducible exact ih2 _ _ _ _ _ _)
      | (with_reducible exact LeO.refl _)
      | (with_reducible exact LeO.none _)
      | (with_reducible refine LeO.ite ?_ ?_)
      | (with_reducible refine LeO.bind ?_ (fun _ => ?_))
      | exact ih0 _ _ _ _ _
      | exact ih1 _ _ _ _ _
      | exact ih2 _ _ _ _ _ _
      | exact LeO.none _
      | refine LeO.ite ?_ ?_
      | refine LeO.bind ?_ (fun _ => ?_)
    · intro y0 y1 y2 y3 y4
      unfold aqueductref01_Get.j1
      repeat' first
      | (with_reducible exact ih0 _ _ _ _ _)
      | (with_reducible exact ih1 _ _ _ _ _)
      | (with_reducible exact ih2 _ _ _ _ _ _)
      | (with_reducible exact LeO.refl _)
      | (with_reducible exact LeO.none _)
      | (with_reducible refine LeO.ite ?_ ?_)
      | (with_reducible refine LeO.bind ?_ (fun _ => ?_))
      | exact ih0 _ _ _ _ _
      | exact ih1 _ _ _ _ _
      | exact ih2 _ _ _ _ _ _
      | exact LeO.none _
      | refine LeO.ite ?_ ?_
      | refine LeO.bind ?_ (fun _ => ?_)
    · intro y0 y1 y2 y3 y4 y5
      unfold aqueductref01_Get.l0
      repeat' first
      | (with_reducible exact ih0 _ _ _ _ _)
      | (with_reducible exact ih1 _ _ _ _ _)
      | (with_reducible exact ih2 _ _ _ _ _ _)
      | (with_reducible exact LeO.refl _)
      | (with_reducible exact LeO.none _)
      | (with_reducible refine LeO.ite ?_ ?_)
      | (with_reducible refine LeO.bind ?_ (fun _ => ?_))
      | exact ih0 _ _ _ _ _
      | exact ih1 _ _ _ _ _
      | exact ih2 _ _ _ _ _ _
      | exact LeO.none _
      | refine LeO.ite ?_ ?_
      | refine LeO.bind ?_ (fun _ => ?_)
theorem aqueductref01_Get.mono : ∀ a0 a1 a2 a3 k, LeO (aqueductref01_Get.f k a0 a1 a2 a3) (aqueductref01_Get.f (k + 1) a0 a1 a2 a3) := by
  intro a0 a1 a2 a3 k
  obtain ⟨ih0, ih1, ih2⟩ := aqueductref01_Get.mono_l k
  unfold aqueductref01_Get.f
  repeat' first
      | (with_reducible exact ih0 _ _ _ _ _)
      | (with_reducible exact ih1 _ _ _ _ _)
      | (with_reducible exact ih2 _ _ _ _ _ _)
      | (with_reducible exact LeO.refl _)
      | (with_reducible exact LeO.none _)
      | (with_reducible refine LeO.ite ?_ ?_)
      | (with_reducible refine LeO.bind ?_ (fun _ => ?_))
      | exact ih0 _ _ _ _ _
      | exact ih1 _ _ _ _ _
      | exact ih2 _ _ _ _ _ _
      | exact LeO.none _
      | refine LeO.ite ?_ ?_
      | refine LeO.bind ?_ (fun _ => ?_)
set_option maxHeartbeats 8000000 in
set_option maxRecDepth 100000 in
theorem aqueductref01_Get.calls (k : Nat) (a0 : ByteArray) (a1 : Int) (a2 : Int) (a3 : Bool) (r1 : Int) (r2 : Int) (w : World) (h : aqueductref01_Get.f k a0 a1 a2 a3 = some (r1, r2)) :
    Calls Try.prog 22 #[.string a0, .int .i64 a1, .int .i64 a2, .bool a3] w fun e w' => e = .returned (.tuple #[.int .u64 r1, .int .i64 r2]) ∧ Drawn0 w w' := by
  have H : (if a2 < 1 then (aqueductref01_Get.j0 k a0 a1 a2 a3 true) else (aqueductref01_Get.j0 k a0 a1 a2 a3 (decide (a2 > 8)))) = some (r1, r2) := h
  clear h
  have HC5 := Aside0.mk H
  clear H
  go_enter Try.func22, Try.ntmps22
  go_upto_region 1 with (fail)
  go_cut [17] (fun v17 wc => ∃ (kq : Nat) (x17_4 : Bool), v17 = .bool x17_4 ∧ Aside0 (aqueductref01_Get.j0 kq a0 a1 a2 a3 x17_4 = some (r1, r2)) ∧ Aside0 (kq ≤ k) ∧ Drawn0 w wc)
  case first =>
    have H := HC5.out
    clear HC5
    by_cases c6 : a2 < 1
    · rw [if_pos c6] at H
      have c6b0 : decide (a2 < 1) = true := decide_eq_true c6
      clear c6
      (first | rw [c6b0] | (simp only [i64_w, i32_w]; rw [c6b0]) | skip)
      have H' := Aside0.mk H
      clear H
      go_wp2
      go_meet
      case rel => exact ⟨_, (true), (by first | rfl | (simp; done) | (simp [*]; done)), H', ⟨by first | omega | exact Nat.le_refl _⟩, by repeat (first | exact Drawn0.refl _ | apply Drawn0.step)⟩
    · rw [if_neg c6] at H
      have c6b0 : decide (a2 < 1) = false := decide_eq_false c6
      clear c6
      (first | rw [c6b0] | (simp only [i64_w, i32_w]; rw [c6b0]) | skip)
      have H' := Aside0.mk H
      clear H
      go_wp2
      go_meet
      case rel => exact ⟨_, (decide (a2 > 8)), (by first | rfl | (simp; done) | (simp [*]; done)), H', ⟨by first | omega | exact Nat.le_refl _⟩, by repeat (first | exact Drawn0.refl _ | apply Drawn0.step)⟩
  case rest =>
    clear HC5
    try clear c2
    try clear p2
    try clear c6
    try clear c6b0
    obtain ⟨kq, x17_4, rfl, HA, HJ4, ⟨mc4, rfl⟩⟩ := hcut
    cases kq with
    | zero => exact absurd HA.out (by simp [aqueductref01_Get.j0])
    | succ kj4 =>
      have H := HA.out
      clear HA
      simp only [aqueductref01_Get.j0] at H
      by_cases c7 : x17_4 = true
      · subst c7
        have H1 : (some (0, 1)) = some (r1, r2) := by rw [if_pos rfl] at H; exact H
        clear H
        have H := H1
        clear H1
        simp only [Option.some.injEq, Prod.mk.injEq] at H
        obtain ⟨rfl, rfl⟩ := H
        go_wp2
        go_ret2
        exact ⟨by first | rfl | (simp; done) | (simp [*]; done), by repeat (first | exact Drawn0.refl _ | apply Drawn0.step)⟩
      · replace c7 := Bool.eq_false_iff.mpr c7
        subst c7
        have H1 : (if a1 < 0 then (aqueductref01_Get.j1 kj4 a0 a1 a2 a3 true) else (aqueductref01_Get.j1 kj4 a0 a1 a2 a3 (decide (a1 > (wrap64 ((a0.size : Int) - a2)))))) = some (r1, r2) := by rw [if_neg (show ¬ (false = true) by decide)] at H; exact H
        clear H
        have H := H1
        clear H1
        have HC8 := Aside0.mk H
        clear H
        go_upto_region 3 with (fail)
        go_cut [27] (fun v27 wc => ∃ (kq : Nat) (x27_7 : Bool), v27 = .bool x27_7 ∧ Aside0 (aqueductref01_Get.j1 kq a0 a1 a2 a3 x27_7 = some (r1, r2)) ∧ Aside0 (kq ≤ kj4) ∧ Drawn0 w wc)
        case first =>
          have H := HC8.out
          clear HC8
          by_cases c9 : a1 < 0
          · rw [if_pos c9] at H
            have c9b0 : decide (a1 < 0) = true := decide_eq_true c9
            clear c9
            (first | rw [c9b0] | (simp only [i64_w, i32_w]; rw [c9b0]) | skip)
            have H' := Aside0.mk H
            clear H
            go_wp2
            go_meet
            case rel => exact ⟨_, (true), (by first | rfl | (simp; done) | (simp [*]; done)), H', ⟨by have := HJ4.out; first | omega | exact Nat.le_refl _⟩, by repeat (first | exact Drawn0.refl _ | apply Drawn0.step)⟩
          · rw [if_neg c9] at H
            have c9b0 : decide (a1 < 0) = false := decide_eq_false c9
            clear c9
            (first | rw [c9b0] | (simp only [i64_w, i32_w]; rw [c9b0]) | skip)
            have H' := Aside0.mk H
            clear H
            go_wp2
            go_meet
            case rel => exact ⟨_, (decide (a1 > (wrap64 ((a0.size : Int) - a2)))), (by first | rfl | (simp; done) | (simp [*]; done)), H', ⟨by have := HJ4.out; first | omega | exact Nat.le_refl _⟩, by repeat (first | exact Drawn0.refl _ | apply Drawn0.step)⟩
        case rest =>
          clear HC8
          try clear c2
          try clear p2
          try clear c4
          try clear c6
          try clear c6b0
          try clear p6
          try clear c7
          try clear c9
          try clear c9b0
          try clear p2
          obtain ⟨kq, x27_7, rfl, HA, HJ7, ⟨mc7, rfl⟩⟩ := hcut
          cases kq with
          | zero => exact absurd HA.out (by simp [aqueductref01_Get.j1])
          | succ kj7 =>
            have H := HA.out
            clear HA
            simp only [aqueductref01_Get.j1] at H
            by_cases c10 : x27_7 = true
            · subst c10
              have H1 : (some (0, 10)) = some (r1, r2) := by rw [if_pos rfl] at H; exact H
              clear H
              have H := H1
              clear H1
              simp only [Option.some.injEq, Prod.mk.injEq] at H
              obtain ⟨rfl, rfl⟩ := H
              go_wp2
              go_ret2
              exact ⟨by first | rfl | (simp; done) | (simp [*]; done), by repeat (first | exact Drawn0.refl _ | apply Drawn0.step)⟩
            · replace c10 := Bool.eq_false_iff.mpr c10
              subst c10
              have H1 : (aqueductref01_Get.l0 kj7 a0 a1 a2 a3 0 0) = some (r1, r2) := by rw [if_neg (show ¬ (false = true) by decide)] at H; exact H
              clear H
              have H := H1
              clear H1
              have H' := Aside0.mk H
              clear H
              go_wp2
              go_loopg [10, 11] kj7 (fun kq v10 v11 w' => ∃ (x10_3 : Int) (x11_3 : Int), v10 = .int .u64 x10_3 ∧ v11 = .int .i64 x11_3 ∧ Aside0 (aqueductref01_Get.l0 kq a0 a1 a2 a3 x10_3 x11_3 = some (r1, r2)) ∧ Aside0 (kq ≤ kj7) ∧ Drawn0 w w')
              case atStart => exact ⟨(0), (0), (by first | rfl | (simp; done) | (simp [*]; done)), (by first | rfl | (simp; done) | (simp [*]; done)), H', ⟨Nat.le_refl _⟩, by repeat (first | exact Drawn0.refl _ | apply Drawn0.step)⟩
              case round =>
                clear H'
                try clear c1
                try clear c2
                try clear p2
                try clear c4
                try clear c6
                try clear c6b0
                try clear p6
                try clear c7
                try clear c9
                try clear c9b0
                try clear c10
                try clear p2
                try clear p6
                obtain ⟨x10_3, x11_3, rfl, rfl, HA, HK3, ⟨m3, rfl⟩⟩ := hrel
                cases gk with
                | zero => exact absurd HA.out (by simp [aqueductref01_Get.l0])
                | succ k3 =>
                  have H := HA.out
                  clear HA
                  simp only [aqueductref01_Get.l0] at H
                  by_cases c11 : x11_3 < a2
                  · rw [if_pos c11] at H
                    have c11b0 : decide (x11_3 < a2) = true := decide_eq_true c11
                    clear c11
                    by_cases c12 : a3 = true
                    · subst c12
                      have H1 : (if 0 ≤ (wrap64 (a1 + x11_3)) then (if (wrap64 (a1 + x11_3)) < (a0.size : Int) then (aqueductref01_Get.l0 k3 a0 a1 a2 true (IntKind.u64.wrap ((IntKind.u64.wrap (x10_3 * 256)) + (IntKind.u64.wrap (bt a0 (wrap64 (a1 + x11_3)))))) (wrap64 (x11_3 + 1))) else (none)) else (none)) = some (r1, r2) := by rw [if_pos rfl] at H; exact H
                      clear H
                      have H := H1
                      clear H1
                      obtain ⟨ji13, hji13⟩ : ∃ j_ : Int, (wrap64 (a1 + x11_3)) = j_ := ⟨_, rfl⟩
                      replace H : (if 0 ≤ (ji13) then (if (ji13) < (a0.size : Int) then (aqueductref01_Get.l0 k3 a0 a1 a2 true (IntKind.u64.wrap ((IntKind.u64.wrap (x10_3 * 256)) + (IntKind.u64.wrap (bt a0 (ji13))))) (wrap64 (x11_3 + 1))) else (none)) else (none)) = some (r1, r2) := by first | (rw [hji13] at H; exact H) | (simp only [hji13] at H ⊢; exact H)
                      have hji13w : (IntKind.i64.wrap (a1 + x11_3)) = ji13 := (i64_w _).trans hji13
                      by_cases c14 : 0 ≤ (ji13)
                      · rw [if_pos c14] at H
                        have c14b0 : decide (0 ≤ (ji13)) = true := decide_eq_true c14
                        clear c14
                        by_cases c15 : (ji13) < (a0.size : Int)
                        · rw [if_pos c15] at H
                          have c15b0 : decide ((ji13) < (a0.size : Int)) = true := decide_eq_true c15
                          clear c15
                          have H' := Aside0.mk H
                          clear H
                          have p16 : 0 ≤ ((ji13) : Int) := of_decide_eq_true (by first | (with_reducible assumption) | assumption)
                          have q16 : (ji13) < (a0.size : Int) := of_decide_eq_true (by first | (with_reducible assumption) | assumption)
                          have hx16 := bt_at a0 (ji13)
                          replace p16 := eq_true p16
                          replace q16 := eq_true q16
                          go_wp2
                          go_roundg k3
                          case measure => have := HJ4.out; have := HJ7.out; have := HK3.out; omega
                          case rel => exact ⟨(IntKind.u64.wrap ((IntKind.u64.wrap (x10_3 * 256)) + (IntKind.u64.wrap (bt a0 (ji13))))), (wrap64 (x11_3 + 1)), (by first | rfl | (simp; done) | (simp only [← hji13] <;> (first | rfl | simp)) | (simp [*]; done)), (by first | rfl | (simp; done) | (simp [*]; done)), H', ⟨by have := HJ4.out; have := HJ7.out; have := HK3.out; omega⟩, by repeat (first | exact Drawn0.refl _ | apply Drawn0.step)⟩
                        · rw [if_neg c15] at H
                          exact absurd H (by simp)
                      · rw [if_neg c14] at H
                        exact absurd H (by simp)
                    · replace c12 := Bool.eq_false_iff.mpr c12
                      subst c12
                      have H1 : (if 0 ≤ (wrap64 ((wrap64 ((wrap64 (a1 + a2)) - 1)) - x11_3)) then (if (wrap64 ((wrap64 ((wrap64 (a1 + a2)) - 1)) - x11_3)) < (a0.size : Int) then (aqueductref01_Get.l0 k3 a0 a1 a2 false (IntKind.u64.wrap ((IntKind.u64.wrap (x10_3 * 256)) + (IntKind.u64.wrap (bt a0 (wrap64 ((wrap64 ((wrap64 (a1 + a2)) - 1)) - x11_3)))))) (wrap64 (x11_3 + 1))) else (none)) else (none)) = some (r1, r2) := by rw [if_neg (show ¬ (false = true) by decide)] at H; exact H
                      clear H
                      have H := H1
                      clear H1
                      obtain ⟨ji17, hji17⟩ : ∃ j_ : Int, (wrap64 ((wrap64 ((wrap64 (a1 + a2)) - 1)) - x11_3)) = j_ := ⟨_, rfl⟩
                      replace H : (if 0 ≤ (ji17) then (if (ji17) < (a0.size : Int) then (aqueductref01_Get.l0 k3 a0 a1 a2 false (IntKind.u64.wrap ((IntKind.u64.wrap (x10_3 * 256)) + (IntKind.u64.wrap (bt a0 (ji17))))) (wrap64 (x11_3 + 1))) else (none)) else (none)) = some (r1, r2) := by first | (rw [hji17] at H; exact H) | (simp only [hji17] at H ⊢; exact H)
                      have hji17w : (IntKind.i64.wrap ((wrap64 ((wrap64 (a1 + a2)) - 1)) - x11_3)) = ji17 := (i64_w _).trans hji17
                      by_cases c18 : 0 ≤ (ji17)
                      · rw [if_pos c18] at H
                        have c18b0 : decide (0 ≤ (ji17)) = true := decide_eq_true c18
                        clear c18
                        by_cases c19 : (ji17) < (a0.size : Int)
                        · rw [if_pos c19] at H
                          have c19b0 : decide ((ji17) < (a0.size : Int)) = true := decide_eq_true c19
                          clear c19
                          have H' := Aside0.mk H
                          clear H
                          have p20 : 0 ≤ ((ji17) : Int) := of_decide_eq_true (by first | (with_reducible assumption) | assumption)
                          have q20 : (ji17) < (a0.size : Int) := of_decide_eq_true (by first | (with_reducible assumption) | assumption)
                          have hx20 := bt_at a0 (ji17)
                          replace p20 := eq_true p20
                          replace q20 := eq_true q20
                          go_wp2
                          go_roundg k3
                          case measure => have := HJ4.out; have := HJ7.out; have := HK3.out; omega
                          case rel => exact ⟨(IntKind.u64.wrap ((IntKind.u64.wrap (x10_3 * 256)) + (IntKind.u64.wrap (bt a0 (ji17))))), (wrap64 (x11_3 + 1)), (by first | rfl | (simp; done) | (simp only [← hji17] <;> (first | rfl | simp)) | (simp [*]; done)), (by first | rfl | (simp; done) | (simp [*]; done)), H', ⟨by have := HJ4.out; have := HJ7.out; have := HK3.out; omega⟩, by repeat (first | exact Drawn0.refl _ | apply Drawn0.step)⟩
                        · rw [if_neg c19] at H
                          exact absurd H (by simp)
                      · rw [if_neg c18] at H
                        exact absurd H (by simp)
                  · rw [if_neg c11] at H
                    have c11b0 : decide (x11_3 < a2) = false := decide_eq_false c11
                    clear c11
                    simp only [Option.some.injEq, Prod.mk.injEq] at H
                    obtain ⟨rfl, rfl⟩ := H
                    go_wp2
                    go_ret2
                    exact ⟨by first | rfl | (simp; done) | (simp [*]; done), by repeat (first | exact Drawn0.refl _ | apply Drawn0.step)⟩

end Go.Proofs.Ytehaffldjnmblaa.P
