/- What functions of the program compute, each with the walk that shows it: by a program (a turned copy of the kit's print; wip/myprint.py). -/
import Derived.Test.YtiffbjpmmbfkjaaDoorPx0
import Derived.Test.YtiffbjpmmbfkjaaDoorPx7
import Derived.Test.YtiffbjpmmbfkjaaDoorHand
namespace Go.Proofs.YtiffbjpmmbfkjaaDoor.P
open Go.RowKit Go.Proofs.YtiffbjpmmbfkjaaDoorW.PrintWords Go.Proofs.YtiffbjpmmbfkjaaDoorW.PrintLast Go.Proofs.YtiffbjpmmbfkjaaDoorW.PrintMore
attribute [local go_sem] max2_int min2_int max_two min_two max_three min_three max_four min_four   -- for this text's walks alone
set_option linter.unusedVariables false
set_option linter.unusedSimpArgs false

/-! ### aqueductlaw05_AddrBack: function 5 -/
def aqueductlaw05_AddrBack.j0 : Nat → ByteArray → Option (Bool)
  | 0, _ => none
  | k + 1, x2 => (addr_Parse.f x2).bind fun bt164 => (if bt164.2 = 0 then ((addr_Print.f bt164.1).bind fun bt166 => (if bt166.2 = 0 then (if bt166.1.toList = x2.toList then ((aqueductlaw05_fixed.f).bind fun t168 => (some t168)) else (some false)) else (some false))) else (if bt164.1.toList = ([] : List UInt8) then ((aqueductlaw05_fixed.f).bind fun t169 => (some t169)) else (some false)))
def aqueductlaw05_AddrBack.f (k : Nat) (a0 : ByteArray) (a1 : ByteArray) (a2 : ByteArray) : Option (Bool) := (addr_Print.f a0).bind fun bt158 => ((addr_Print.f a1).bind fun bt160 => (if bt158.2 = 0 then ((addr_Parse.f bt158.1).bind fun bt162 => (if bt162.2 = 0 then (if bt162.1.toList = a0.toList then (if bt160.2 = 0 then (if ((bt158.1.toList == bt160.1.toList) != (a0.toList == a1.toList)) = true then (some false) else (aqueductlaw05_AddrBack.j0 k a2)) else (aqueductlaw05_AddrBack.j0 k a2)) else (some false)) else (some false))) else (aqueductlaw05_AddrBack.j0 k a2)))
theorem aqueductlaw05_AddrBack.mono_l : ∀ k, (∀ y0, LeO (aqueductlaw05_AddrBack.j0 k y0) (aqueductlaw05_AddrBack.j0 (k + 1) y0))
  | 0 => fun _ r h => by simp [aqueductlaw05_AddrBack.j0] at h
  | k + 1 => by
    have ih0 := aqueductlaw05_AddrBack.mono_l k
    · intro y0
      unfold aqueductlaw05_AddrBack.j0
      repeat' first
      | (with_reducible exact ih0 _)
      | (with_reducible exact LeO.refl _)
      | (with_reducible exact LeO.none _)
      | (with_reducible refine LeO.ite ?_ ?_)
      | (with_reducible refine LeO.bind ?_ (fun _ => ?_))
      | exact ih0 _
      | exact LeO.none _
      | refine LeO.ite ?_ ?_
      | refine LeO.bind ?_ (fun _ => ?_)
theorem aqueductlaw05_AddrBack.mono : ∀ a0 a1 a2 k, LeO (aqueductlaw05_AddrBack.f k a0 a1 a2) (aqueductlaw05_AddrBack.f (k + 1) a0 a1 a2) := by
  intro a0 a1 a2 k
  have ih0 := aqueductlaw05_AddrBack.mono_l k
  unfold aqueductlaw05_AddrBack.f
  repeat' first
      | (with_reducible exact ih0 _)
      | (with_reducible exact LeO.refl _)
      | (with_reducible exact LeO.none _)
      | (with_reducible refine LeO.ite ?_ ?_)
      | (with_reducible refine LeO.bind ?_ (fun _ => ?_))
      | exact ih0 _
      | exact LeO.none _
      | refine LeO.ite ?_ ?_
      | refine LeO.bind ?_ (fun _ => ?_)
set_option maxHeartbeats 8000000 in
set_option maxRecDepth 100000 in
theorem aqueductlaw05_AddrBack.calls (k : Nat) (a0 : ByteArray) (a1 : ByteArray) (a2 : ByteArray) (r : Bool) (w : World) (h : aqueductlaw05_AddrBack.f k a0 a1 a2 = some r) (hr_ : r = true) :
    Calls Tryd.prog 5 #[.string a0, .string a1, .string a2] w fun e w' => e = .returned (.bool r) ∧ Below w.heap.size w w' := by
  have HB := Aside0.mk (Below.refl w.heap.size w)
  have H : ((addr_Print.f a0).bind fun bt158 => ((addr_Print.f a1).bind fun bt160 => (if bt158.2 = 0 then ((addr_Parse.f bt158.1).bind fun bt162 => (if bt162.2 = 0 then (if bt162.1.toList = a0.toList then (if bt160.2 = 0 then (if ((bt158.1.toList == bt160.1.toList) != (a0.toList == a1.toList)) = true then (some false) else (aqueductlaw05_AddrBack.j0 k a2)) else (aqueductlaw05_AddrBack.j0 k a2)) else (some false)) else (some false))) else (aqueductlaw05_AddrBack.j0 k a2)))) = some r := h
  clear h
  have HR_ := Aside0.mk hr_
  clear hr_
  replace H := Option.bind_eq_some_iff.mp H
  obtain ⟨⟨t158, t159⟩, A40, H⟩ := H
  replace H : ((addr_Print.f a1).bind fun bt160 => (if t159 = 0 then ((addr_Parse.f t158).bind fun bt162 => (if bt162.2 = 0 then (if bt162.1.toList = a0.toList then (if bt160.2 = 0 then (if ((t158.toList == bt160.1.toList) != (a0.toList == a1.toList)) = true then (some false) else (aqueductlaw05_AddrBack.j0 k a2)) else (aqueductlaw05_AddrBack.j0 k a2)) else (some false)) else (some false))) else (aqueductlaw05_AddrBack.j0 k a2))) = some r := H
  have A4 := Aside0.mk A40
  clear A40
  replace H := Option.bind_eq_some_iff.mp H
  obtain ⟨⟨t160, t161⟩, A50, H⟩ := H
  replace H : (if t159 = 0 then ((addr_Parse.f t158).bind fun bt162 => (if bt162.2 = 0 then (if bt162.1.toList = a0.toList then (if t161 = 0 then (if ((t158.toList == t160.toList) != (a0.toList == a1.toList)) = true then (some false) else (aqueductlaw05_AddrBack.j0 k a2)) else (aqueductlaw05_AddrBack.j0 k a2)) else (some false)) else (some false))) else (aqueductlaw05_AddrBack.j0 k a2)) = some r := H
  have A5 := Aside0.mk A50
  clear A50
  have HC6 := Aside0.mk H
  clear H
  go_enter Tryd.func5, Tryd.ntmps5
  go_upto_if 28 with (first | ((with_reducible refine gate_callee (f := 8) rfl ?_); refine goesL_ (some 19) rfl rfl Tryd.func8 (by kernel_rfl) rfl #[.string a0] rfl (by (try simp only [List.map_toArray, List.map_cons, List.map_nil]); first | done | rfl | (simp only [List.length_drop, List.length_take]; rfl)) ?_; (with_reducible refine (addr_Print.calls a0 t158 t159 _ A4.out).mono ?_); rintro e w7 ⟨rfl, hb⟩; refine ⟨_, rfl, ?_⟩; have n0_ := Aside0.mk (below_step (by repeat (first | (with_reducible first | exact HB.out | apply below_alloc | apply pw_below_drewN | apply below_drew1) | exact HB.out)) hb); clear HB; have HB := n0_; clear n0_; (try clear hb); (try clear hb2); (try clear hk); (try clear hi)) | ((with_reducible refine gate_callee (f := 8) rfl ?_); refine goesL_ (some 24) rfl rfl Tryd.func8 (by kernel_rfl) rfl #[.string a1] rfl (by (try simp only [List.map_toArray, List.map_cons, List.map_nil]); first | done | rfl | (simp only [List.length_drop, List.length_take]; rfl)) ?_; (with_reducible refine (addr_Print.calls a1 t160 t161 _ A5.out).mono ?_); rintro e w8 ⟨rfl, hb⟩; refine ⟨_, rfl, ?_⟩; have n0_ := Aside0.mk (below_step (by repeat (first | (with_reducible first | exact HB.out | apply below_alloc | apply pw_below_drewN | apply below_drew1) | exact HB.out)) hb); clear HB; have HB := n0_; clear n0_; (try clear hb); (try clear hb2); (try clear hk); (try clear hi)))
  (try simp only [Act.put, List.setIfInBounds_toArray, List.set_cons_zero, List.set_cons_succ])
  go_cut [] (fun wc => ∃ (kq : Nat), Aside0 (aqueductlaw05_AddrBack.j0 kq a2 = some r) ∧ Aside0 (kq ≤ k) ∧ Aside0 (Below w.heap.size w wc))
  case first =>
    have H := HC6.out
    clear HC6
    by_cases c9 : t159 = 0
    · rw [if_pos c9] at H
      have c9b0 : (t159 == 0) = true := beq_iff_eq.mpr c9
      have c9b1 : (t159 != 0) = false := bne_eq_false_iff_eq.mpr c9
      clear c9
      (first | rw [c9b0] | (simp only [i64_w, i32_w]; rw [c9b0]) | skip)
      replace H := Option.bind_eq_some_iff.mp H
      obtain ⟨⟨t162, t163⟩, A100, H⟩ := H
      replace H : (if t163 = 0 then (if t162.toList = a0.toList then (if t161 = 0 then (if ((t158.toList == t160.toList) != (a0.toList == a1.toList)) = true then (some false) else (aqueductlaw05_AddrBack.j0 k a2)) else (aqueductlaw05_AddrBack.j0 k a2)) else (some false)) else (some false)) = some r := H
      have A10 := Aside0.mk A100
      clear A100
      by_cases c11 : t163 = 0
      · rw [if_pos c11] at H
        have c11b0 : (t163 == 0) = true := beq_iff_eq.mpr c11
        have c11b1 : (t163 != 0) = false := bne_eq_false_iff_eq.mpr c11
        clear c11
        by_cases c12 : t162.toList = a0.toList
        · rw [if_pos c12] at H
          have c12b0 : (t162.toList == a0.toList) = true := beq_iff_eq.mpr c12
          have c12b1 : (t162.toList != a0.toList) = false := bne_eq_false_iff_eq.mpr c12
          clear c12
          by_cases c13 : t161 = 0
          · rw [if_pos c13] at H
            have c13b0 : (t161 == 0) = true := beq_iff_eq.mpr c13
            have c13b1 : (t161 != 0) = false := bne_eq_false_iff_eq.mpr c13
            clear c13
            by_cases c14 : ((t158.toList == t160.toList) != (a0.toList == a1.toList)) = true
            · rw [if_pos c14] at H
              have c14b0 : ((t158.toList == t160.toList) != (a0.toList == a1.toList)) = true := c14
              (try (have c14b1 : decide ((t158.toList == t160.toList) = (a0.toList == a1.toList)) = false := by simpa using c14))
              (try (have c14b2 : ((t158.toList == t160.toList) == (a0.toList == a1.toList)) = false := by simpa using c14))
              (try (have c14b3 : ¬ ((t158.toList == t160.toList) = (a0.toList == a1.toList)) := by simpa using c14))
              clear c14
              obtain rfl := Option.some.inj H
              exact absurd HR_.out (by decide)
            · rw [if_neg c14] at H
              have c14b0 : ((t158.toList == t160.toList) != (a0.toList == a1.toList)) = false := by simpa using c14
              (try (have c14b1 : decide ((t158.toList == t160.toList) = (a0.toList == a1.toList)) = true := by simpa using c14))
              (try (have c14b2 : ((t158.toList == t160.toList) == (a0.toList == a1.toList)) = true := by simpa using c14))
              clear c14
              have H' := Aside0.mk H
              clear H
              go_wp2_with (first | ((with_reducible refine gate_callee (f := 10) rfl ?_); refine goesL_ (some 31) rfl rfl Tryd.func10 (by kernel_rfl) rfl #[.string t158] rfl (by (try simp only [List.map_toArray, List.map_cons, List.map_nil]); first | done | rfl | (simp only [List.length_drop, List.length_take]; rfl)) ?_; (with_reducible refine (addr_Parse.calls t158 t162 t163 _ A10.out).mono ?_); rintro e w15 ⟨rfl, hb⟩; refine ⟨_, rfl, ?_⟩; have n0_ := Aside0.mk (below_step (by repeat (first | (with_reducible first | exact HB.out | apply below_alloc | apply pw_below_drewN | apply below_drew1) | exact HB.out)) hb); clear HB; have HB := n0_; clear n0_; (try clear hb); (try clear hb2); (try clear hk); (try clear hi)))
              go_meet
              case rel => exact ⟨_, H', ⟨by first | omega | exact Nat.le_refl _⟩, ⟨by repeat (first | (with_reducible first | exact HB.out | apply below_alloc | apply pw_below_drewN | apply below_drew1) | exact HB.out)⟩⟩
          · rw [if_neg c13] at H
            have c13b0 : (t161 == 0) = false := beq_eq_false_iff_ne.mpr c13
            have c13b1 : (t161 != 0) = true := bne_iff_ne.mpr c13
            have H' := Aside0.mk H
            clear H
            go_wp2_with (first | ((with_reducible refine gate_callee (f := 10) rfl ?_); refine goesL_ (some 31) rfl rfl Tryd.func10 (by kernel_rfl) rfl #[.string t158] rfl (by (try simp only [List.map_toArray, List.map_cons, List.map_nil]); first | done | rfl | (simp only [List.length_drop, List.length_take]; rfl)) ?_; (with_reducible refine (addr_Parse.calls t158 t162 t163 _ A10.out).mono ?_); rintro e w16 ⟨rfl, hb⟩; refine ⟨_, rfl, ?_⟩; have n0_ := Aside0.mk (below_step (by repeat (first | (with_reducible first | exact HB.out | apply below_alloc | apply pw_below_drewN | apply below_drew1) | exact HB.out)) hb); clear HB; have HB := n0_; clear n0_; (try clear hb); (try clear hb2); (try clear hk); (try clear hi)))
            go_meet
            case rel => exact ⟨_, H', ⟨by first | omega | exact Nat.le_refl _⟩, ⟨by repeat (first | (with_reducible first | exact HB.out | apply below_alloc | apply pw_below_drewN | apply below_drew1) | exact HB.out)⟩⟩
        · rw [if_neg c12] at H
          have c12b0 : (t162.toList == a0.toList) = false := beq_eq_false_iff_ne.mpr c12
          have c12b1 : (t162.toList != a0.toList) = true := bne_iff_ne.mpr c12
          obtain rfl := Option.some.inj H
          exact absurd HR_.out (by decide)
      · rw [if_neg c11] at H
        have c11b0 : (t163 == 0) = false := beq_eq_false_iff_ne.mpr c11
        have c11b1 : (t163 != 0) = true := bne_iff_ne.mpr c11
        obtain rfl := Option.some.inj H
        exact absurd HR_.out (by decide)
    · rw [if_neg c9] at H
      have c9b0 : (t159 == 0) = false := beq_eq_false_iff_ne.mpr c9
      have c9b1 : (t159 != 0) = true := bne_iff_ne.mpr c9
      (first | rw [c9b0] | (simp only [i64_w, i32_w]; rw [c9b0]) | skip)
      have H' := Aside0.mk H
      clear H
      go_wp2
      go_meet
      case rel => exact ⟨_, H', ⟨by first | omega | exact Nat.le_refl _⟩, ⟨by repeat (first | (with_reducible first | exact HB.out | apply below_alloc | apply pw_below_drewN | apply below_drew1) | exact HB.out)⟩⟩
  case rest =>
    clear HC6
    try clear c1
    try clear p2
    try clear c5
    try clear c8
    try clear c9
    try clear c9b0
    try clear c9b1
    try clear c10
    try clear c11
    try clear c11b0
    try clear c11b1
    try clear c12
    try clear c12b0
    try clear c12b1
    try clear c13
    try clear c13b0
    try clear c13b1
    try clear c14
    try clear c14b0
    try clear c14b1
    try clear c14b2
    obtain ⟨kq, HA, HJ5, HB⟩ := hcut
    cases kq with
    | zero => exact absurd HA.out (by simp [aqueductlaw05_AddrBack.j0])
    | succ kj5 =>
      have H := HA.out
      clear HA
      simp only [aqueductlaw05_AddrBack.j0] at H
      replace H := Option.bind_eq_some_iff.mp H
      obtain ⟨⟨t164, t165⟩, A170, H⟩ := H
      replace H : (if t165 = 0 then ((addr_Print.f t164).bind fun bt166 => (if bt166.2 = 0 then (if bt166.1.toList = a2.toList then ((aqueductlaw05_fixed.f).bind fun t168 => (some t168)) else (some false)) else (some false))) else (if t164.toList = ([] : List UInt8) then ((aqueductlaw05_fixed.f).bind fun t169 => (some t169)) else (some false))) = some r := H
      have A17 := Aside0.mk A170
      clear A170
      by_cases c18 : t165 = 0
      · rw [if_pos c18] at H
        have c18b0 : (t165 == 0) = true := beq_iff_eq.mpr c18
        have c18b1 : (t165 != 0) = false := bne_eq_false_iff_eq.mpr c18
        clear c18
        replace H := Option.bind_eq_some_iff.mp H
        obtain ⟨⟨t166, t167⟩, A190, H⟩ := H
        replace H : (if t167 = 0 then (if t166.toList = a2.toList then ((aqueductlaw05_fixed.f).bind fun t168 => (some t168)) else (some false)) else (some false)) = some r := H
        have A19 := Aside0.mk A190
        clear A190
        by_cases c20 : t167 = 0
        · rw [if_pos c20] at H
          have c20b0 : (t167 == 0) = true := beq_iff_eq.mpr c20
          have c20b1 : (t167 != 0) = false := bne_eq_false_iff_eq.mpr c20
          clear c20
          by_cases c21 : t166.toList = a2.toList
          · rw [if_pos c21] at H
            have c21b0 : (t166.toList == a2.toList) = true := beq_iff_eq.mpr c21
            have c21b1 : (t166.toList != a2.toList) = false := bne_eq_false_iff_eq.mpr c21
            clear c21
            replace H := Option.bind_eq_some_iff.mp H
            obtain ⟨t168, A220, H⟩ := H
            replace H : (some t168) = some r := H
            have A22 := Aside0.mk A220
            clear A220
            obtain rfl := Option.some.inj H
            go_wp2_with (first | ((with_reducible refine gate_callee (f := 10) rfl ?_); refine goesL_ (some 56) rfl rfl Tryd.func10 (by kernel_rfl) rfl #[.string a2] rfl (by (try simp only [List.map_toArray, List.map_cons, List.map_nil]); first | done | rfl | (simp only [List.length_drop, List.length_take]; rfl)) ?_; (with_reducible refine (addr_Parse.calls a2 t164 t165 _ A17.out).mono ?_); rintro e w23 ⟨rfl, hb⟩; refine ⟨_, rfl, ?_⟩; have n0_ := Aside0.mk (below_step (by repeat (first | (with_reducible first | exact HB.out | apply below_alloc | apply pw_below_drewN | apply below_drew1) | exact HB.out)) hb); clear HB; have HB := n0_; clear n0_; (try clear hb); (try clear hb2); (try clear hk); (try clear hi)) | ((with_reducible refine gate_callee (f := 8) rfl ?_); refine goesL_ (some 68) rfl rfl Tryd.func8 (by kernel_rfl) rfl #[.string t164] rfl (by (try simp only [List.map_toArray, List.map_cons, List.map_nil]); first | done | rfl | (simp only [List.length_drop, List.length_take]; rfl)) ?_; (with_reducible refine (addr_Print.calls t164 t166 t167 _ A19.out).mono ?_); rintro e w24 ⟨rfl, hb⟩; refine ⟨_, rfl, ?_⟩; have n0_ := Aside0.mk (below_step (by repeat (first | (with_reducible first | exact HB.out | apply below_alloc | apply pw_below_drewN | apply below_drew1) | exact HB.out)) hb); clear HB; have HB := n0_; clear n0_; (try clear hb); (try clear hb2); (try clear hk); (try clear hi)) | (go_at_call 12; (with_reducible refine (aqueductlaw05_fixed.calls  t168 _ A22.out).mono ?_); rintro e w25 ⟨rfl, hb⟩; have n0_ := Aside0.mk (below_step (by repeat (first | (with_reducible first | exact HB.out | apply below_alloc | apply pw_below_drewN | apply below_drew1) | exact HB.out)) hb); clear HB; have HB := n0_; clear n0_; (try clear hb); (try clear hb2); (try clear hk); (try clear hi)))
            go_ret
            exact ⟨by first | rfl | (simp [errW_none, errW_some] <;> rfl) | (simp [*, errW_none, errW_some] <;> rfl) | (exfalso; simp_all), by repeat (first | (with_reducible first | exact HB.out | apply below_alloc | apply pw_below_drewN | apply below_drew1) | exact HB.out)⟩
          · rw [if_neg c21] at H
            have c21b0 : (t166.toList == a2.toList) = false := beq_eq_false_iff_ne.mpr c21
            have c21b1 : (t166.toList != a2.toList) = true := bne_iff_ne.mpr c21
            obtain rfl := Option.some.inj H
            exact absurd HR_.out (by decide)
        · rw [if_neg c20] at H
          have c20b0 : (t167 == 0) = false := beq_eq_false_iff_ne.mpr c20
          have c20b1 : (t167 != 0) = true := bne_iff_ne.mpr c20
          obtain rfl := Option.some.inj H
          exact absurd HR_.out (by decide)
      · rw [if_neg c18] at H
        have c18b0 : (t165 == 0) = false := beq_eq_false_iff_ne.mpr c18
        have c18b1 : (t165 != 0) = true := bne_iff_ne.mpr c18
        by_cases c26 : t164.toList = ([] : List UInt8)
        · rw [if_pos c26] at H
          have c26b0 : (t164.toList == ([] : List UInt8)) = true := beq_iff_eq.mpr c26
          have c26b1 : (t164.toList != ([] : List UInt8)) = false := bne_eq_false_iff_eq.mpr c26
          clear c26
          replace H := Option.bind_eq_some_iff.mp H
          obtain ⟨t169, A270, H⟩ := H
          replace H : (some t169) = some r := H
          have A27 := Aside0.mk A270
          clear A270
          obtain rfl := Option.some.inj H
          go_wp2_with (first | ((with_reducible refine gate_callee (f := 10) rfl ?_); refine goesL_ (some 56) rfl rfl Tryd.func10 (by kernel_rfl) rfl #[.string a2] rfl (by (try simp only [List.map_toArray, List.map_cons, List.map_nil]); first | done | rfl | (simp only [List.length_drop, List.length_take]; rfl)) ?_; (with_reducible refine (addr_Parse.calls a2 t164 t165 _ A17.out).mono ?_); rintro e w28 ⟨rfl, hb⟩; refine ⟨_, rfl, ?_⟩; have n0_ := Aside0.mk (below_step (by repeat (first | (with_reducible first | exact HB.out | apply below_alloc | apply pw_below_drewN | apply below_drew1) | exact HB.out)) hb); clear HB; have HB := n0_; clear n0_; (try clear hb); (try clear hb2); (try clear hk); (try clear hi)) | (go_at_call 12; (with_reducible refine (aqueductlaw05_fixed.calls  t169 _ A27.out).mono ?_); rintro e w29 ⟨rfl, hb⟩; have n0_ := Aside0.mk (below_step (by repeat (first | (with_reducible first | exact HB.out | apply below_alloc | apply pw_below_drewN | apply below_drew1) | exact HB.out)) hb); clear HB; have HB := n0_; clear n0_; (try clear hb); (try clear hb2); (try clear hk); (try clear hi)))
          go_ret
          exact ⟨by first | rfl | (simp [errW_none, errW_some] <;> rfl) | (simp [*, errW_none, errW_some] <;> rfl) | (exfalso; simp_all), by repeat (first | (with_reducible first | exact HB.out | apply below_alloc | apply pw_below_drewN | apply below_drew1) | exact HB.out)⟩
        · rw [if_neg c26] at H
          have c26b0 : (t164.toList == ([] : List UInt8)) = false := beq_eq_false_iff_ne.mpr c26
          have c26b1 : (t164.toList != ([] : List UInt8)) = true := bne_iff_ne.mpr c26
          obtain rfl := Option.some.inj H
          exact absurd HR_.out (by decide)

/-- THE ONE PURE STATEMENT of aqueductlaw05_AddrBack: yours. -/
def aqueductlaw05_AddrBack.Pure : Prop := ∀ (a0 : ByteArray) (a1 : ByteArray) (a2 : ByteArray), a0.size ≤ 140737488351232 → a1.size ≤ 140737488351232 → a2.size ≤ 140737488351232 → ∃ k, aqueductlaw05_AddrBack.f k a0 a1 a2 = some true
theorem aqueductlaw05_AddrBack.walk (P : aqueductlaw05_AddrBack.Pure) (a0 : ByteArray) (a1 : ByteArray) (a2 : ByteArray) (w : World) (w0 : a0.size ≤ 140737488351232) (w1 : a1.size ≤ 140737488351232) (w2 : a2.size ≤ 140737488351232) :
    Calls Tryd.prog 5 #[.string a0, .string a1, .string a2] w fun e w' => e = .returned (.bool true) ∧ Below w.heap.size w w' := by
  obtain ⟨k, h⟩ := P a0 a1 a2 w0 w1 w2
  refine (aqueductlaw05_AddrBack.calls k a0 a1 a2 true w h rfl).mono ?_
  rintro e w' ⟨rfl, hd⟩
  exact ⟨rfl, hd⟩

end Go.Proofs.YtiffbjpmmbfkjaaDoor.P
