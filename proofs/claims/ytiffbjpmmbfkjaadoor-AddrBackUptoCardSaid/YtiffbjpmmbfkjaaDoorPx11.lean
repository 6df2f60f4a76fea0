/- What functions of the program compute, each with the walk that shows it: by a program (a turned copy of the kit's print; wip/myprint.py). -/
import Derived.Test.YtiffbjpmmbfkjaaDoorPx0
import Derived.Test.YtiffbjpmmbfkjaaDoorPx6
import Derived.Test.YtiffbjpmmbfkjaaDoorPx7
import Derived.Test.YtiffbjpmmbfkjaaDoorHand
namespace Go.Proofs.YtiffbjpmmbfkjaaDoor.P
open Go.RowKit Go.Proofs.YtiffbjpmmbfkjaaDoorW.PrintWords Go.Proofs.YtiffbjpmmbfkjaaDoorW.PrintLast Go.Proofs.YtiffbjpmmbfkjaaDoorW.PrintMore
attribute [local go_sem] max2_int min2_int max_two min_two max_three min_three max_four min_four   -- for this text's walks alone
set_option linter.unusedVariables false
set_option linter.unusedSimpArgs false

/-! ### aqueductlaw05_AddrPorts: function 6 -/
def aqueductlaw05_AddrPorts.f (a0 : Int) (a1 : Int) : Option (Bool) := (addr_Port.f (Go.bits .and .i64 a0 15)).bind fun t170 => ((addr_Port.f (Go.bits .and .i64 a1 15)).bind fun t171 => ((aqueductlaw05_fixed.f).bind fun t172 => (if t172 = true then ((addr_Kind.f t170).bind fun t173 => (if t173 = 1 then (if ((t170.toList == t171.toList) == ((Go.bits .and .i64 a0 15) == (Go.bits .and .i64 a1 15))) = true then ((addr_By.f t170).bind fun t174 => (if t174 = (Go.bits .and .i64 a0 15) then (if t170.size + 1 ≤ 9223372036854775807 then ((addr_By.f (t170 ++ (⟨#[0]⟩ : ByteArray))).bind fun t175 => (some (t175 == (-1)))) else (none)) else (some false))) else (some false)) else (some false))) else (some false))))
set_option maxHeartbeats 8000000 in
set_option maxRecDepth 100000 in
theorem aqueductlaw05_AddrPorts.calls (a0 : Int) (a1 : Int) (r : Bool) (w : World) (h : aqueductlaw05_AddrPorts.f a0 a1 = some r) (hr_ : r = true) :
    Calls Tryd.prog 6 #[.int .i64 a0, .int .i64 a1] w fun e w' => e = .returned (.bool r) ∧ Below w.heap.size w w' := by
  have HB := Aside0.mk (Below.refl w.heap.size w)
  have H : ((addr_Port.f (Go.bits .and .i64 a0 15)).bind fun t170 => ((addr_Port.f (Go.bits .and .i64 a1 15)).bind fun t171 => ((aqueductlaw05_fixed.f).bind fun t172 => (if t172 = true then ((addr_Kind.f t170).bind fun t173 => (if t173 = 1 then (if ((t170.toList == t171.toList) == ((Go.bits .and .i64 a0 15) == (Go.bits .and .i64 a1 15))) = true then ((addr_By.f t170).bind fun t174 => (if t174 = (Go.bits .and .i64 a0 15) then (if t170.size + 1 ≤ 9223372036854775807 then ((addr_By.f (t170 ++ (⟨#[0]⟩ : ByteArray))).bind fun t175 => (some (t175 == (-1)))) else (none)) else (some false))) else (some false)) else (some false))) else (some false))))) = some r := h
  clear h
  have HR_ := Aside0.mk hr_
  clear hr_
  replace H := Option.bind_eq_some_iff.mp H
  obtain ⟨t170, A30, H⟩ := H
  replace H : ((addr_Port.f (Go.bits .and .i64 a1 15)).bind fun t171 => ((aqueductlaw05_fixed.f).bind fun t172 => (if t172 = true then ((addr_Kind.f t170).bind fun t173 => (if t173 = 1 then (if ((t170.toList == t171.toList) == ((Go.bits .and .i64 a0 15) == (Go.bits .and .i64 a1 15))) = true then ((addr_By.f t170).bind fun t174 => (if t174 = (Go.bits .and .i64 a0 15) then (if t170.size + 1 ≤ 9223372036854775807 then ((addr_By.f (t170 ++ (⟨#[0]⟩ : ByteArray))).bind fun t175 => (some (t175 == (-1)))) else (none)) else (some false))) else (some false)) else (some false))) else (some false)))) = some r := H
  have A3 := Aside0.mk A30
  clear A30
  replace H := Option.bind_eq_some_iff.mp H
  obtain ⟨t171, A40, H⟩ := H
  replace H : ((aqueductlaw05_fixed.f).bind fun t172 => (if t172 = true then ((addr_Kind.f t170).bind fun t173 => (if t173 = 1 then (if ((t170.toList == t171.toList) == ((Go.bits .and .i64 a0 15) == (Go.bits .and .i64 a1 15))) = true then ((addr_By.f t170).bind fun t174 => (if t174 = (Go.bits .and .i64 a0 15) then (if t170.size + 1 ≤ 9223372036854775807 then ((addr_By.f (t170 ++ (⟨#[0]⟩ : ByteArray))).bind fun t175 => (some (t175 == (-1)))) else (none)) else (some false))) else (some false)) else (some false))) else (some false))) = some r := H
  have A4 := Aside0.mk A40
  clear A40
  replace H := Option.bind_eq_some_iff.mp H
  obtain ⟨t172, A50, H⟩ := H
  replace H : (if t172 = true then ((addr_Kind.f t170).bind fun t173 => (if t173 = 1 then (if ((t170.toList == t171.toList) == ((Go.bits .and .i64 a0 15) == (Go.bits .and .i64 a1 15))) = true then ((addr_By.f t170).bind fun t174 => (if t174 = (Go.bits .and .i64 a0 15) then (if t170.size + 1 ≤ 9223372036854775807 then ((addr_By.f (t170 ++ (⟨#[0]⟩ : ByteArray))).bind fun t175 => (some (t175 == (-1)))) else (none)) else (some false))) else (some false)) else (some false))) else (some false)) = some r := H
  have A5 := Aside0.mk A50
  clear A50
  by_cases c6 : t172 = true
  · subst c6
    have H1 : ((addr_Kind.f t170).bind fun t173 => (if t173 = 1 then (if ((t170.toList == t171.toList) == ((Go.bits .and .i64 a0 15) == (Go.bits .and .i64 a1 15))) = true then ((addr_By.f t170).bind fun t174 => (if t174 = (Go.bits .and .i64 a0 15) then (if t170.size + 1 ≤ 9223372036854775807 then ((addr_By.f (t170 ++ (⟨#[0]⟩ : ByteArray))).bind fun t175 => (some (t175 == (-1)))) else (none)) else (some false))) else (some false)) else (some false))) = some r := by rw [if_pos rfl] at H; exact H
    clear H
    have H := H1
    clear H1
    replace H := Option.bind_eq_some_iff.mp H
    obtain ⟨t173, A70, H⟩ := H
    replace H : (if t173 = 1 then (if ((t170.toList == t171.toList) == ((Go.bits .and .i64 a0 15) == (Go.bits .and .i64 a1 15))) = true then ((addr_By.f t170).bind fun t174 => (if t174 = (Go.bits .and .i64 a0 15) then (if t170.size + 1 ≤ 9223372036854775807 then ((addr_By.f (t170 ++ (⟨#[0]⟩ : ByteArray))).bind fun t175 => (some (t175 == (-1)))) else (none)) else (some false))) else (some false)) else (some false)) = some r := H
    have A7 := Aside0.mk A70
    clear A70
    by_cases c8 : t173 = 1
    · rw [if_pos c8] at H
      have c8b0 : (t173 == 1) = true := beq_iff_eq.mpr c8
      have c8b1 : (t173 != 1) = false := bne_eq_false_iff_eq.mpr c8
      clear c8
      by_cases c9 : ((t170.toList == t171.toList) == ((Go.bits .and .i64 a0 15) == (Go.bits .and .i64 a1 15))) = true
      · rw [if_pos c9] at H
        have c9b0 : ((t170.toList == t171.toList) == ((Go.bits .and .i64 a0 15) == (Go.bits .and .i64 a1 15))) = true := c9
        (try (have c9b1 : decide ((t170.toList == t171.toList) = ((Go.bits .and .i64 a0 15) == (Go.bits .and .i64 a1 15))) = true := by simpa using c9))
        (try (have c9b2 : ((t170.toList == t171.toList) == ((Go.bits .and .i64 a0 15) == (Go.bits .and .i64 a1 15))) = true := by simpa using c9))
        clear c9
        replace H := Option.bind_eq_some_iff.mp H
        obtain ⟨t174, A100, H⟩ := H
        replace H : (if t174 = (Go.bits .and .i64 a0 15) then (if t170.size + 1 ≤ 9223372036854775807 then ((addr_By.f (t170 ++ (⟨#[0]⟩ : ByteArray))).bind fun t175 => (some (t175 == (-1)))) else (none)) else (some false)) = some r := H
        have A10 := Aside0.mk A100
        clear A100
        by_cases c11 : t174 = (Go.bits .and .i64 a0 15)
        · rw [if_pos c11] at H
          have c11b0 : (t174 == (Go.bits .and .i64 a0 15)) = true := beq_iff_eq.mpr c11
          have c11b1 : (t174 != (Go.bits .and .i64 a0 15)) = false := bne_eq_false_iff_eq.mpr c11
          clear c11
          by_cases c12 : t170.size + 1 ≤ 9223372036854775807
          · rw [if_pos c12] at H
            have c12b0 := eq_true c12
            have c12b1 : decide (t170.size + 1 ≤ 9223372036854775807) = true := decide_eq_true c12
            try have c12b2 : (9223372036854775807 < t170.size + 1) = False := eq_false (Nat.not_lt.2 c12)
            replace H := Option.bind_eq_some_iff.mp H
            obtain ⟨t175, A130, H⟩ := H
            replace H : (some (t175 == (-1))) = some r := H
            have A13 := Aside0.mk A130
            clear A130
            obtain rfl := Option.some.inj H
            go_enter Tryd.func6, Tryd.ntmps6
            go_wp2_with (first | ((with_reducible refine gate_callee (f := 15) rfl ?_); refine goesL_ (some 9) rfl rfl Tryd.func15 (by kernel_rfl) rfl #[.int .i64 (Go.bits .and .i64 a0 15)] rfl (by (try simp only [List.map_toArray, List.map_cons, List.map_nil]); first | done | rfl | (simp only [List.length_drop, List.length_take]; rfl)) ?_; (with_reducible refine (addr_Port.calls (Go.bits .and .i64 a0 15) t170 _ A3.out).mono ?_); rintro e w14 ⟨rfl, hb⟩; refine ⟨_, rfl, ?_⟩; have n0_ := Aside0.mk (below_step (by repeat (first | (with_reducible first | exact HB.out | apply below_alloc | apply pw_below_drewN | apply below_drew1) | exact HB.out)) hb); clear HB; have HB := n0_; clear n0_; (try clear hb); (try clear hb2); (try clear hk); (try clear hi)) | ((with_reducible refine gate_callee (f := 15) rfl ?_); refine goesL_ (some 12) rfl rfl Tryd.func15 (by kernel_rfl) rfl #[.int .i64 (Go.bits .and .i64 a1 15)] rfl (by (try simp only [List.map_toArray, List.map_cons, List.map_nil]); first | done | rfl | (simp only [List.length_drop, List.length_take]; rfl)) ?_; (with_reducible refine (addr_Port.calls (Go.bits .and .i64 a1 15) t171 _ A4.out).mono ?_); rintro e w15 ⟨rfl, hb⟩; refine ⟨_, rfl, ?_⟩; have n0_ := Aside0.mk (below_step (by repeat (first | (with_reducible first | exact HB.out | apply below_alloc | apply pw_below_drewN | apply below_drew1) | exact HB.out)) hb); clear HB; have HB := n0_; clear n0_; (try clear hb); (try clear hb2); (try clear hk); (try clear hi)) | ((with_reducible refine gate_callee (f := 12) rfl ?_); refine goesL_ (some 13) rfl rfl Tryd.func12 (by kernel_rfl) rfl #[] rfl (by (try simp only [List.map_toArray, List.map_cons, List.map_nil]); first | done | rfl | (simp only [List.length_drop, List.length_take]; rfl)) ?_; (with_reducible refine (aqueductlaw05_fixed.calls  true _ A5.out).mono ?_); rintro e w16 ⟨rfl, hb⟩; refine ⟨_, rfl, ?_⟩; have n0_ := Aside0.mk (below_step (by repeat (first | (with_reducible first | exact HB.out | apply below_alloc | apply pw_below_drewN | apply below_drew1) | exact HB.out)) hb); clear HB; have HB := n0_; clear n0_; (try clear hb); (try clear hb2); (try clear hk); (try clear hi)) | (go_at_call 13; (with_reducible refine (addr_Kind.calls t170 t173 _ A7.out).mono ?_); rintro e w' ⟨rfl, ⟨nd, rfl⟩⟩) | (go_at_call 17; (with_reducible refine (addr_By.calls t170 t174 _ A10.out).mono ?_); rintro e w' ⟨rfl, ⟨nd, rfl⟩⟩) | (go_at_call 17; (with_reducible refine (addr_By.calls (t170 ++ (⟨#[0]⟩ : ByteArray)) t175 _ A13.out).mono ?_); rintro e w' ⟨rfl, ⟨nd, rfl⟩⟩))
            go_ret
            exact ⟨by first | rfl | (simp [errW_none, errW_some] <;> rfl) | (simp [*, errW_none, errW_some] <;> rfl) | (exfalso; simp_all), by repeat (first | (with_reducible first | exact HB.out | apply below_alloc | apply pw_below_drewN | apply below_drew1) | exact HB.out)⟩
          · rw [if_neg c12] at H
            exact absurd H (by simp)
        · rw [if_neg c11] at H
          have c11b0 : (t174 == (Go.bits .and .i64 a0 15)) = false := beq_eq_false_iff_ne.mpr c11
          have c11b1 : (t174 != (Go.bits .and .i64 a0 15)) = true := bne_iff_ne.mpr c11
          obtain rfl := Option.some.inj H
          exact absurd HR_.out (by decide)
      · rw [if_neg c9] at H
        have c9b0 : ((t170.toList == t171.toList) == ((Go.bits .and .i64 a0 15) == (Go.bits .and .i64 a1 15))) = false := by simpa using c9
        (try (have c9b1 : decide ((t170.toList == t171.toList) = ((Go.bits .and .i64 a0 15) == (Go.bits .and .i64 a1 15))) = false := by simpa using c9))
        (try (have c9b2 : ((t170.toList == t171.toList) == ((Go.bits .and .i64 a0 15) == (Go.bits .and .i64 a1 15))) = false := by simpa using c9))
        (try (have c9b3 : ¬ ((t170.toList == t171.toList) = ((Go.bits .and .i64 a0 15) == (Go.bits .and .i64 a1 15))) := by simpa using c9))
        clear c9
        obtain rfl := Option.some.inj H
        exact absurd HR_.out (by decide)
    · rw [if_neg c8] at H
      have c8b0 : (t173 == 1) = false := beq_eq_false_iff_ne.mpr c8
      have c8b1 : (t173 != 1) = true := bne_iff_ne.mpr c8
      obtain rfl := Option.some.inj H
      exact absurd HR_.out (by decide)
  · replace c6 := Bool.eq_false_iff.mpr c6
    subst c6
    have H1 : (some false) = some r := by rw [if_neg (show ¬ (false = true) by decide)] at H; exact H
    clear H
    have H := H1
    clear H1
    obtain rfl := Option.some.inj H
    exact absurd HR_.out (by decide)

/-- THE ONE PURE STATEMENT of aqueductlaw05_AddrPorts: yours. -/
def aqueductlaw05_AddrPorts.Pure : Prop := ∀ (a0 : Int) (a1 : Int), (Lit.int .i64 a0).wf = true → (Lit.int .i64 a1).wf = true → aqueductlaw05_AddrPorts.f a0 a1 = some true
theorem aqueductlaw05_AddrPorts.walk (P : aqueductlaw05_AddrPorts.Pure) (a0 : Int) (a1 : Int) (w : World) (w0 : (Lit.int .i64 a0).wf = true) (w1 : (Lit.int .i64 a1).wf = true) :
    Calls Tryd.prog 6 #[.int .i64 a0, .int .i64 a1] w fun e w' => e = .returned (.bool true) ∧ Below w.heap.size w w' := by
  have h := P a0 a1 w0 w1
  refine (aqueductlaw05_AddrPorts.calls a0 a1 true w h rfl).mono ?_
  rintro e w' ⟨rfl, hd⟩
  exact ⟨rfl, hd⟩

/-! ### aqueductlaw05_AddrBits: function 7 -/
def aqueductlaw05_AddrBits.f (a0 : ByteArray) : Option (Bool) := (addr_Kind.f a0).bind fun t176 => ((addr_Print.f a0).bind fun bt177 => (if (a0.size : Int) = 6 then (if bt177.2 = 0 then (if (bt177.1.size : Int) = 17 then (if 0 < (a0.size : Int) then (if ((t176 == 1) == ((Int.tmod (bt a0 0) 2) == 0)) = true then (if ((t176 == 3) == (bt177.1.toList == ([102, 102, 58, 102, 102, 58, 102, 102, 58, 102, 102, 58, 102, 102, 58, 102, 102] : List UInt8))) = true then ((aqueductlaw05_fixed.f).bind fun t179 => (some t179)) else (some false)) else (some false)) else (none)) else (some false)) else (some false)) else (if t176 = 0 then (if bt177.2 = 1 then ((aqueductlaw05_fixed.f).bind fun t180 => (some t180)) else (some false)) else (some false))))
set_option maxHeartbeats 8000000 in
set_option maxRecDepth 100000 in
theorem aqueductlaw05_AddrBits.calls (a0 : ByteArray) (r : Bool) (w : World) (h : aqueductlaw05_AddrBits.f a0 = some r) (hr_ : r = true) :
    Calls Tryd.prog 7 #[.string a0] w fun e w' => e = .returned (.bool r) ∧ Below w.heap.size w w' := by
  have HB := Aside0.mk (Below.refl w.heap.size w)
  have H : ((addr_Kind.f a0).bind fun t176 => ((addr_Print.f a0).bind fun bt177 => (if (a0.size : Int) = 6 then (if bt177.2 = 0 then (if (bt177.1.size : Int) = 17 then (if 0 < (a0.size : Int) then (if ((t176 == 1) == ((Int.tmod (bt a0 0) 2) == 0)) = true then (if ((t176 == 3) == (bt177.1.toList == ([102, 102, 58, 102, 102, 58, 102, 102, 58, 102, 102, 58, 102, 102, 58, 102, 102] : List UInt8))) = true then ((aqueductlaw05_fixed.f).bind fun t179 => (some t179)) else (some false)) else (some false)) else (none)) else (some false)) else (some false)) else (if t176 = 0 then (if bt177.2 = 1 then ((aqueductlaw05_fixed.f).bind fun t180 => (some t180)) else (some false)) else (some false))))) = some r := h
  clear h
  have HR_ := Aside0.mk hr_
  clear hr_
  replace H := Option.bind_eq_some_iff.mp H
  obtain ⟨t176, A20, H⟩ := H
  replace H : ((addr_Print.f a0).bind fun bt177 => (if (a0.size : Int) = 6 then (if bt177.2 = 0 then (if (bt177.1.size : Int) = 17 then (if 0 < (a0.size : Int) then (if ((t176 == 1) == ((Int.tmod (bt a0 0) 2) == 0)) = true then (if ((t176 == 3) == (bt177.1.toList == ([102, 102, 58, 102, 102, 58, 102, 102, 58, 102, 102, 58, 102, 102, 58, 102, 102] : List UInt8))) = true then ((aqueductlaw05_fixed.f).bind fun t179 => (some t179)) else (some false)) else (some false)) else (none)) else (some false)) else (some false)) else (if t176 = 0 then (if bt177.2 = 1 then ((aqueductlaw05_fixed.f).bind fun t180 => (some t180)) else (some false)) else (some false)))) = some r := H
  have A2 := Aside0.mk A20
  clear A20
  replace H := Option.bind_eq_some_iff.mp H
  obtain ⟨⟨t177, t178⟩, A30, H⟩ := H
  replace H : (if (a0.size : Int) = 6 then (if t178 = 0 then (if (t177.size : Int) = 17 then (if 0 < (a0.size : Int) then (if ((t176 == 1) == ((Int.tmod (bt a0 0) 2) == 0)) = true then (if ((t176 == 3) == (t177.toList == ([102, 102, 58, 102, 102, 58, 102, 102, 58, 102, 102, 58, 102, 102, 58, 102, 102] : List UInt8))) = true then ((aqueductlaw05_fixed.f).bind fun t179 => (some t179)) else (some false)) else (some false)) else (none)) else (some false)) else (some false)) else (if t176 = 0 then (if t178 = 1 then ((aqueductlaw05_fixed.f).bind fun t180 => (some t180)) else (some false)) else (some false))) = some r := H
  have A3 := Aside0.mk A30
  clear A30
  by_cases c4 : (a0.size : Int) = 6
  · rw [if_pos c4] at H
    have c4b0 : ((a0.size : Int) == 6) = true := beq_iff_eq.mpr c4
    have c4b1 : ((a0.size : Int) != 6) = false := bne_eq_false_iff_eq.mpr c4
    clear c4
    by_cases c5 : t178 = 0
    · rw [if_pos c5] at H
      have c5b0 : (t178 == 0) = true := beq_iff_eq.mpr c5
      have c5b1 : (t178 != 0) = false := bne_eq_false_iff_eq.mpr c5
      clear c5
      by_cases c6 : (t177.size : Int) = 17
      · rw [if_pos c6] at H
        have c6b0 : ((t177.size : Int) == 17) = true := beq_iff_eq.mpr c6
        have c6b1 : ((t177.size : Int) != 17) = false := bne_eq_false_iff_eq.mpr c6
        clear c6
        by_cases c7 : 0 < (a0.size : Int)
        · rw [if_pos c7] at H
          have c7b0 : decide (0 < (a0.size : Int)) = true := decide_eq_true c7
          have c7b1 : decide (0 < a0.size) = true := decide_eq_true (by omega)
          clear c7
          by_cases c9 : ((t176 == 1) == ((Int.tmod (bt a0 0) 2) == 0)) = true
          · rw [if_pos c9] at H
            have c9b0 : ((t176 == 1) == ((Int.tmod (bt a0 0) 2) == 0)) = true := c9
            (try (have c9b1 : decide ((t176 == 1) = ((Int.tmod (bt a0 0) 2) == 0)) = true := by simpa using c9))
            (try (have c9b2 : ((t176 == 1) == ((Int.tmod (bt a0 0) 2) == 0)) = true := by simpa using c9))
            clear c9
            by_cases c10 : ((t176 == 3) == (t177.toList == ([102, 102, 58, 102, 102, 58, 102, 102, 58, 102, 102, 58, 102, 102, 58, 102, 102] : List UInt8))) = true
            · rw [if_pos c10] at H
              have c10b0 : ((t176 == 3) == (t177.toList == ([102, 102, 58, 102, 102, 58, 102, 102, 58, 102, 102, 58, 102, 102, 58, 102, 102] : List UInt8))) = true := c10
              (try (have c10b1 : decide ((t176 == 3) = (t177.toList == ([102, 102, 58, 102, 102, 58, 102, 102, 58, 102, 102, 58, 102, 102, 58, 102, 102] : List UInt8))) = true := by simpa using c10))
              (try (have c10b2 : ((t176 == 3) == (t177.toList == ([102, 102, 58, 102, 102, 58, 102, 102, 58, 102, 102, 58, 102, 102, 58, 102, 102] : List UInt8))) = true := by simpa using c10))
              clear c10
              replace H := Option.bind_eq_some_iff.mp H
              obtain ⟨t179, A110, H⟩ := H
              replace H : (some t179) = some r := H
              have A11 := Aside0.mk A110
              clear A110
              obtain rfl := Option.some.inj H
              go_enter Tryd.func7, Tryd.ntmps7
              go_wp2_with (first | ((with_reducible refine gate_callee (f := 13) rfl ?_); refine goesL_ (some 7) rfl rfl Tryd.func13 (by kernel_rfl) rfl #[.string a0] rfl (by (try simp only [List.map_toArray, List.map_cons, List.map_nil]); first | done | rfl | (simp only [List.length_drop, List.length_take]; rfl)) ?_; (with_reducible refine (addr_Kind.calls a0 t176 _ A2.out).mono ?_); rintro e w' ⟨rfl, ⟨nd, rfl⟩⟩; refine ⟨_, rfl, ?_⟩) | ((with_reducible refine gate_callee (f := 8) rfl ?_); refine goesL_ (some 10) rfl rfl Tryd.func8 (by kernel_rfl) rfl #[.string a0] rfl (by (try simp only [List.map_toArray, List.map_cons, List.map_nil]); first | done | rfl | (simp only [List.length_drop, List.length_take]; rfl)) ?_; (with_reducible refine (addr_Print.calls a0 t177 t178 _ A3.out).mono ?_); rintro e w12 ⟨rfl, hb⟩; refine ⟨_, rfl, ?_⟩; have n0_ := Aside0.mk (below_step (by repeat (first | (with_reducible first | exact HB.out | apply below_alloc | apply pw_below_drewN | apply below_drew1) | exact HB.out)) hb); clear HB; have HB := n0_; clear n0_; (try clear hb); (try clear hb2); (try clear hk); (try clear hi); have p8 : 0 ≤ (0 : Int) := (by omega); have q8 : 0 < a0.size := (by have : (0 : Int) < (a0.size : Int) := of_decide_eq_true (by first | (with_reducible assumption) | assumption); omega); have hx8 : ∀ h : 0 < a0.size, ((a0[0]'h).toNat : Int) = bt a0 0 := bt_at a0 0; clear p8; have qi8 : (0 < (a0.size : Int)) = True := eq_true (of_decide_eq_true (by first | (with_reducible assumption) | assumption)); replace q8 := eq_true q8) | (go_at_call 12; (with_reducible refine (aqueductlaw05_fixed.calls  t179 _ A11.out).mono ?_); rintro e w13 ⟨rfl, hb⟩; have n0_ := Aside0.mk (below_step (by repeat (first | (with_reducible first | exact HB.out | apply below_alloc | apply pw_below_drewN | apply below_drew1) | exact HB.out)) hb); clear HB; have HB := n0_; clear n0_; (try clear hb); (try clear hb2); (try clear hk); (try clear hi)))
              go_ret
              exact ⟨by first | rfl | (simp [errW_none, errW_some] <;> rfl) | (simp [*, errW_none, errW_some] <;> rfl) | (exfalso; simp_all), by repeat (first | (with_reducible first | exact HB.out | apply below_alloc | apply pw_below_drewN | apply below_drew1) | exact HB.out)⟩
            · rw [if_neg c10] at H
              have c10b0 : ((t176 == 3) == (t177.toList == ([102, 102, 58, 102, 102, 58, 102, 102, 58, 102, 102, 58, 102, 102, 58, 102, 102] : List UInt8))) = false := by simpa using c10
              (try (have c10b1 : decide ((t176 == 3) = (t177.toList == ([102, 102, 58, 102, 102, 58, 102, 102, 58, 102, 102, 58, 102, 102, 58, 102, 102] : List UInt8))) = false := by simpa using c10))
              (try (have c10b2 : ((t176 == 3) == (t177.toList == ([102, 102, 58, 102, 102, 58, 102, 102, 58, 102, 102, 58, 102, 102, 58, 102, 102] : List UInt8))) = false := by simpa using c10))
              (try (have c10b3 : ¬ ((t176 == 3) = (t177.toList == ([102, 102, 58, 102, 102, 58, 102, 102, 58, 102, 102, 58, 102, 102, 58, 102, 102] : List UInt8))) := by simpa using c10))
              clear c10
              obtain rfl := Option.some.inj H
              exact absurd HR_.out (by decide)
          · rw [if_neg c9] at H
            have c9b0 : ((t176 == 1) == ((Int.tmod (bt a0 0) 2) == 0)) = false := by simpa using c9
            (try (have c9b1 : decide ((t176 == 1) = ((Int.tmod (bt a0 0) 2) == 0)) = false := by simpa using c9))
            (try (have c9b2 : ((t176 == 1) == ((Int.tmod (bt a0 0) 2) == 0)) = false := by simpa using c9))
            (try (have c9b3 : ¬ ((t176 == 1) = ((Int.tmod (bt a0 0) 2) == 0)) := by simpa using c9))
            clear c9
            obtain rfl := Option.some.inj H
            exact absurd HR_.out (by decide)
        · rw [if_neg c7] at H
          exact absurd H (by simp)
      · rw [if_neg c6] at H
        have c6b0 : ((t177.size : Int) == 17) = false := beq_eq_false_iff_ne.mpr c6
        have c6b1 : ((t177.size : Int) != 17) = true := bne_iff_ne.mpr c6
        obtain rfl := Option.some.inj H
        exact absurd HR_.out (by decide)
    · rw [if_neg c5] at H
      have c5b0 : (t178 == 0) = false := beq_eq_false_iff_ne.mpr c5
      have c5b1 : (t178 != 0) = true := bne_iff_ne.mpr c5
      obtain rfl := Option.some.inj H
      exact absurd HR_.out (by decide)
  · rw [if_neg c4] at H
    have c4b0 : ((a0.size : Int) == 6) = false := beq_eq_false_iff_ne.mpr c4
    have c4b1 : ((a0.size : Int) != 6) = true := bne_iff_ne.mpr c4
    by_cases c14 : t176 = 0
    · rw [if_pos c14] at H
      have c14b0 : (t176 == 0) = true := beq_iff_eq.mpr c14
      have c14b1 : (t176 != 0) = false := bne_eq_false_iff_eq.mpr c14
      clear c14
      by_cases c15 : t178 = 1
      · rw [if_pos c15] at H
        have c15b0 : (t178 == 1) = true := beq_iff_eq.mpr c15
        have c15b1 : (t178 != 1) = false := bne_eq_false_iff_eq.mpr c15
        clear c15
        replace H := Option.bind_eq_some_iff.mp H
        obtain ⟨t180, A160, H⟩ := H
        replace H : (some t180) = some r := H
        have A16 := Aside0.mk A160
        clear A160
        obtain rfl := Option.some.inj H
        go_enter Tryd.func7, Tryd.ntmps7
        go_wp2_with (first | ((with_reducible refine gate_callee (f := 13) rfl ?_); refine goesL_ (some 7) rfl rfl Tryd.func13 (by kernel_rfl) rfl #[.string a0] rfl (by (try simp only [List.map_toArray, List.map_cons, List.map_nil]); first | done | rfl | (simp only [List.length_drop, List.length_take]; rfl)) ?_; (with_reducible refine (addr_Kind.calls a0 t176 _ A2.out).mono ?_); rintro e w' ⟨rfl, ⟨nd, rfl⟩⟩; refine ⟨_, rfl, ?_⟩) | ((with_reducible refine gate_callee (f := 8) rfl ?_); refine goesL_ (some 10) rfl rfl Tryd.func8 (by kernel_rfl) rfl #[.string a0] rfl (by (try simp only [List.map_toArray, List.map_cons, List.map_nil]); first | done | rfl | (simp only [List.length_drop, List.length_take]; rfl)) ?_; (with_reducible refine (addr_Print.calls a0 t177 t178 _ A3.out).mono ?_); rintro e w17 ⟨rfl, hb⟩; refine ⟨_, rfl, ?_⟩; have n0_ := Aside0.mk (below_step (by repeat (first | (with_reducible first | exact HB.out | apply below_alloc | apply pw_below_drewN | apply below_drew1) | exact HB.out)) hb); clear HB; have HB := n0_; clear n0_; (try clear hb); (try clear hb2); (try clear hk); (try clear hi)) | (go_at_call 12; (with_reducible refine (aqueductlaw05_fixed.calls  t180 _ A16.out).mono ?_); rintro e w18 ⟨rfl, hb⟩; have n0_ := Aside0.mk (below_step (by repeat (first | (with_reducible first | exact HB.out | apply below_alloc | apply pw_below_drewN | apply below_drew1) | exact HB.out)) hb); clear HB; have HB := n0_; clear n0_; (try clear hb); (try clear hb2); (try clear hk); (try clear hi)))
        go_ret
        exact ⟨by first | rfl | (simp [errW_none, errW_some] <;> rfl) | (simp [*, errW_none, errW_some] <;> rfl) | (exfalso; simp_all), by repeat (first | (with_reducible first | exact HB.out | apply below_alloc | apply pw_below_drewN | apply below_drew1) | exact HB.out)⟩
      · rw [if_neg c15] at H
        have c15b0 : (t178 == 1) = false := beq_eq_false_iff_ne.mpr c15
        have c15b1 : (t178 != 1) = true := bne_iff_ne.mpr c15
        obtain rfl := Option.some.inj H
        exact absurd HR_.out (by decide)
    · rw [if_neg c14] at H
      have c14b0 : (t176 == 0) = false := beq_eq_false_iff_ne.mpr c14
      have c14b1 : (t176 != 0) = true := bne_iff_ne.mpr c14
      obtain rfl := Option.some.inj H
      exact absurd HR_.out (by decide)

/-- THE ONE PURE STATEMENT of aqueductlaw05_AddrBits: yours. -/
def aqueductlaw05_AddrBits.Pure : Prop := ∀ (a0 : ByteArray), a0.size ≤ 140737488351232 → aqueductlaw05_AddrBits.f a0 = some true
theorem aqueductlaw05_AddrBits.walk (P : aqueductlaw05_AddrBits.Pure) (a0 : ByteArray) (w : World) (w0 : a0.size ≤ 140737488351232) :
    Calls Tryd.prog 7 #[.string a0] w fun e w' => e = .returned (.bool true) ∧ Below w.heap.size w w' := by
  have h := P a0 w0
  refine (aqueductlaw05_AddrBits.calls a0 true w h rfl).mono ?_
  rintro e w' ⟨rfl, hd⟩
  exact ⟨rfl, hd⟩

end Go.Proofs.YtiffbjpmmbfkjaaDoor.P
