/- What functions of the program compute, each with the walk that shows it: by a program (a turned copy of the kit's print; wip/myprint.py). -/
import Derived.Test.YtehaffldjnmblaaPx0
import Derived.Test.YtehaffldjnmblaaPx8
import Derived.Test.YtehaffldjnmblaaPx9
import Derived.Test.YtehaffldjnmblaaPx10
namespace Go.Proofs.Ytehaffldjnmblaa.P
open Go.RowKit Go.Proofs.YtehaffldjnmblaaW.PrintWords Go.Proofs.YtehaffldjnmblaaW.PrintLast Go.Proofs.YtehaffldjnmblaaW.PrintMore
attribute [local go_sem] max2_int min2_int max_two min_two max_three min_three max_four min_four   -- for this text's walks alone
set_option linter.unusedVariables false
set_option linter.unusedSimpArgs false

/-! ### aqueductlaw12_DescMarks: function 4 -/
def aqueductlaw12_DescMarks.f (k : Nat) (a0 : Int) (a1 : Bool) (a2 : Bool) : Option (Bool) := (aqueductlaw12_fixed.f k).bind fun t183 => (if t183 = true then ((desc_Avail.f k (Go.bits .and .i64 a0 65535) a1).bind fun t184 => ((aqueductref12_Avail.f (Go.bits .and .i64 a0 65535) a1).bind fun t185 => (if (t184 == t185) = true then ((desc_Used.f k (Go.bits .and .i64 a0 65535) a1).bind fun t186 => ((aqueductref12_Used.f (Go.bits .and .i64 a0 65535) a1).bind fun t187 => (if (t186 == t187) = true then ((desc_Mark.f (Go.bits .and .i64 a0 65535) a1 a2).bind fun t188 => ((aqueductref12_Mark.f (Go.bits .and .i64 a0 65535) a1 a2).bind fun t189 => (some (t188 == t189)))) else (some false)))) else (some false)))) else (some false))
theorem aqueductlaw12_DescMarks.mono : ∀ a0 a1 a2 k, LeO (aqueductlaw12_DescMarks.f k a0 a1 a2) (aqueductlaw12_DescMarks.f (k + 1) a0 a1 a2) := by
  intro a0 a1 a2 k
  unfold aqueductlaw12_DescMarks.f
  repeat' first
      | (with_reducible exact aqueductlaw12_fixed.mono _)
      | (with_reducible exact desc_Avail.mono _ _ _)
      | (with_reducible exact desc_Used.mono _ _ _)
      | (with_reducible exact LeO.refl _)
      | (with_reducible exact LeO.none _)
      | (with_reducible refine LeO.ite ?_ ?_)
      | (with_reducible refine LeO.bind ?_ (fun _ => ?_))
      | exact aqueductlaw12_fixed.mono _
      | exact desc_Avail.mono _ _ _
      | exact desc_Used.mono _ _ _
      | exact LeO.none _
      | refine LeO.ite ?_ ?_
      | refine LeO.bind ?_ (fun _ => ?_)
set_option maxHeartbeats 8000000 in
set_option maxRecDepth 100000 in
theorem aqueductlaw12_DescMarks.calls (k : Nat) (a0 : Int) (a1 : Bool) (a2 : Bool) (r : Bool) (w : World) (h : aqueductlaw12_DescMarks.f k a0 a1 a2 = some r) (hr_ : r = true) :
    Calls Try.prog 4 #[.int .i64 a0, .bool a1, .bool a2] w fun e w' => e = .returned (.bool r) ∧ Below w.heap.size w w' := by
  have HB := Aside0.mk (Below.refl w.heap.size w)
  have H : ((aqueductlaw12_fixed.f k).bind fun t183 => (if t183 = true then ((desc_Avail.f k (Go.bits .and .i64 a0 65535) a1).bind fun t184 => ((aqueductref12_Avail.f (Go.bits .and .i64 a0 65535) a1).bind fun t185 => (if (t184 == t185) = true then ((desc_Used.f k (Go.bits .and .i64 a0 65535) a1).bind fun t186 => ((aqueductref12_Used.f (Go.bits .and .i64 a0 65535) a1).bind fun t187 => (if (t186 == t187) = true then ((desc_Mark.f (Go.bits .and .i64 a0 65535) a1 a2).bind fun t188 => ((aqueductref12_Mark.f (Go.bits .and .i64 a0 65535) a1 a2).bind fun t189 => (some (t188 == t189)))) else (some false)))) else (some false)))) else (some false))) = some r := h
  clear h
  have HR_ := Aside0.mk hr_
  clear hr_
  replace H := Option.bind_eq_some_iff.mp H
  obtain ⟨t183, A40, H⟩ := H
  replace H : (if t183 = true then ((desc_Avail.f k (Go.bits .and .i64 a0 65535) a1).bind fun t184 => ((aqueductref12_Avail.f (Go.bits .and .i64 a0 65535) a1).bind fun t185 => (if (t184 == t185) = true then ((desc_Used.f k (Go.bits .and .i64 a0 65535) a1).bind fun t186 => ((aqueductref12_Used.f (Go.bits .and .i64 a0 65535) a1).bind fun t187 => (if (t186 == t187) = true then ((desc_Mark.f (Go.bits .and .i64 a0 65535) a1 a2).bind fun t188 => ((aqueductref12_Mark.f (Go.bits .and .i64 a0 65535) a1 a2).bind fun t189 => (some (t188 == t189)))) else (some false)))) else (some false)))) else (some false)) = some r := H
  have A4 := Aside0.mk A40
  clear A40
  by_cases c5 : t183 = true
  · subst c5
    have H1 : ((desc_Avail.f k (Go.bits .and .i64 a0 65535) a1).bind fun t184 => ((aqueductref12_Avail.f (Go.bits .and .i64 a0 65535) a1).bind fun t185 => (if (t184 == t185) = true then ((desc_Used.f k (Go.bits .and .i64 a0 65535) a1).bind fun t186 => ((aqueductref12_Used.f (Go.bits .and .i64 a0 65535) a1).bind fun t187 => (if (t186 == t187) = true then ((desc_Mark.f (Go.bits .and .i64 a0 65535) a1 a2).bind fun t188 => ((aqueductref12_Mark.f (Go.bits .and .i64 a0 65535) a1 a2).bind fun t189 => (some (t188 == t189)))) else (some false)))) else (some false)))) = some r := by rw [if_pos rfl] at H; exact H
    clear H
    have H := H1
    clear H1
    replace H := Option.bind_eq_some_iff.mp H
    obtain ⟨t184, A60, H⟩ := H
    replace H : ((aqueductref12_Avail.f (Go.bits .and .i64 a0 65535) a1).bind fun t185 => (if (t184 == t185) = true then ((desc_Used.f k (Go.bits .and .i64 a0 65535) a1).bind fun t186 => ((aqueductref12_Used.f (Go.bits .and .i64 a0 65535) a1).bind fun t187 => (if (t186 == t187) = true then ((desc_Mark.f (Go.bits .and .i64 a0 65535) a1 a2).bind fun t188 => ((aqueductref12_Mark.f (Go.bits .and .i64 a0 65535) a1 a2).bind fun t189 => (some (t188 == t189)))) else (some false)))) else (some false))) = some r := H
    have A6 := Aside0.mk A60
    clear A60
    replace H := Option.bind_eq_some_iff.mp H
    obtain ⟨t185, A70, H⟩ := H
    replace H : (if (t184 == t185) = true then ((desc_Used.f k (Go.bits .and .i64 a0 65535) a1).bind fun t186 => ((aqueductref12_Used.f (Go.bits .and .i64 a0 65535) a1).bind fun t187 => (if (t186 == t187) = true then ((desc_Mark.f (Go.bits .and .i64 a0 65535) a1 a2).bind fun t188 => ((aqueductref12_Mark.f (Go.bits .and .i64 a0 65535) a1 a2).bind fun t189 => (some (t188 == t189)))) else (some false)))) else (some false)) = some r := H
    have A7 := Aside0.mk A70
    clear A70
    by_cases c8 : (t184 == t185) = true
    · rw [if_pos c8] at H
      have c8b0 : (t184 == t185) = true := c8
      (try (have c8b1 : decide (t184 = t185) = true := by simpa using c8))
      (try (have c8b2 : (t184 == t185) = true := by simpa using c8))
      clear c8
      replace H := Option.bind_eq_some_iff.mp H
      obtain ⟨t186, A90, H⟩ := H
      replace H : ((aqueductref12_Used.f (Go.bits .and .i64 a0 65535) a1).bind fun t187 => (if (t186 == t187) = true then ((desc_Mark.f (Go.bits .and .i64 a0 65535) a1 a2).bind fun t188 => ((aqueductref12_Mark.f (Go.bits .and .i64 a0 65535) a1 a2).bind fun t189 => (some (t188 == t189)))) else (some false))) = some r := H
      have A9 := Aside0.mk A90
      clear A90
      replace H := Option.bind_eq_some_iff.mp H
      obtain ⟨t187, A100, H⟩ := H
      replace H : (if (t186 == t187) = true then ((desc_Mark.f (Go.bits .and .i64 a0 65535) a1 a2).bind fun t188 => ((aqueductref12_Mark.f (Go.bits .and .i64 a0 65535) a1 a2).bind fun t189 => (some (t188 == t189)))) else (some false)) = some r := H
      have A10 := Aside0.mk A100
      clear A100
      by_cases c11 : (t186 == t187) = true
      · rw [if_pos c11] at H
        have c11b0 : (t186 == t187) = true := c11
        (try (have c11b1 : decide (t186 = t187) = true := by simpa using c11))
        (try (have c11b2 : (t186 == t187) = true := by simpa using c11))
        clear c11
        replace H := Option.bind_eq_some_iff.mp H
        obtain ⟨t188, A120, H⟩ := H
        replace H : ((aqueductref12_Mark.f (Go.bits .and .i64 a0 65535) a1 a2).bind fun t189 => (some (t188 == t189))) = some r := H
        have A12 := Aside0.mk A120
        clear A120
        replace H := Option.bind_eq_some_iff.mp H
        obtain ⟨t189, A130, H⟩ := H
        replace H : (some (t188 == t189)) = some r := H
        have A13 := Aside0.mk A130
        clear A130
        obtain rfl := Option.some.inj H
        go_enter Try.func4, Try.ntmps4
        go_wp2_with (first | ((with_reducible refine gate_callee (f := 13) rfl ?_); refine goesL_ (some 10) rfl rfl Try.func13 (by kernel_rfl) rfl #[] rfl (by (try simp only [List.map_toArray, List.map_cons, List.map_nil]); first | done | rfl | (simp only [List.length_drop, List.length_take]; rfl)) ?_; (with_reducible refine (aqueductlaw12_fixed.calls k  true _ A4.out).mono ?_); rintro e w14 ⟨rfl, hb⟩; refine ⟨_, rfl, ?_⟩; have n0_ := Aside0.mk (below_step (by repeat (first | (with_reducible first | exact HB.out | apply below_alloc | apply pw_below_drewN | apply below_drew1) | exact HB.out)) hb); clear HB; have HB := n0_; clear n0_; (try clear hb); (try clear hb2); (try clear hk); (try clear hi)) | (go_at_call 14; (with_reducible refine (desc_Avail.calls k (Go.bits .and .i64 a0 65535) a1 t184 _ A6.out).mono ?_); rintro e w' ⟨rfl, ⟨nd, rfl⟩⟩) | (go_at_call 15; (with_reducible refine (aqueductref12_Avail.calls (Go.bits .and .i64 a0 65535) a1 t185 _ A7.out).mono ?_); rintro e w' ⟨rfl, ⟨nd, rfl⟩⟩) | (go_at_call 16; (with_reducible refine (desc_Used.calls k (Go.bits .and .i64 a0 65535) a1 t186 _ A9.out).mono ?_); rintro e w' ⟨rfl, ⟨nd, rfl⟩⟩) | (go_at_call 17; (with_reducible refine (aqueductref12_Used.calls (Go.bits .and .i64 a0 65535) a1 t187 _ A10.out).mono ?_); rintro e w' ⟨rfl, ⟨nd, rfl⟩⟩) | (go_at_call 18; (with_reducible refine (desc_Mark.calls (Go.bits .and .i64 a0 65535) a1 a2 t188 _ A12.out).mono ?_); rintro e w' ⟨rfl, ⟨nd, rfl⟩⟩) | (go_at_call 19; (with_reducible refine (aqueductref12_Mark.calls (Go.bits .and .i64 a0 65535) a1 a2 t189 _ A13.out).mono ?_); rintro e w' ⟨rfl, ⟨nd, rfl⟩⟩))
        go_ret
        exact ⟨by first | rfl | (simp [errW_none, errW_some] <;> rfl) | (simp [*, errW_none, errW_some] <;> rfl) | (exfalso; simp_all), by repeat (first | (with_reducible first | exact HB.out | apply below_alloc | apply pw_below_drewN | apply below_drew1) | exact HB.out)⟩
      · rw [if_neg c11] at H
        have c11b0 : (t186 == t187) = false := by simpa using c11
        (try (have c11b1 : decide (t186 = t187) = false := by simpa using c11))
        (try (have c11b2 : (t186 == t187) = false := by simpa using c11))
        (try (have c11b3 : ¬ (t186 = t187) := by simpa using c11))
        clear c11
        obtain rfl := Option.some.inj H
        exact absurd HR_.out (by decide)
    · rw [if_neg c8] at H
      have c8b0 : (t184 == t185) = false := by simpa using c8
      (try (have c8b1 : decide (t184 = t185) = false := by simpa using c8))
      (try (have c8b2 : (t184 == t185) = false := by simpa using c8))
      (try (have c8b3 : ¬ (t184 = t185) := by simpa using c8))
      clear c8
      obtain rfl := Option.some.inj H
      exact absurd HR_.out (by decide)
  · replace c5 := Bool.eq_false_iff.mpr c5
    subst c5
    have H1 : (some false) = some r := by rw [if_neg (show ¬ (false = true) by decide)] at H; exact H
    clear H
    have H := H1
    clear H1
    obtain rfl := Option.some.inj H
    exact absurd HR_.out (by decide)

/-- THE ONE PURE STATEMENT of aqueductlaw12_DescMarks: yours. -/
def aqueductlaw12_DescMarks.Pure : Prop := ∀ (a0 : Int) (a1 : Bool) (a2 : Bool), (Lit.int .i64 a0).wf = true → ∃ k, aqueductlaw12_DescMarks.f k a0 a1 a2 = some true
theorem aqueductlaw12_DescMarks.walk (P : aqueductlaw12_DescMarks.Pure) (a0 : Int) (a1 : Bool) (a2 : Bool) (w : World) (w0 : (Lit.int .i64 a0).wf = true) :
    Calls Try.prog 4 #[.int .i64 a0, .bool a1, .bool a2] w fun e w' => e = .returned (.bool true) ∧ Below w.heap.size w w' := by
  obtain ⟨k, h⟩ := P a0 a1 a2 w0
  refine (aqueductlaw12_DescMarks.calls k a0 a1 a2 true w h rfl).mono ?_
  rintro e w' ⟨rfl, hd⟩
  exact ⟨rfl, hd⟩

end Go.Proofs.Ytehaffldjnmblaa.P
