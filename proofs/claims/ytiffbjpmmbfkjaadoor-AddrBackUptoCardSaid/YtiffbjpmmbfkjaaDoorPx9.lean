/- What functions of the program compute, each with the walk that shows it: by a program (a turned copy of the kit's print; wip/myprint.py). -/
import Derived.Test.YtiffbjpmmbfkjaaDoorPx0
import Derived.Test.YtiffbjpmmbfkjaaDoorPx6
import Derived.Test.YtiffbjpmmbfkjaaDoorPx7
import Derived.Test.YtiffbjpmmbfkjaaDoorPx8
namespace Go.Proofs.YtiffbjpmmbfkjaaDoor.P
open Go.RowKit Go.Proofs.YtiffbjpmmbfkjaaDoorW.PrintWords Go.Proofs.YtiffbjpmmbfkjaaDoorW.PrintLast Go.Proofs.YtiffbjpmmbfkjaaDoorW.PrintMore
attribute [local go_sem] max2_int min2_int max_two min_two max_three min_three max_four min_four   -- for this text's walks alone
set_option linter.unusedVariables false
set_option linter.unusedSimpArgs false

/-! ### aqueductref05_By: function 18 -/
def aqueductref05_By.l0 : Nat → ByteArray → Int → Option (Int)
  | 0, _, _ => none
  | k + 1, x0, x3 => if x3 < 16 then ((aqueductref05_Port.f x3).bind fun t150 => (if t150.toList = x0.toList then (some x3) else (aqueductref05_By.l0 k x0 (wrap64 (x3 + 1))))) else (some (-1))
def aqueductref05_By.f (k : Nat) (a0 : ByteArray) : Option (Int) := aqueductref05_By.l0 k a0 0
theorem aqueductref05_By.mono_l : ∀ k, (∀ y0 y1, LeO (aqueductref05_By.l0 k y0 y1) (aqueductref05_By.l0 (k + 1) y0 y1))
  | 0 => fun _ _ r h => by simp [aqueductref05_By.l0] at h
  | k + 1 => by
    have ih0 := aqueductref05_By.mono_l k
    · intro y0 y1
      unfold aqueductref05_By.l0
      repeat' first
      | (with_reducible exact ih0 _ _)
      | (with_reducible exact LeO.refl _)
      | (with_reducible exact LeO.none _)
      | (with_reducible refine LeO.ite ?_ ?_)
      | (with_reducible refine LeO.bind ?_ (fun _ => ?_))
      | exact ih0 _ _
      | exact LeO.none _
      | refine LeO.ite ?_ ?_
      | refine LeO.bind ?_ (fun _ => ?_)
theorem aqueductref05_By.mono : ∀ a0 k, LeO (aqueductref05_By.f k a0) (aqueductref05_By.f (k + 1) a0) := by
  intro a0 k
  have ih0 := aqueductref05_By.mono_l k
  unfold aqueductref05_By.f
  repeat' first
      | (with_reducible exact ih0 _ _)
      | (with_reducible exact LeO.refl _)
      | (with_reducible exact LeO.none _)
      | (with_reducible refine LeO.ite ?_ ?_)
      | (with_reducible refine LeO.bind ?_ (fun _ => ?_))
      | exact ih0 _ _
      | exact LeO.none _
      | refine LeO.ite ?_ ?_
      | refine LeO.bind ?_ (fun _ => ?_)
set_option maxHeartbeats 8000000 in
set_option maxRecDepth 100000 in
theorem aqueductref05_By.calls (k : Nat) (a0 : ByteArray) (r : Int) (w : World) (h : aqueductref05_By.f k a0 = some r) :
    Calls Tryd.prog 18 #[.string a0] w fun e w' => e = .returned (.int .i64 r) ∧ Below w.heap.size w w' := by
  have HB := Aside0.mk (Below.refl w.heap.size w)
  have H : (aqueductref05_By.l0 k a0 0) = some r := h
  clear h
  have H' := Aside0.mk H
  clear H
  go_enter Tryd.func18, Tryd.ntmps18
  go_wp2
  go_loopg [3] k (fun kq v3 w' => ∃ (x3_1 : Int), v3 = .int .i64 x3_1 ∧ Aside0 (aqueductref05_By.l0 kq a0 x3_1 = some r) ∧ Aside0 (kq ≤ k) ∧ Aside0 (Below w.heap.size w w'))
  case atStart => exact ⟨(0), (by first | rfl | (simp; done) | (simp [*]; done)), H', ⟨Nat.le_refl _⟩, ⟨by repeat (first | (with_reducible first | exact HB.out | apply below_alloc | apply pw_below_drewN | apply below_drew1) | exact HB.out)⟩⟩
  case round =>
    clear H'
    try clear c1
    obtain ⟨x3_1, rfl, HA, HK1, HB⟩ := hrel
    cases gk with
    | zero => exact absurd HA.out (by simp [aqueductref05_By.l0])
    | succ k1 =>
      have H := HA.out
      clear HA
      simp only [aqueductref05_By.l0] at H
      by_cases c2 : x3_1 < 16
      · rw [if_pos c2] at H
        have c2b0 : decide (x3_1 < 16) = true := decide_eq_true c2
        clear c2
        replace H := Option.bind_eq_some_iff.mp H
        obtain ⟨t150, A30, H⟩ := H
        replace H : (if t150.toList = a0.toList then (some x3_1) else (aqueductref05_By.l0 k1 a0 (wrap64 (x3_1 + 1)))) = some r := H
        have A3 := Aside0.mk A30
        clear A30
        by_cases c4 : t150.toList = a0.toList
        · rw [if_pos c4] at H
          have c4b0 : (t150.toList == a0.toList) = true := beq_iff_eq.mpr c4
          have c4b1 : (t150.toList != a0.toList) = false := bne_eq_false_iff_eq.mpr c4
          clear c4
          obtain rfl := Option.some.inj H
          go_wp2_with (first | ((with_reducible refine gate_callee (f := 16) rfl ?_); refine goesL_ (some 9) rfl rfl Tryd.func16 (by kernel_rfl) rfl #[.int .i64 x3_1] rfl (by (try simp only [List.map_toArray, List.map_cons, List.map_nil]); first | done | rfl | (simp only [List.length_drop, List.length_take]; rfl)) ?_; (with_reducible refine (aqueductref05_Port.calls x3_1 t150 _ A3.out).mono ?_); rintro e w5 ⟨rfl, hb⟩; refine ⟨_, rfl, ?_⟩; have n0_ := Aside0.mk (below_step (by repeat (first | (with_reducible first | exact HB.out | apply below_alloc | apply pw_below_drewN | apply below_drew1) | exact HB.out)) hb); clear HB; have HB := n0_; clear n0_; (try clear hb); (try clear hb2); (try clear hk); (try clear hi)))
          go_ret
          exact ⟨by first | rfl | (simp [errW_none, errW_some] <;> rfl) | (simp [*, errW_none, errW_some] <;> rfl), by repeat (first | (with_reducible first | exact HB.out | apply below_alloc | apply pw_below_drewN | apply below_drew1) | exact HB.out)⟩
        · rw [if_neg c4] at H
          have c4b0 : (t150.toList == a0.toList) = false := beq_eq_false_iff_ne.mpr c4
          have c4b1 : (t150.toList != a0.toList) = true := bne_iff_ne.mpr c4
          have H' := Aside0.mk H
          clear H
          go_wp2_with (first | ((with_reducible refine gate_callee (f := 16) rfl ?_); refine goesL_ (some 9) rfl rfl Tryd.func16 (by kernel_rfl) rfl #[.int .i64 x3_1] rfl (by (try simp only [List.map_toArray, List.map_cons, List.map_nil]); first | done | rfl | (simp only [List.length_drop, List.length_take]; rfl)) ?_; (with_reducible refine (aqueductref05_Port.calls x3_1 t150 _ A3.out).mono ?_); rintro e w6 ⟨rfl, hb⟩; refine ⟨_, rfl, ?_⟩; have n0_ := Aside0.mk (below_step (by repeat (first | (with_reducible first | exact HB.out | apply below_alloc | apply pw_below_drewN | apply below_drew1) | exact HB.out)) hb); clear HB; have HB := n0_; clear n0_; (try clear hb); (try clear hb2); (try clear hk); (try clear hi)))
          go_roundg k1
          case measure => have := HK1.out; omega
          case rel => exact ⟨(wrap64 (x3_1 + 1)), (by first | rfl | (simp; done) | (simp [*]; done)), H', ⟨by have := HK1.out; omega⟩, ⟨by repeat (first | (with_reducible first | exact HB.out | apply below_alloc | apply pw_below_drewN | apply below_drew1) | exact HB.out)⟩⟩
      · rw [if_neg c2] at H
        have c2b0 : decide (x3_1 < 16) = false := decide_eq_false c2
        clear c2
        obtain rfl := Option.some.inj H
        go_wp2
        go_ret
        exact ⟨by first | rfl | (simp [errW_none, errW_some] <;> rfl) | (simp [*, errW_none, errW_some] <;> rfl), by repeat (first | (with_reducible first | exact HB.out | apply below_alloc | apply pw_below_drewN | apply below_drew1) | exact HB.out)⟩

/-! ### aqueductlaw05_AddrKinds: function 4 -/
def aqueductlaw05_AddrKinds.f (k : Nat) (a0 : ByteArray) (a1 : Int) : Option (Bool) := (aqueductlaw05_fixed.f).bind fun t151 => (if t151 = true then ((addr_Kind.f a0).bind fun t152 => ((aqueductref05_Kind.f k a0).bind fun t153 => (if t152 = t153 then ((addr_Port.f a1).bind fun t154 => ((aqueductref05_Port.f a1).bind fun t155 => (if t154.toList = t155.toList then ((addr_By.f a0).bind fun t156 => ((aqueductref05_By.f k a0).bind fun t157 => (some (t156 == t157)))) else (some false)))) else (some false)))) else (some false))
theorem aqueductlaw05_AddrKinds.mono : ∀ a0 a1 k, LeO (aqueductlaw05_AddrKinds.f k a0 a1) (aqueductlaw05_AddrKinds.f (k + 1) a0 a1) := by
  intro a0 a1 k
  unfold aqueductlaw05_AddrKinds.f
  repeat' first
      | (with_reducible exact aqueductref05_By.mono _ _)
      | (with_reducible exact aqueductref05_Kind.mono _ _)
      | (with_reducible exact LeO.refl _)
      | (with_reducible exact LeO.none _)
      | (with_reducible refine LeO.ite ?_ ?_)
      | (with_reducible refine LeO.bind ?_ (fun _ => ?_))
      | exact aqueductref05_By.mono _ _
      | exact aqueductref05_Kind.mono _ _
      | exact LeO.none _
      | refine LeO.ite ?_ ?_
      | refine LeO.bind ?_ (fun _ => ?_)
set_option maxHeartbeats 8000000 in
set_option maxRecDepth 100000 in
theorem aqueductlaw05_AddrKinds.calls (k : Nat) (a0 : ByteArray) (a1 : Int) (r : Bool) (w : World) (h : aqueductlaw05_AddrKinds.f k a0 a1 = some r) (hr_ : r = true) :
    Calls Tryd.prog 4 #[.string a0, .int .i64 a1] w fun e w' => e = .returned (.bool r) ∧ Below w.heap.size w w' := by
  have HB := Aside0.mk (Below.refl w.heap.size w)
  have H : ((aqueductlaw05_fixed.f).bind fun t151 => (if t151 = true then ((addr_Kind.f a0).bind fun t152 => ((aqueductref05_Kind.f k a0).bind fun t153 => (if t152 = t153 then ((addr_Port.f a1).bind fun t154 => ((aqueductref05_Port.f a1).bind fun t155 => (if t154.toList = t155.toList then ((addr_By.f a0).bind fun t156 => ((aqueductref05_By.f k a0).bind fun t157 => (some (t156 == t157)))) else (some false)))) else (some false)))) else (some false))) = some r := h
  clear h
  have HR_ := Aside0.mk hr_
  clear hr_
  replace H := Option.bind_eq_some_iff.mp H
  obtain ⟨t151, A30, H⟩ := H
  replace H : (if t151 = true then ((addr_Kind.f a0).bind fun t152 => ((aqueductref05_Kind.f k a0).bind fun t153 => (if t152 = t153 then ((addr_Port.f a1).bind fun t154 => ((aqueductref05_Port.f a1).bind fun t155 => (if t154.toList = t155.toList then ((addr_By.f a0).bind fun t156 => ((aqueductref05_By.f k a0).bind fun t157 => (some (t156 == t157)))) else (some false)))) else (some false)))) else (some false)) = some r := H
  have A3 := Aside0.mk A30
  clear A30
  by_cases c4 : t151 = true
  · subst c4
    have H1 : ((addr_Kind.f a0).bind fun t152 => ((aqueductref05_Kind.f k a0).bind fun t153 => (if t152 = t153 then ((addr_Port.f a1).bind fun t154 => ((aqueductref05_Port.f a1).bind fun t155 => (if t154.toList = t155.toList then ((addr_By.f a0).bind fun t156 => ((aqueductref05_By.f k a0).bind fun t157 => (some (t156 == t157)))) else (some false)))) else (some false)))) = some r := by rw [if_pos rfl] at H; exact H
    clear H
    have H := H1
    clear H1
    replace H := Option.bind_eq_some_iff.mp H
    obtain ⟨t152, A50, H⟩ := H
    replace H : ((aqueductref05_Kind.f k a0).bind fun t153 => (if t152 = t153 then ((addr_Port.f a1).bind fun t154 => ((aqueductref05_Port.f a1).bind fun t155 => (if t154.toList = t155.toList then ((addr_By.f a0).bind fun t156 => ((aqueductref05_By.f k a0).bind fun t157 => (some (t156 == t157)))) else (some false)))) else (some false))) = some r := H
    have A5 := Aside0.mk A50
    clear A50
    replace H := Option.bind_eq_some_iff.mp H
    obtain ⟨t153, A60, H⟩ := H
    replace H : (if t152 = t153 then ((addr_Port.f a1).bind fun t154 => ((aqueductref05_Port.f a1).bind fun t155 => (if t154.toList = t155.toList then ((addr_By.f a0).bind fun t156 => ((aqueductref05_By.f k a0).bind fun t157 => (some (t156 == t157)))) else (some false)))) else (some false)) = some r := H
    have A6 := Aside0.mk A60
    clear A60
    by_cases c7 : t152 = t153
    · rw [if_pos c7] at H
      have c7b0 : (t152 == t153) = true := beq_iff_eq.mpr c7
      have c7b1 : (t152 != t153) = false := bne_eq_false_iff_eq.mpr c7
      clear c7
      replace H := Option.bind_eq_some_iff.mp H
      obtain ⟨t154, A80, H⟩ := H
      replace H : ((aqueductref05_Port.f a1).bind fun t155 => (if t154.toList = t155.toList then ((addr_By.f a0).bind fun t156 => ((aqueductref05_By.f k a0).bind fun t157 => (some (t156 == t157)))) else (some false))) = some r := H
      have A8 := Aside0.mk A80
      clear A80
      replace H := Option.bind_eq_some_iff.mp H
      obtain ⟨t155, A90, H⟩ := H
      replace H : (if t154.toList = t155.toList then ((addr_By.f a0).bind fun t156 => ((aqueductref05_By.f k a0).bind fun t157 => (some (t156 == t157)))) else (some false)) = some r := H
      have A9 := Aside0.mk A90
      clear A90
      by_cases c10 : t154.toList = t155.toList
      · rw [if_pos c10] at H
        have c10b0 : (t154.toList == t155.toList) = true := beq_iff_eq.mpr c10
        have c10b1 : (t154.toList != t155.toList) = false := bne_eq_false_iff_eq.mpr c10
        clear c10
        replace H := Option.bind_eq_some_iff.mp H
        obtain ⟨t156, A110, H⟩ := H
        replace H : ((aqueductref05_By.f k a0).bind fun t157 => (some (t156 == t157))) = some r := H
        have A11 := Aside0.mk A110
        clear A110
        replace H := Option.bind_eq_some_iff.mp H
        obtain ⟨t157, A120, H⟩ := H
        replace H : (some (t156 == t157)) = some r := H
        have A12 := Aside0.mk A120
        clear A120
        obtain rfl := Option.some.inj H
        go_enter Tryd.func4, Tryd.ntmps4
        go_wp2_with (first | ((with_reducible refine gate_callee (f := 12) rfl ?_); refine goesL_ (some 5) rfl rfl Tryd.func12 (by kernel_rfl) rfl #[] rfl (by (try simp only [List.map_toArray, List.map_cons, List.map_nil]); first | done | rfl | (simp only [List.length_drop, List.length_take]; rfl)) ?_; (with_reducible refine (aqueductlaw05_fixed.calls  true _ A3.out).mono ?_); rintro e w13 ⟨rfl, hb⟩; refine ⟨_, rfl, ?_⟩; have n0_ := Aside0.mk (below_step (by repeat (first | (with_reducible first | exact HB.out | apply below_alloc | apply pw_below_drewN | apply below_drew1) | exact HB.out)) hb); clear HB; have HB := n0_; clear n0_; (try clear hb); (try clear hb2); (try clear hk); (try clear hi)) | (go_at_call 13; (with_reducible refine (addr_Kind.calls a0 t152 _ A5.out).mono ?_); rintro e w' ⟨rfl, ⟨nd, rfl⟩⟩) | (go_at_call 14; (with_reducible refine (aqueductref05_Kind.calls k a0 t153 _ A6.out).mono ?_); rintro e w' ⟨rfl, ⟨nd, rfl⟩⟩) | (go_at_call 15; (with_reducible refine (addr_Port.calls a1 t154 _ A8.out).mono ?_); rintro e w14 ⟨rfl, hb⟩; have n0_ := Aside0.mk (below_step (by repeat (first | (with_reducible first | exact HB.out | apply below_alloc | apply pw_below_drewN | apply below_drew1) | exact HB.out)) hb); clear HB; have HB := n0_; clear n0_; (try clear hb); (try clear hb2); (try clear hk); (try clear hi)) | (go_at_call 16; (with_reducible refine (aqueductref05_Port.calls a1 t155 _ A9.out).mono ?_); rintro e w15 ⟨rfl, hb⟩; have n0_ := Aside0.mk (below_step (by repeat (first | (with_reducible first | exact HB.out | apply below_alloc | apply pw_below_drewN | apply below_drew1) | exact HB.out)) hb); clear HB; have HB := n0_; clear n0_; (try clear hb); (try clear hb2); (try clear hk); (try clear hi)) | (go_at_call 17; (with_reducible refine (addr_By.calls a0 t156 _ A11.out).mono ?_); rintro e w' ⟨rfl, ⟨nd, rfl⟩⟩) | (go_at_call 18; (with_reducible refine (aqueductref05_By.calls k a0 t157 _ A12.out).mono ?_); rintro e w16 ⟨rfl, hb⟩; have n0_ := Aside0.mk (below_step (by repeat (first | (with_reducible first | exact HB.out | apply below_alloc | apply pw_below_drewN | apply below_drew1) | exact HB.out)) hb); clear HB; have HB := n0_; clear n0_; (try clear hb); (try clear hb2); (try clear hk); (try clear hi)))
        go_ret
        exact ⟨by first | rfl | (simp [errW_none, errW_some] <;> rfl) | (simp [*, errW_none, errW_some] <;> rfl) | (exfalso; simp_all), by repeat (first | (with_reducible first | exact HB.out | apply below_alloc | apply pw_below_drewN | apply below_drew1) | exact HB.out)⟩
      · rw [if_neg c10] at H
        have c10b0 : (t154.toList == t155.toList) = false := beq_eq_false_iff_ne.mpr c10
        have c10b1 : (t154.toList != t155.toList) = true := bne_iff_ne.mpr c10
        obtain rfl := Option.some.inj H
        exact absurd HR_.out (by decide)
    · rw [if_neg c7] at H
      have c7b0 : (t152 == t153) = false := beq_eq_false_iff_ne.mpr c7
      have c7b1 : (t152 != t153) = true := bne_iff_ne.mpr c7
      obtain rfl := Option.some.inj H
      exact absurd HR_.out (by decide)
  · replace c4 := Bool.eq_false_iff.mpr c4
    subst c4
    have H1 : (some false) = some r := by rw [if_neg (show ¬ (false = true) by decide)] at H; exact H
    clear H
    have H := H1
    clear H1
    obtain rfl := Option.some.inj H
    exact absurd HR_.out (by decide)

/-- THE ONE PURE STATEMENT of aqueductlaw05_AddrKinds: yours. -/
def aqueductlaw05_AddrKinds.Pure : Prop := ∀ (a0 : ByteArray) (a1 : Int), a0.size ≤ 140737488351232 → (Lit.int .i64 a1).wf = true → ∃ k, aqueductlaw05_AddrKinds.f k a0 a1 = some true
theorem aqueductlaw05_AddrKinds.walk (P : aqueductlaw05_AddrKinds.Pure) (a0 : ByteArray) (a1 : Int) (w : World) (w0 : a0.size ≤ 140737488351232) (w1 : (Lit.int .i64 a1).wf = true) :
    Calls Tryd.prog 4 #[.string a0, .int .i64 a1] w fun e w' => e = .returned (.bool true) ∧ Below w.heap.size w w' := by
  obtain ⟨k, h⟩ := P a0 a1 w0 w1
  refine (aqueductlaw05_AddrKinds.calls k a0 a1 true w h rfl).mono ?_
  rintro e w' ⟨rfl, hd⟩
  exact ⟨rfl, hd⟩

end Go.Proofs.YtiffbjpmmbfkjaaDoor.P
