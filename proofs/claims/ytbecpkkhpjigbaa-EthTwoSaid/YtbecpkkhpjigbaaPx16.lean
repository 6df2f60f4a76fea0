/- What functions of the program compute, each with the walk that shows it: by a program (a turned copy of the kit's print; wip/myprint.py). -/
import Derived.Test.YtbecpkkhpjigbaaPx0
import Derived.Test.YtbecpkkhpjigbaaPx8
import Derived.Test.YtbecpkkhpjigbaaPx17
namespace Go.Proofs.Ytbecpkkhpjigbaa.P
open Go.RowKit Go.Proofs.YtbecpkkhpjigbaaW.PrintWords Go.Proofs.YtbecpkkhpjigbaaW.PrintLast Go.Proofs.YtbecpkkhpjigbaaW.PrintMore
attribute [local go_sem] max2_int min2_int max_two min_two max_three min_three max_four min_four   -- for this text's walks alone
set_option linter.unusedVariables false
set_option linter.unusedSimpArgs false

/-! ### aqueductlaw06_EthTwo: function 9 -/
def aqueductlaw06_EthTwo.j0 : Nat → Int → Int → ByteArray → Int → ByteArray → Int → Bool → Option (Bool)
  | 0, _, _, _, _, _, _, _ => none
  | k + 1, x7, x8, x9, x10, x11, x12, x40 => if x40 = true then (if x10 = x12 then ((aqueductlaw06_fixed.f k).bind fun t313 => (some t313)) else (some false)) else ((eth_Tag.f k x9 x8).bind fun bt314 => ((eth_Tag.f k x9 x7).bind fun bt316 => (if bt314.2 = 0 then (if bt316.2 = 0 then (if bt314.1.toList = x11.toList then (if bt316.1.toList = x9.toList then ((aqueductlaw06_fixed.f k).bind fun t318 => (some t318)) else (some false)) else (some false)) else (some false)) else (some false))))
def aqueductlaw06_EthTwo.f (k : Nat) (a0 : ByteArray) (a1 : Int) (a2 : Int) : Option (Bool) := (eth_Tag.f k a0 (Int.tmod (Go.bits .and .i64 a1 65535) 4095)).bind fun bt309 => ((eth_Tag.f k a0 (Int.tmod (Go.bits .and .i64 a2 65535) 4095)).bind fun bt311 => (if bt309.2 = 0 then (aqueductlaw06_EthTwo.j0 k (Int.tmod (Go.bits .and .i64 a1 65535) 4095) (Int.tmod (Go.bits .and .i64 a2 65535) 4095) bt309.1 bt309.2 bt311.1 bt311.2 (bt311.2 != 0)) else (aqueductlaw06_EthTwo.j0 k (Int.tmod (Go.bits .and .i64 a1 65535) 4095) (Int.tmod (Go.bits .and .i64 a2 65535) 4095) bt309.1 bt309.2 bt311.1 bt311.2 true)))
theorem aqueductlaw06_EthTwo.mono_l : ∀ k, (∀ y0 y1 y2 y3 y4 y5 y6, LeO (aqueductlaw06_EthTwo.j0 k y0 y1 y2 y3 y4 y5 y6) (aqueductlaw06_EthTwo.j0 (k + 1) y0 y1 y2 y3 y4 y5 y6))
  | 0 => fun _ _ _ _ _ _ _ r h => by simp [aqueductlaw06_EthTwo.j0] at h
  | k + 1 => by
    have ih0 := aqueductlaw06_EthTwo.mono_l k
    · intro y0 y1 y2 y3 y4 y5 y6
      unfold aqueductlaw06_EthTwo.j0
      repeat' first
      | (with_reducible exact ih0 _ _ _ _ _ _ _)
      | (with_reducible exact aqueductlaw06_fixed.mono _)
      | (with_reducible exact eth_Tag.mono _ _ _)
      | (with_reducible exact LeO.refl _)
      | (with_reducible exact LeO.none _)
      | (with_reducible refine LeO.ite ?_ ?_)
      | (with_reducible refine LeO.bind ?_ (fun _ => ?_))
      | exact ih0 _ _ _ _ _ _ _
      | exact aqueductlaw06_fixed.mono _
      | exact eth_Tag.mono _ _ _
      | exact LeO.none _
      | refine LeO.ite ?_ ?_
      | refine LeO.bind ?_ (fun _ => ?_)
theorem aqueductlaw06_EthTwo.mono : ∀ a0 a1 a2 k, LeO (aqueductlaw06_EthTwo.f k a0 a1 a2) (aqueductlaw06_EthTwo.f (k + 1) a0 a1 a2) := by
  intro a0 a1 a2 k
  have ih0 := aqueductlaw06_EthTwo.mono_l k
  unfold aqueductlaw06_EthTwo.f
  repeat' first
      | (with_reducible exact ih0 _ _ _ _ _ _ _)
      | (with_reducible exact aqueductlaw06_fixed.mono _)
      | (with_reducible exact eth_Tag.mono _ _ _)
      | (with_reducible exact LeO.refl _)
      | (with_reducible exact LeO.none _)
      | (with_reducible refine LeO.ite ?_ ?_)
      | (with_reducible refine LeO.bind ?_ (fun _ => ?_))
      | exact ih0 _ _ _ _ _ _ _
      | exact aqueductlaw06_fixed.mono _
      | exact eth_Tag.mono _ _ _
      | exact LeO.none _
      | refine LeO.ite ?_ ?_
      | refine LeO.bind ?_ (fun _ => ?_)
set_option maxHeartbeats 8000000 in
set_option maxRecDepth 100000 in
theorem aqueductlaw06_EthTwo.calls (k : Nat) (a0 : ByteArray) (a1 : Int) (a2 : Int) (r : Bool) (w : World) (h : aqueductlaw06_EthTwo.f k a0 a1 a2 = some r) (hr_ : r = true) :
    Calls Try.prog 9 #[.string a0, .int .i64 a1, .int .i64 a2] w fun e w' => e = .returned (.bool r) ∧ Below w.heap.size w w' := by
  have HB := Aside0.mk (Below.refl w.heap.size w)
  have H : ((eth_Tag.f k a0 (Int.tmod (Go.bits .and .i64 a1 65535) 4095)).bind fun bt309 => ((eth_Tag.f k a0 (Int.tmod (Go.bits .and .i64 a2 65535) 4095)).bind fun bt311 => (if bt309.2 = 0 then (aqueductlaw06_EthTwo.j0 k (Int.tmod (Go.bits .and .i64 a1 65535) 4095) (Int.tmod (Go.bits .and .i64 a2 65535) 4095) bt309.1 bt309.2 bt311.1 bt311.2 (bt311.2 != 0)) else (aqueductlaw06_EthTwo.j0 k (Int.tmod (Go.bits .and .i64 a1 65535) 4095) (Int.tmod (Go.bits .and .i64 a2 65535) 4095) bt309.1 bt309.2 bt311.1 bt311.2 true)))) = some r := h
  clear h
  have HR_ := Aside0.mk hr_
  clear hr_
  replace H := Option.bind_eq_some_iff.mp H
  obtain ⟨⟨t309, t310⟩, A40, H⟩ := H
  replace H : ((eth_Tag.f k a0 (Int.tmod (Go.bits .and .i64 a2 65535) 4095)).bind fun bt311 => (if t310 = 0 then (aqueductlaw06_EthTwo.j0 k (Int.tmod (Go.bits .and .i64 a1 65535) 4095) (Int.tmod (Go.bits .and .i64 a2 65535) 4095) t309 t310 bt311.1 bt311.2 (bt311.2 != 0)) else (aqueductlaw06_EthTwo.j0 k (Int.tmod (Go.bits .and .i64 a1 65535) 4095) (Int.tmod (Go.bits .and .i64 a2 65535) 4095) t309 t310 bt311.1 bt311.2 true))) = some r := H
  have A4 := Aside0.mk A40
  clear A40
  replace H := Option.bind_eq_some_iff.mp H
  obtain ⟨⟨t311, t312⟩, A50, H⟩ := H
  replace H : (if t310 = 0 then (aqueductlaw06_EthTwo.j0 k (Int.tmod (Go.bits .and .i64 a1 65535) 4095) (Int.tmod (Go.bits .and .i64 a2 65535) 4095) t309 t310 t311 t312 (t312 != 0)) else (aqueductlaw06_EthTwo.j0 k (Int.tmod (Go.bits .and .i64 a1 65535) 4095) (Int.tmod (Go.bits .and .i64 a2 65535) 4095) t309 t310 t311 t312 true)) = some r := H
  have A5 := Aside0.mk A50
  clear A50
  have HC6 := Aside0.mk H
  clear H
  go_enter Try.func9, Try.ntmps9
  go_upto_region 4 with (first | ((with_reducible refine gate_callee (f := 15) rfl ?_); refine goesL_ (some 26) rfl rfl Try.func15 (by kernel_rfl) rfl #[.string a0, .int .i64 (Int.tmod (Go.bits .and .i64 a1 65535) 4095)] rfl (by (try simp only [List.map_toArray, List.map_cons, List.map_nil]); first | done | rfl | (simp only [List.length_drop, List.length_take]; rfl)) ?_; (with_reducible refine (eth_Tag.calls k a0 (Int.tmod (Go.bits .and .i64 a1 65535) 4095) t309 t310 _ A4.out).mono ?_); rintro e w7 ⟨rfl, hb⟩; refine ⟨_, rfl, ?_⟩; have n0_ := Aside0.mk (below_step (by repeat (first | (with_reducible first | exact HB.out | apply below_alloc | apply pw_below_drewN | apply below_drew1) | exact HB.out)) hb); clear HB; have HB := n0_; clear n0_; (try clear hb); (try clear hb2); (try clear hk); (try clear hi)) | ((with_reducible refine gate_callee (f := 15) rfl ?_); refine goesL_ (some 32) rfl rfl Try.func15 (by kernel_rfl) rfl #[.string a0, .int .i64 (Int.tmod (Go.bits .and .i64 a2 65535) 4095)] rfl (by (try simp only [List.map_toArray, List.map_cons, List.map_nil]); first | done | rfl | (simp only [List.length_drop, List.length_take]; rfl)) ?_; (with_reducible refine (eth_Tag.calls k a0 (Int.tmod (Go.bits .and .i64 a2 65535) 4095) t311 t312 _ A5.out).mono ?_); rintro e w8 ⟨rfl, hb⟩; refine ⟨_, rfl, ?_⟩; have n0_ := Aside0.mk (below_step (by repeat (first | (with_reducible first | exact HB.out | apply below_alloc | apply pw_below_drewN | apply below_drew1) | exact HB.out)) hb); clear HB; have HB := n0_; clear n0_; (try clear hb); (try clear hb2); (try clear hk); (try clear hi)))
  (try simp only [Act.put, List.setIfInBounds_toArray, List.set_cons_zero, List.set_cons_succ])
  go_cut [40] (fun v40 wc => ∃ (kq : Nat) (x40_5 : Bool), v40 = .bool x40_5 ∧ Aside0 (aqueductlaw06_EthTwo.j0 kq (Int.tmod (Go.bits .and .i64 a1 65535) 4095) (Int.tmod (Go.bits .and .i64 a2 65535) 4095) t309 t310 t311 t312 x40_5 = some r) ∧ Aside0 (kq ≤ k) ∧ Aside0 (Below w.heap.size w wc))
  case first =>
    have H := HC6.out
    clear HC6
    by_cases c9 : t310 = 0
    · rw [if_pos c9] at H
      have c9b0 : (t310 == 0) = true := beq_iff_eq.mpr c9
      have c9b1 : (t310 != 0) = false := bne_eq_false_iff_eq.mpr c9
      clear c9
      (first | rw [c9b0] | (simp only [i64_w, i32_w]; rw [c9b0]) | skip)
      have H' := Aside0.mk H
      clear H
      go_wp2
      go_meet
      case rel => exact ⟨_, ((t312 != 0)), (by first | rfl | (simp; done) | (simp [*]; done)), H', ⟨by first | omega | exact Nat.le_refl _⟩, ⟨by repeat (first | (with_reducible first | exact HB.out | apply below_alloc | apply pw_below_drewN | apply below_drew1) | exact HB.out)⟩⟩
    · rw [if_neg c9] at H
      have c9b0 : (t310 == 0) = false := beq_eq_false_iff_ne.mpr c9
      have c9b1 : (t310 != 0) = true := bne_iff_ne.mpr c9
      (first | rw [c9b0] | (simp only [i64_w, i32_w]; rw [c9b0]) | skip)
      have H' := Aside0.mk H
      clear H
      go_wp2
      go_meet
      case rel => exact ⟨_, (true), (by first | rfl | (simp; done) | (simp [*]; done)), H', ⟨by first | omega | exact Nat.le_refl _⟩, ⟨by repeat (first | (with_reducible first | exact HB.out | apply below_alloc | apply pw_below_drewN | apply below_drew1) | exact HB.out)⟩⟩
  case rest =>
    clear HC6
    try clear c1
    try clear p2
    try clear c9
    try clear c9b0
    try clear c9b1
    obtain ⟨kq, x40_5, rfl, HA, HJ5, HB⟩ := hcut
    cases kq with
    | zero => exact absurd HA.out (by simp [aqueductlaw06_EthTwo.j0])
    | succ kj5 =>
      have H := HA.out
      clear HA
      simp only [aqueductlaw06_EthTwo.j0] at H
      by_cases c10 : x40_5 = true
      · subst c10
        have H1 : (if t310 = t312 then ((aqueductlaw06_fixed.f kj5).bind fun t313 => (some t313)) else (some false)) = some r := by rw [if_pos rfl] at H; exact H
        clear H
        have H := H1
        clear H1
        by_cases c11 : t310 = t312
        · rw [if_pos c11] at H
          have c11b0 : (t310 == t312) = true := beq_iff_eq.mpr c11
          have c11b1 : (t310 != t312) = false := bne_eq_false_iff_eq.mpr c11
          clear c11
          replace H := Option.bind_eq_some_iff.mp H
          obtain ⟨t313, A120, H⟩ := H
          replace H : (some t313) = some r := H
          have A12 := Aside0.mk A120
          clear A120
          obtain rfl := Option.some.inj H
          go_wp2_with (first | (go_at_call 12; (with_reducible refine (aqueductlaw06_fixed.calls kj5  t313 _ A12.out).mono ?_); rintro e w13 ⟨rfl, hb⟩; have n0_ := Aside0.mk (below_step (by repeat (first | (with_reducible first | exact HB.out | apply below_alloc | apply pw_below_drewN | apply below_drew1) | exact HB.out)) hb); clear HB; have HB := n0_; clear n0_; (try clear hb); (try clear hb2); (try clear hk); (try clear hi)))
          go_ret
          exact ⟨by first | rfl | (simp [errW_none, errW_some] <;> rfl) | (simp [*, errW_none, errW_some] <;> rfl) | (exfalso; simp_all), by repeat (first | (with_reducible first | exact HB.out | apply below_alloc | apply pw_below_drewN | apply below_drew1) | exact HB.out)⟩
        · rw [if_neg c11] at H
          have c11b0 : (t310 == t312) = false := beq_eq_false_iff_ne.mpr c11
          have c11b1 : (t310 != t312) = true := bne_iff_ne.mpr c11
          obtain rfl := Option.some.inj H
          exact absurd HR_.out (by decide)
      · replace c10 := Bool.eq_false_iff.mpr c10
        subst c10
        have H1 : ((eth_Tag.f kj5 t309 (Int.tmod (Go.bits .and .i64 a2 65535) 4095)).bind fun bt314 => ((eth_Tag.f kj5 t309 (Int.tmod (Go.bits .and .i64 a1 65535) 4095)).bind fun bt316 => (if bt314.2 = 0 then (if bt316.2 = 0 then (if bt314.1.toList = t311.toList then (if bt316.1.toList = t309.toList then ((aqueductlaw06_fixed.f kj5).bind fun t318 => (some t318)) else (some false)) else (some false)) else (some false)) else (some false)))) = some r := by rw [if_neg (show ¬ (false = true) by decide)] at H; exact H
        clear H
        have H := H1
        clear H1
        replace H := Option.bind_eq_some_iff.mp H
        obtain ⟨⟨t314, t315⟩, A140, H⟩ := H
        replace H : ((eth_Tag.f kj5 t309 (Int.tmod (Go.bits .and .i64 a1 65535) 4095)).bind fun bt316 => (if t315 = 0 then (if bt316.2 = 0 then (if t314.toList = t311.toList then (if bt316.1.toList = t309.toList then ((aqueductlaw06_fixed.f kj5).bind fun t318 => (some t318)) else (some false)) else (some false)) else (some false)) else (some false))) = some r := H
        have A14 := Aside0.mk A140
        clear A140
        replace H := Option.bind_eq_some_iff.mp H
        obtain ⟨⟨t316, t317⟩, A150, H⟩ := H
        replace H : (if t315 = 0 then (if t317 = 0 then (if t314.toList = t311.toList then (if t316.toList = t309.toList then ((aqueductlaw06_fixed.f kj5).bind fun t318 => (some t318)) else (some false)) else (some false)) else (some false)) else (some false)) = some r := H
        have A15 := Aside0.mk A150
        clear A150
        by_cases c16 : t315 = 0
        · rw [if_pos c16] at H
          have c16b0 : (t315 == 0) = true := beq_iff_eq.mpr c16
          have c16b1 : (t315 != 0) = false := bne_eq_false_iff_eq.mpr c16
          clear c16
          by_cases c17 : t317 = 0
          · rw [if_pos c17] at H
            have c17b0 : (t317 == 0) = true := beq_iff_eq.mpr c17
            have c17b1 : (t317 != 0) = false := bne_eq_false_iff_eq.mpr c17
            clear c17
            by_cases c18 : t314.toList = t311.toList
            · rw [if_pos c18] at H
              have c18b0 : (t314.toList == t311.toList) = true := beq_iff_eq.mpr c18
              have c18b1 : (t314.toList != t311.toList) = false := bne_eq_false_iff_eq.mpr c18
              clear c18
              by_cases c19 : t316.toList = t309.toList
              · rw [if_pos c19] at H
                have c19b0 : (t316.toList == t309.toList) = true := beq_iff_eq.mpr c19
                have c19b1 : (t316.toList != t309.toList) = false := bne_eq_false_iff_eq.mpr c19
                clear c19
                replace H := Option.bind_eq_some_iff.mp H
                obtain ⟨t318, A200, H⟩ := H
                replace H : (some t318) = some r := H
                have A20 := Aside0.mk A200
                clear A200
                obtain rfl := Option.some.inj H
                go_wp2_with (first | ((with_reducible refine gate_callee (f := 15) rfl ?_); refine goesL_ (some 50) rfl rfl Try.func15 (by kernel_rfl) rfl #[.string t309, .int .i64 (Int.tmod (Go.bits .and .i64 a2 65535) 4095)] rfl (by (try simp only [List.map_toArray, List.map_cons, List.map_nil]); first | done | rfl | (simp only [List.length_drop, List.length_take]; rfl)) ?_; (with_reducible refine (eth_Tag.calls kj5 t309 (Int.tmod (Go.bits .and .i64 a2 65535) 4095) t314 t315 _ A14.out).mono ?_); rintro e w21 ⟨rfl, hb⟩; refine ⟨_, rfl, ?_⟩; have n0_ := Aside0.mk (below_step (by repeat (first | (with_reducible first | exact HB.out | apply below_alloc | apply pw_below_drewN | apply below_drew1) | exact HB.out)) hb); clear HB; have HB := n0_; clear n0_; (try clear hb); (try clear hb2); (try clear hk); (try clear hi)) | ((with_reducible refine gate_callee (f := 15) rfl ?_); refine goesL_ (some 56) rfl rfl Try.func15 (by kernel_rfl) rfl #[.string t309, .int .i64 (Int.tmod (Go.bits .and .i64 a1 65535) 4095)] rfl (by (try simp only [List.map_toArray, List.map_cons, List.map_nil]); first | done | rfl | (simp only [List.length_drop, List.length_take]; rfl)) ?_; (with_reducible refine (eth_Tag.calls kj5 t309 (Int.tmod (Go.bits .and .i64 a1 65535) 4095) t316 t317 _ A15.out).mono ?_); rintro e w22 ⟨rfl, hb⟩; refine ⟨_, rfl, ?_⟩; have n0_ := Aside0.mk (below_step (by repeat (first | (with_reducible first | exact HB.out | apply below_alloc | apply pw_below_drewN | apply below_drew1) | exact HB.out)) hb); clear HB; have HB := n0_; clear n0_; (try clear hb); (try clear hb2); (try clear hk); (try clear hi)) | (go_at_call 12; (with_reducible refine (aqueductlaw06_fixed.calls kj5  t318 _ A20.out).mono ?_); rintro e w23 ⟨rfl, hb⟩; have n0_ := Aside0.mk (below_step (by repeat (first | (with_reducible first | exact HB.out | apply below_alloc | apply pw_below_drewN | apply below_drew1) | exact HB.out)) hb); clear HB; have HB := n0_; clear n0_; (try clear hb); (try clear hb2); (try clear hk); (try clear hi)))
                go_ret
                exact ⟨by first | rfl | (simp [errW_none, errW_some] <;> rfl) | (simp [*, errW_none, errW_some] <;> rfl) | (exfalso; simp_all), by repeat (first | (with_reducible first | exact HB.out | apply below_alloc | apply pw_below_drewN | apply below_drew1) | exact HB.out)⟩
              · rw [if_neg c19] at H
                have c19b0 : (t316.toList == t309.toList) = false := beq_eq_false_iff_ne.mpr c19
                have c19b1 : (t316.toList != t309.toList) = true := bne_iff_ne.mpr c19
                obtain rfl := Option.some.inj H
                exact absurd HR_.out (by decide)
            · rw [if_neg c18] at H
              have c18b0 : (t314.toList == t311.toList) = false := beq_eq_false_iff_ne.mpr c18
              have c18b1 : (t314.toList != t311.toList) = true := bne_iff_ne.mpr c18
              obtain rfl := Option.some.inj H
              exact absurd HR_.out (by decide)
          · rw [if_neg c17] at H
            have c17b0 : (t317 == 0) = false := beq_eq_false_iff_ne.mpr c17
            have c17b1 : (t317 != 0) = true := bne_iff_ne.mpr c17
            obtain rfl := Option.some.inj H
            exact absurd HR_.out (by decide)
        · rw [if_neg c16] at H
          have c16b0 : (t315 == 0) = false := beq_eq_false_iff_ne.mpr c16
          have c16b1 : (t315 != 0) = true := bne_iff_ne.mpr c16
          obtain rfl := Option.some.inj H
          exact absurd HR_.out (by decide)

/-- THE ONE PURE STATEMENT of aqueductlaw06_EthTwo: yours. -/
def aqueductlaw06_EthTwo.Pure : Prop := ∀ (a0 : ByteArray) (a1 : Int) (a2 : Int), a0.size ≤ 140737488351232 → (Lit.int .i64 a1).wf = true → (Lit.int .i64 a2).wf = true → ∃ k, aqueductlaw06_EthTwo.f k a0 a1 a2 = some true
theorem aqueductlaw06_EthTwo.walk (P : aqueductlaw06_EthTwo.Pure) (a0 : ByteArray) (a1 : Int) (a2 : Int) (w : World) (w0 : a0.size ≤ 140737488351232) (w1 : (Lit.int .i64 a1).wf = true) (w2 : (Lit.int .i64 a2).wf = true) :
    Calls Try.prog 9 #[.string a0, .int .i64 a1, .int .i64 a2] w fun e w' => e = .returned (.bool true) ∧ Below w.heap.size w w' := by
  obtain ⟨k, h⟩ := P a0 a1 a2 w0 w1 w2
  refine (aqueductlaw06_EthTwo.calls k a0 a1 a2 true w h rfl).mono ?_
  rintro e w' ⟨rfl, hd⟩
  exact ⟨rfl, hd⟩

end Go.Proofs.Ytbecpkkhpjigbaa.P
