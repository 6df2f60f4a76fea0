/- What functions of the program compute, each with the walk that shows it: by a program (a turned copy of the kit's print; wip/myprint.py). -/
import Derived.Test.YtamicgnpmhbdbaaPx0
import Derived.Test.YtamicgnpmhbdbaaPx2
import Derived.Test.YtamicgnpmhbdbaaPx6
import Derived.Test.YtamicgnpmhbdbaaPx7
namespace Go.Proofs.Ytamicgnpmhbdbaa.P
open Go.RowKit Go.Proofs.YtamicgnpmhbdbaaW.PrintWords Go.Proofs.YtamicgnpmhbdbaaW.PrintLast Go.Proofs.YtamicgnpmhbdbaaW.PrintMore
attribute [local go_sem] max2_int min2_int max_two min_two max_three min_three max_four min_four   -- for this text's walks alone
set_option linter.unusedVariables false
set_option linter.unusedSimpArgs false

/-! ### aqueductlaw01_WordsParts: function 7 -/
def aqueductlaw01_WordsParts.f (k : Nat) (a0 : ByteArray) (a1 : Int) (a2 : Int) : Option (Bool) := if (wrap64 ((wrap64 (2 + (Int.tmod (Go.bits .and .i64 a1 65535) 7))) - 1)) = 0 then (none) else ((words_Get.f k a0 0 (wrap64 (2 + (Int.tmod (Go.bits .and .i64 a1 65535) 7))) true).bind fun bt181 => ((words_Get.f k a0 0 (wrap64 (1 + (Int.tmod (Go.bits .and .i64 a2 65535) (wrap64 ((wrap64 (2 + (Int.tmod (Go.bits .and .i64 a1 65535) 7))) - 1))))) true).bind fun bt183 => ((words_Get.f k a0 (wrap64 (1 + (Int.tmod (Go.bits .and .i64 a2 65535) (wrap64 ((wrap64 (2 + (Int.tmod (Go.bits .and .i64 a1 65535) 7))) - 1))))) (wrap64 ((wrap64 (2 + (Int.tmod (Go.bits .and .i64 a1 65535) 7))) - (wrap64 (1 + (Int.tmod (Go.bits .and .i64 a2 65535) (wrap64 ((wrap64 (2 + (Int.tmod (Go.bits .and .i64 a1 65535) 7))) - 1))))))) true).bind fun bt185 => (if bt181.2 = 0 then (if bt183.2 = 0 then (if bt185.2 = 0 then (if 0 ≤ (wrap64 (8 * (wrap64 ((wrap64 (2 + (Int.tmod (Go.bits .and .i64 a1 65535) 7))) - (wrap64 (1 + (Int.tmod (Go.bits .and .i64 a2 65535) (wrap64 ((wrap64 (2 + (Int.tmod (Go.bits .and .i64 a1 65535) 7))) - 1))))))))) then (if bt181.1 = (Go.bits .or .u64 (shl .u64 bt183.1 (wrap64 (8 * (wrap64 ((wrap64 (2 + (Int.tmod (Go.bits .and .i64 a1 65535) 7))) - (wrap64 (1 + (Int.tmod (Go.bits .and .i64 a2 65535) (wrap64 ((wrap64 (2 + (Int.tmod (Go.bits .and .i64 a1 65535) 7))) - 1)))))))))) bt185.1) then ((aqueductlaw01_fixed.f k).bind fun t187 => (some t187)) else (some false)) else (none)) else (some false)) else (some false)) else (if (a0.size : Int) < (wrap64 (2 + (Int.tmod (Go.bits .and .i64 a1 65535) 7))) then ((aqueductlaw01_fixed.f k).bind fun t188 => (some t188)) else (some false))))))
theorem aqueductlaw01_WordsParts.mono : ∀ a0 a1 a2 k, LeO (aqueductlaw01_WordsParts.f k a0 a1 a2) (aqueductlaw01_WordsParts.f (k + 1) a0 a1 a2) := by
  intro a0 a1 a2 k
  unfold aqueductlaw01_WordsParts.f
  repeat' first
      | (with_reducible exact aqueductlaw01_fixed.mono _)
      | (with_reducible exact words_Get.mono _ _ _ _ _)
      | (with_reducible exact LeO.refl _)
      | (with_reducible exact LeO.none _)
      | (with_reducible refine LeO.ite ?_ ?_)
      | (with_reducible refine LeO.bind ?_ (fun _ => ?_))
      | exact aqueductlaw01_fixed.mono _
      | exact words_Get.mono _ _ _ _ _
      | exact LeO.none _
      | refine LeO.ite ?_ ?_
      | refine LeO.bind ?_ (fun _ => ?_)
set_option maxHeartbeats 8000000 in
set_option maxRecDepth 100000 in
theorem aqueductlaw01_WordsParts.calls (k : Nat) (a0 : ByteArray) (a1 : Int) (a2 : Int) (r : Bool) (w : World) (h : aqueductlaw01_WordsParts.f k a0 a1 a2 = some r) (hr_ : r = true) :
    Calls Try.prog 7 #[.string a0, .int .i64 a1, .int .i64 a2] w fun e w' => e = .returned (.bool r) ∧ Below w.heap.size w w' := by
  have HB := Aside0.mk (Below.refl w.heap.size w)
  have H : (if (wrap64 ((wrap64 (2 + (Int.tmod (Go.bits .and .i64 a1 65535) 7))) - 1)) = 0 then (none) else ((words_Get.f k a0 0 (wrap64 (2 + (Int.tmod (Go.bits .and .i64 a1 65535) 7))) true).bind fun bt181 => ((words_Get.f k a0 0 (wrap64 (1 + (Int.tmod (Go.bits .and .i64 a2 65535) (wrap64 ((wrap64 (2 + (Int.tmod (Go.bits .and .i64 a1 65535) 7))) - 1))))) true).bind fun bt183 => ((words_Get.f k a0 (wrap64 (1 + (Int.tmod (Go.bits .and .i64 a2 65535) (wrap64 ((wrap64 (2 + (Int.tmod (Go.bits .and .i64 a1 65535) 7))) - 1))))) (wrap64 ((wrap64 (2 + (Int.tmod (Go.bits .and .i64 a1 65535) 7))) - (wrap64 (1 + (Int.tmod (Go.bits .and .i64 a2 65535) (wrap64 ((wrap64 (2 + (Int.tmod (Go.bits .and .i64 a1 65535) 7))) - 1))))))) true).bind fun bt185 => (if bt181.2 = 0 then (if bt183.2 = 0 then (if bt185.2 = 0 then (if 0 ≤ (wrap64 (8 * (wrap64 ((wrap64 (2 + (Int.tmod (Go.bits .and .i64 a1 65535) 7))) - (wrap64 (1 + (Int.tmod (Go.bits .and .i64 a2 65535) (wrap64 ((wrap64 (2 + (Int.tmod (Go.bits .and .i64 a1 65535) 7))) - 1))))))))) then (if bt181.1 = (Go.bits .or .u64 (shl .u64 bt183.1 (wrap64 (8 * (wrap64 ((wrap64 (2 + (Int.tmod (Go.bits .and .i64 a1 65535) 7))) - (wrap64 (1 + (Int.tmod (Go.bits .and .i64 a2 65535) (wrap64 ((wrap64 (2 + (Int.tmod (Go.bits .and .i64 a1 65535) 7))) - 1)))))))))) bt185.1) then ((aqueductlaw01_fixed.f k).bind fun t187 => (some t187)) else (some false)) else (none)) else (some false)) else (some false)) else (if (a0.size : Int) < (wrap64 (2 + (Int.tmod (Go.bits .and .i64 a1 65535) 7))) then ((aqueductlaw01_fixed.f k).bind fun t188 => (some t188)) else (some false))))))) = some r := h
  clear h
  have HR_ := Aside0.mk hr_
  clear hr_
  by_cases c4 : (wrap64 ((wrap64 (2 + (Int.tmod (Go.bits .and .i64 a1 65535) 7))) - 1)) = 0
  · rw [if_pos c4] at H
    exact absurd H (by simp)
  · rw [if_neg c4] at H
    have c4b0 : ((wrap64 ((wrap64 (2 + (Int.tmod (Go.bits .and .i64 a1 65535) 7))) - 1)) == 0) = false := beq_eq_false_iff_ne.mpr c4
    have c4b1 : ((wrap64 ((wrap64 (2 + (Int.tmod (Go.bits .and .i64 a1 65535) 7))) - 1)) != 0) = true := bne_iff_ne.mpr c4
    replace H := Option.bind_eq_some_iff.mp H
    obtain ⟨⟨t181, t182⟩, A50, H⟩ := H
    replace H : ((words_Get.f k a0 0 (wrap64 (1 + (Int.tmod (Go.bits .and .i64 a2 65535) (wrap64 ((wrap64 (2 + (Int.tmod (Go.bits .and .i64 a1 65535) 7))) - 1))))) true).bind fun bt183 => ((words_Get.f k a0 (wrap64 (1 + (Int.tmod (Go.bits .and .i64 a2 65535) (wrap64 ((wrap64 (2 + (Int.tmod (Go.bits .and .i64 a1 65535) 7))) - 1))))) (wrap64 ((wrap64 (2 + (Int.tmod (Go.bits .and .i64 a1 65535) 7))) - (wrap64 (1 + (Int.tmod (Go.bits .and .i64 a2 65535) (wrap64 ((wrap64 (2 + (Int.tmod (Go.bits .and .i64 a1 65535) 7))) - 1))))))) true).bind fun bt185 => (if t182 = 0 then (if bt183.2 = 0 then (if bt185.2 = 0 then (if 0 ≤ (wrap64 (8 * (wrap64 ((wrap64 (2 + (Int.tmod (Go.bits .and .i64 a1 65535) 7))) - (wrap64 (1 + (Int.tmod (Go.bits .and .i64 a2 65535) (wrap64 ((wrap64 (2 + (Int.tmod (Go.bits .and .i64 a1 65535) 7))) - 1))))))))) then (if t181 = (Go.bits .or .u64 (shl .u64 bt183.1 (wrap64 (8 * (wrap64 ((wrap64 (2 + (Int.tmod (Go.bits .and .i64 a1 65535) 7))) - (wrap64 (1 + (Int.tmod (Go.bits .and .i64 a2 65535) (wrap64 ((wrap64 (2 + (Int.tmod (Go.bits .and .i64 a1 65535) 7))) - 1)))))))))) bt185.1) then ((aqueductlaw01_fixed.f k).bind fun t187 => (some t187)) else (some false)) else (none)) else (some false)) else (some false)) else (if (a0.size : Int) < (wrap64 (2 + (Int.tmod (Go.bits .and .i64 a1 65535) 7))) then ((aqueductlaw01_fixed.f k).bind fun t188 => (some t188)) else (some false))))) = some r := H
    have A5 := Aside0.mk A50
    clear A50
    replace H := Option.bind_eq_some_iff.mp H
    obtain ⟨⟨t183, t184⟩, A60, H⟩ := H
    replace H : ((words_Get.f k a0 (wrap64 (1 + (Int.tmod (Go.bits .and .i64 a2 65535) (wrap64 ((wrap64 (2 + (Int.tmod (Go.bits .and .i64 a1 65535) 7))) - 1))))) (wrap64 ((wrap64 (2 + (Int.tmod (Go.bits .and .i64 a1 65535) 7))) - (wrap64 (1 + (Int.tmod (Go.bits .and .i64 a2 65535) (wrap64 ((wrap64 (2 + (Int.tmod (Go.bits .and .i64 a1 65535) 7))) - 1))))))) true).bind fun bt185 => (if t182 = 0 then (if t184 = 0 then (if bt185.2 = 0 then (if 0 ≤ (wrap64 (8 * (wrap64 ((wrap64 (2 + (Int.tmod (Go.bits .and .i64 a1 65535) 7))) - (wrap64 (1 + (Int.tmod (Go.bits .and .i64 a2 65535) (wrap64 ((wrap64 (2 + (Int.tmod (Go.bits .and .i64 a1 65535) 7))) - 1))))))))) then (if t181 = (Go.bits .or .u64 (shl .u64 t183 (wrap64 (8 * (wrap64 ((wrap64 (2 + (Int.tmod (Go.bits .and .i64 a1 65535) 7))) - (wrap64 (1 + (Int.tmod (Go.bits .and .i64 a2 65535) (wrap64 ((wrap64 (2 + (Int.tmod (Go.bits .and .i64 a1 65535) 7))) - 1)))))))))) bt185.1) then ((aqueductlaw01_fixed.f k).bind fun t187 => (some t187)) else (some false)) else (none)) else (some false)) else (some false)) else (if (a0.size : Int) < (wrap64 (2 + (Int.tmod (Go.bits .and .i64 a1 65535) 7))) then ((aqueductlaw01_fixed.f k).bind fun t188 => (some t188)) else (some false)))) = some r := H
    have A6 := Aside0.mk A60
    clear A60
    replace H := Option.bind_eq_some_iff.mp H
    obtain ⟨⟨t185, t186⟩, A70, H⟩ := H
    replace H : (if t182 = 0 then (if t184 = 0 then (if t186 = 0 then (if 0 ≤ (wrap64 (8 * (wrap64 ((wrap64 (2 + (Int.tmod (Go.bits .and .i64 a1 65535) 7))) - (wrap64 (1 + (Int.tmod (Go.bits .and .i64 a2 65535) (wrap64 ((wrap64 (2 + (Int.tmod (Go.bits .and .i64 a1 65535) 7))) - 1))))))))) then (if t181 = (Go.bits .or .u64 (shl .u64 t183 (wrap64 (8 * (wrap64 ((wrap64 (2 + (Int.tmod (Go.bits .and .i64 a1 65535) 7))) - (wrap64 (1 + (Int.tmod (Go.bits .and .i64 a2 65535) (wrap64 ((wrap64 (2 + (Int.tmod (Go.bits .and .i64 a1 65535) 7))) - 1)))))))))) t185) then ((aqueductlaw01_fixed.f k).bind fun t187 => (some t187)) else (some false)) else (none)) else (some false)) else (some false)) else (if (a0.size : Int) < (wrap64 (2 + (Int.tmod (Go.bits .and .i64 a1 65535) 7))) then ((aqueductlaw01_fixed.f k).bind fun t188 => (some t188)) else (some false))) = some r := H
    have A7 := Aside0.mk A70
    clear A70
    by_cases c8 : t182 = 0
    · rw [if_pos c8] at H
      have c8b0 : (t182 == 0) = true := beq_iff_eq.mpr c8
      have c8b1 : (t182 != 0) = false := bne_eq_false_iff_eq.mpr c8
      clear c8
      by_cases c9 : t184 = 0
      · rw [if_pos c9] at H
        have c9b0 : (t184 == 0) = true := beq_iff_eq.mpr c9
        have c9b1 : (t184 != 0) = false := bne_eq_false_iff_eq.mpr c9
        clear c9
        by_cases c10 : t186 = 0
        · rw [if_pos c10] at H
          have c10b0 : (t186 == 0) = true := beq_iff_eq.mpr c10
          have c10b1 : (t186 != 0) = false := bne_eq_false_iff_eq.mpr c10
          clear c10
          obtain ⟨ji11, hji11⟩ : ∃ j_ : Int, (wrap64 (8 * (wrap64 ((wrap64 (2 + (Int.tmod (Go.bits .and .i64 a1 65535) 7))) - (wrap64 (1 + (Int.tmod (Go.bits .and .i64 a2 65535) (wrap64 ((wrap64 (2 + (Int.tmod (Go.bits .and .i64 a1 65535) 7))) - 1))))))))) = j_ := ⟨_, rfl⟩
          replace H : (if 0 ≤ (ji11) then (if t181 = (Go.bits .or .u64 (shl .u64 t183 (ji11)) t185) then ((aqueductlaw01_fixed.f k).bind fun t187 => (some t187)) else (some false)) else (none)) = some r := by first | (rw [hji11] at H; exact H) | (simp only [hji11] at H ⊢; exact H)
          (try rw [hji11] at A5)
          (try rw [hji11] at A6)
          (try rw [hji11] at A7)
          have hji11w : (IntKind.i64.wrap (8 * (wrap64 ((wrap64 (2 + (Int.tmod (Go.bits .and .i64 a1 65535) 7))) - (wrap64 (1 + (Int.tmod (Go.bits .and .i64 a2 65535) (wrap64 ((wrap64 (2 + (Int.tmod (Go.bits .and .i64 a1 65535) 7))) - 1))))))))) = ji11 := (i64_w _).trans hji11
          by_cases c12 : 0 ≤ (ji11)
          · rw [if_pos c12] at H
            have c12b0 := eq_true c12
            have c12b1 : decide (0 ≤ (ji11)) = true := decide_eq_true c12
            clear c12
            obtain ⟨ji13, hji13⟩ : ∃ j_ : Int, (shl .u64 t183 (ji11)) = j_ := ⟨_, rfl⟩
            replace H : (if t181 = (Go.bits .or .u64 (ji13) t185) then ((aqueductlaw01_fixed.f k).bind fun t187 => (some t187)) else (some false)) = some r := by first | (rw [hji13] at H; exact H) | (simp only [hji13] at H ⊢; exact H)
            (try rw [hji13] at A5)
            (try rw [hji13] at A6)
            (try rw [hji13] at A7)
            have hji13_ : (IntKind.u64.wrap (t183 * 2 ^ min (ji11).toNat 64)) = ji13 := hji13
            have hji13z : (ji11) ≤ 64 → (IntKind.u64.wrap (t183 * 2 ^ (ji11).toNat)) = ji13 := shl_small hji13
            by_cases c14 : t181 = (Go.bits .or .u64 (ji13) t185)
            · rw [if_pos c14] at H
              have c14b0 : (t181 == (Go.bits .or .u64 (ji13) t185)) = true := beq_iff_eq.mpr c14
              have c14b1 : (t181 != (Go.bits .or .u64 (ji13) t185)) = false := bne_eq_false_iff_eq.mpr c14
              clear c14
              replace H := Option.bind_eq_some_iff.mp H
              obtain ⟨t187, A150, H⟩ := H
              replace H : (some t187) = some r := H
              have A15 := Aside0.mk A150
              clear A150
              obtain rfl := Option.some.inj H
              go_enter Try.func7, Try.ntmps7
              go_wp2_with (first | ((with_reducible refine gate_callee (f := 9) rfl ?_); refine goesL_ (some 28) rfl rfl Try.func9 (by kernel_rfl) rfl #[.string a0, .int .i64 0, .int .i64 (wrap64 (2 + (Int.tmod (Go.bits .and .i64 a1 65535) 7))), .bool true] rfl (by (try simp only [List.map_toArray, List.map_cons, List.map_nil]); first | done | rfl | (simp only [List.length_drop, List.length_take]; rfl)) ?_; (with_reducible refine (words_Get.calls k a0 0 (wrap64 (2 + (Int.tmod (Go.bits .and .i64 a1 65535) 7))) true t181 t182 _ A5.out).mono ?_); rintro e w16 ⟨rfl, hb⟩; refine ⟨_, rfl, ?_⟩; have n0_ := Aside0.mk (below_step (by repeat (first | (with_reducible first | exact HB.out | apply below_alloc | apply pw_below_drewN | apply below_drew1) | exact HB.out)) hb); clear HB; have HB := n0_; clear n0_; (try clear hb); (try clear hb2); (try clear hk); (try clear hi)) | ((with_reducible refine gate_callee (f := 9) rfl ?_); refine goesL_ (some 34) rfl rfl Try.func9 (by kernel_rfl) rfl #[.string a0, .int .i64 0, .int .i64 (wrap64 (1 + (Int.tmod (Go.bits .and .i64 a2 65535) (wrap64 ((wrap64 (2 + (Int.tmod (Go.bits .and .i64 a1 65535) 7))) - 1))))), .bool true] rfl (by (try simp only [List.map_toArray, List.map_cons, List.map_nil]); first | done | rfl | (simp only [List.length_drop, List.length_take]; rfl)) ?_; (with_reducible refine (words_Get.calls k a0 0 (wrap64 (1 + (Int.tmod (Go.bits .and .i64 a2 65535) (wrap64 ((wrap64 (2 + (Int.tmod (Go.bits .and .i64 a1 65535) 7))) - 1))))) true t183 t184 _ A6.out).mono ?_); rintro e w17 ⟨rfl, hb⟩; refine ⟨_, rfl, ?_⟩; have n0_ := Aside0.mk (below_step (by repeat (first | (with_reducible first | exact HB.out | apply below_alloc | apply pw_below_drewN | apply below_drew1) | exact HB.out)) hb); clear HB; have HB := n0_; clear n0_; (try clear hb); (try clear hb2); (try clear hk); (try clear hi)) | ((with_reducible refine gate_callee (f := 9) rfl ?_); refine goesL_ (some 43) rfl rfl Try.func9 (by kernel_rfl) rfl #[.string a0, .int .i64 (wrap64 (1 + (Int.tmod (Go.bits .and .i64 a2 65535) (wrap64 ((wrap64 (2 + (Int.tmod (Go.bits .and .i64 a1 65535) 7))) - 1))))), .int .i64 (wrap64 ((wrap64 (2 + (Int.tmod (Go.bits .and .i64 a1 65535) 7))) - (wrap64 (1 + (Int.tmod (Go.bits .and .i64 a2 65535) (wrap64 ((wrap64 (2 + (Int.tmod (Go.bits .and .i64 a1 65535) 7))) - 1))))))), .bool true] rfl (by (try simp only [List.map_toArray, List.map_cons, List.map_nil]); first | done | rfl | (simp only [List.length_drop, List.length_take]; rfl)) ?_; (with_reducible refine (words_Get.calls k a0 (wrap64 (1 + (Int.tmod (Go.bits .and .i64 a2 65535) (wrap64 ((wrap64 (2 + (Int.tmod (Go.bits .and .i64 a1 65535) 7))) - 1))))) (wrap64 ((wrap64 (2 + (Int.tmod (Go.bits .and .i64 a1 65535) 7))) - (wrap64 (1 + (Int.tmod (Go.bits .and .i64 a2 65535) (wrap64 ((wrap64 (2 + (Int.tmod (Go.bits .and .i64 a1 65535) 7))) - 1))))))) true t185 t186 _ A7.out).mono ?_); rintro e w18 ⟨rfl, hb⟩; refine ⟨_, rfl, ?_⟩; have n0_ := Aside0.mk (below_step (by repeat (first | (with_reducible first | exact HB.out | apply below_alloc | apply pw_below_drewN | apply below_drew1) | exact HB.out)) hb); clear HB; have HB := n0_; clear n0_; (try clear hb); (try clear hb2); (try clear hk); (try clear hi)) | (go_at_call 13; (with_reducible refine (aqueductlaw01_fixed.calls k  t187 _ A15.out).mono ?_); rintro e w19 ⟨rfl, hb⟩; have n0_ := Aside0.mk (below_step (by repeat (first | (with_reducible first | exact HB.out | apply below_alloc | apply pw_below_drewN | apply below_drew1) | exact HB.out)) hb); clear HB; have HB := n0_; clear n0_; (try clear hb); (try clear hb2); (try clear hk); (try clear hi)))
              go_ret
              exact ⟨by first | rfl | (simp [errW_none, errW_some] <;> rfl) | (simp only [← hji11, ← hji13]; first | rfl | (simp [errW_none, errW_some] <;> rfl)) | (simp [*, errW_none, errW_some] <;> rfl), by repeat (first | (with_reducible first | exact HB.out | apply below_alloc | apply pw_below_drewN | apply below_drew1) | exact HB.out)⟩
            · rw [if_neg c14] at H
              have c14b0 : (t181 == (Go.bits .or .u64 (ji13) t185)) = false := beq_eq_false_iff_ne.mpr c14
              have c14b1 : (t181 != (Go.bits .or .u64 (ji13) t185)) = true := bne_iff_ne.mpr c14
              obtain rfl := Option.some.inj H
              exact absurd HR_.out (by decide)
          · rw [if_neg c12] at H
            exact absurd H (by simp)
        · rw [if_neg c10] at H
          have c10b0 : (t186 == 0) = false := beq_eq_false_iff_ne.mpr c10
          have c10b1 : (t186 != 0) = true := bne_iff_ne.mpr c10
          obtain rfl := Option.some.inj H
          exact absurd HR_.out (by decide)
      · rw [if_neg c9] at H
        have c9b0 : (t184 == 0) = false := beq_eq_false_iff_ne.mpr c9
        have c9b1 : (t184 != 0) = true := bne_iff_ne.mpr c9
        obtain rfl := Option.some.inj H
        exact absurd HR_.out (by decide)
    · rw [if_neg c8] at H
      have c8b0 : (t182 == 0) = false := beq_eq_false_iff_ne.mpr c8
      have c8b1 : (t182 != 0) = true := bne_iff_ne.mpr c8
      by_cases c20 : (a0.size : Int) < (wrap64 (2 + (Int.tmod (Go.bits .and .i64 a1 65535) 7)))
      · rw [if_pos c20] at H
        have c20b0 : decide ((a0.size : Int) < (wrap64 (2 + (Int.tmod (Go.bits .and .i64 a1 65535) 7)))) = true := decide_eq_true c20
        clear c20
        replace H := Option.bind_eq_some_iff.mp H
        obtain ⟨t188, A210, H⟩ := H
        replace H : (some t188) = some r := H
        have A21 := Aside0.mk A210
        clear A210
        obtain rfl := Option.some.inj H
        go_enter Try.func7, Try.ntmps7
        go_wp2_with (first | ((with_reducible refine gate_callee (f := 9) rfl ?_); refine goesL_ (some 28) rfl rfl Try.func9 (by kernel_rfl) rfl #[.string a0, .int .i64 0, .int .i64 (wrap64 (2 + (Int.tmod (Go.bits .and .i64 a1 65535) 7))), .bool true] rfl (by (try simp only [List.map_toArray, List.map_cons, List.map_nil]); first | done | rfl | (simp only [List.length_drop, List.length_take]; rfl)) ?_; (with_reducible refine (words_Get.calls k a0 0 (wrap64 (2 + (Int.tmod (Go.bits .and .i64 a1 65535) 7))) true t181 t182 _ A5.out).mono ?_); rintro e w22 ⟨rfl, hb⟩; refine ⟨_, rfl, ?_⟩; have n0_ := Aside0.mk (below_step (by repeat (first | (with_reducible first | exact HB.out | apply below_alloc | apply pw_below_drewN | apply below_drew1) | exact HB.out)) hb); clear HB; have HB := n0_; clear n0_; (try clear hb); (try clear hb2); (try clear hk); (try clear hi)) | ((with_reducible refine gate_callee (f := 9) rfl ?_); refine goesL_ (some 34) rfl rfl Try.func9 (by kernel_rfl) rfl #[.string a0, .int .i64 0, .int .i64 (wrap64 (1 + (Int.tmod (Go.bits .and .i64 a2 65535) (wrap64 ((wrap64 (2 + (Int.tmod (Go.bits .and .i64 a1 65535) 7))) - 1))))), .bool true] rfl (by (try simp only [List.map_toArray, List.map_cons, List.map_nil]); first | done | rfl | (simp only [List.length_drop, List.length_take]; rfl)) ?_; (with_reducible refine (words_Get.calls k a0 0 (wrap64 (1 + (Int.tmod (Go.bits .and .i64 a2 65535) (wrap64 ((wrap64 (2 + (Int.tmod (Go.bits .and .i64 a1 65535) 7))) - 1))))) true t183 t184 _ A6.out).mono ?_); rintro e w23 ⟨rfl, hb⟩; refine ⟨_, rfl, ?_⟩; have n0_ := Aside0.mk (below_step (by repeat (first | (with_reducible first | exact HB.out | apply below_alloc | apply pw_below_drewN | apply below_drew1) | exact HB.out)) hb); clear HB; have HB := n0_; clear n0_; (try clear hb); (try clear hb2); (try clear hk); (try clear hi)) | ((with_reducible refine gate_callee (f := 9) rfl ?_); refine goesL_ (some 43) rfl rfl Try.func9 (by kernel_rfl) rfl #[.string a0, .int .i64 (wrap64 (1 + (Int.tmod (Go.bits .and .i64 a2 65535) (wrap64 ((wrap64 (2 + (Int.tmod (Go.bits .and .i64 a1 65535) 7))) - 1))))), .int .i64 (wrap64 ((wrap64 (2 + (Int.tmod (Go.bits .and .i64 a1 65535) 7))) - (wrap64 (1 + (Int.tmod (Go.bits .and .i64 a2 65535) (wrap64 ((wrap64 (2 + (Int.tmod (Go.bits .and .i64 a1 65535) 7))) - 1))))))), .bool true] rfl (by (try simp only [List.map_toArray, List.map_cons, List.map_nil]); first | done | rfl | (simp only [List.length_drop, List.length_take]; rfl)) ?_; (with_reducible refine (words_Get.calls k a0 (wrap64 (1 + (Int.tmod (Go.bits .and .i64 a2 65535) (wrap64 ((wrap64 (2 + (Int.tmod (Go.bits .and .i64 a1 65535) 7))) - 1))))) (wrap64 ((wrap64 (2 + (Int.tmod (Go.bits .and .i64 a1 65535) 7))) - (wrap64 (1 + (Int.tmod (Go.bits .and .i64 a2 65535) (wrap64 ((wrap64 (2 + (Int.tmod (Go.bits .and .i64 a1 65535) 7))) - 1))))))) true t185 t186 _ A7.out).mono ?_); rintro e w24 ⟨rfl, hb⟩; refine ⟨_, rfl, ?_⟩; have n0_ := Aside0.mk (below_step (by repeat (first | (with_reducible first | exact HB.out | apply below_alloc | apply pw_below_drewN | apply below_drew1) | exact HB.out)) hb); clear HB; have HB := n0_; clear n0_; (try clear hb); (try clear hb2); (try clear hk); (try clear hi)) | (go_at_call 13; (with_reducible refine (aqueductlaw01_fixed.calls k  t188 _ A21.out).mono ?_); rintro e w25 ⟨rfl, hb⟩; have n0_ := Aside0.mk (below_step (by repeat (first | (with_reducible first | exact HB.out | apply below_alloc | apply pw_below_drewN | apply below_drew1) | exact HB.out)) hb); clear HB; have HB := n0_; clear n0_; (try clear hb); (try clear hb2); (try clear hk); (try clear hi)))
        go_ret
        exact ⟨by first | rfl | (simp [errW_none, errW_some] <;> rfl) | (simp [*, errW_none, errW_some] <;> rfl), by repeat (first | (with_reducible first | exact HB.out | apply below_alloc | apply pw_below_drewN | apply below_drew1) | exact HB.out)⟩
      · rw [if_neg c20] at H
        have c20b0 : decide ((a0.size : Int) < (wrap64 (2 + (Int.tmod (Go.bits .and .i64 a1 65535) 7)))) = false := decide_eq_false c20
        clear c20
        obtain rfl := Option.some.inj H
        exact absurd HR_.out (by decide)

/-- THE ONE PURE STATEMENT of aqueductlaw01_WordsParts: yours. -/
def aqueductlaw01_WordsParts.Pure : Prop := ∀ (a0 : ByteArray) (a1 : Int) (a2 : Int), a0.size ≤ 140737488351232 → (Lit.int .i64 a1).wf = true → (Lit.int .i64 a2).wf = true → ∃ k, aqueductlaw01_WordsParts.f k a0 a1 a2 = some true
theorem aqueductlaw01_WordsParts.walk (P : aqueductlaw01_WordsParts.Pure) (a0 : ByteArray) (a1 : Int) (a2 : Int) (w : World) (w0 : a0.size ≤ 140737488351232) (w1 : (Lit.int .i64 a1).wf = true) (w2 : (Lit.int .i64 a2).wf = true) :
    Calls Try.prog 7 #[.string a0, .int .i64 a1, .int .i64 a2] w fun e w' => e = .returned (.bool true) ∧ Below w.heap.size w w' := by
  obtain ⟨k, h⟩ := P a0 a1 a2 w0 w1 w2
  refine (aqueductlaw01_WordsParts.calls k a0 a1 a2 true w h rfl).mono ?_
  rintro e w' ⟨rfl, hd⟩
  exact ⟨rfl, hd⟩

/-! ### aqueductlaw01_WordsApart: function 8 -/
def aqueductlaw01_WordsApart.f (k : Nat) (a0 : ByteArray) (a1 : Int) (a2 : Bool) : Option (Bool) := if 16 ≤ 281474976710656 then ((some (List.replicate 16 0 : List Int)).bind fun y189 => (if a0.size + (strOfNums y189).size ≤ 9223372036854775807 then ((words_Set.f k (a0 ++ (strOfNums y189)) 0 (Go.bits .and .u64 a1 65535) 2 a2).bind fun bt192 => ((words_Set.f k bt192.1 2 (Go.bits .and .u64 a1 255) 1 a2).bind fun bt194 => ((words_Set.f k (a0 ++ (strOfNums y189)) 2 (Go.bits .and .u64 a1 255) 1 a2).bind fun bt196 => ((words_Set.f k bt196.1 0 (Go.bits .and .u64 a1 65535) 2 a2).bind fun bt198 => (if bt192.2 = 0 then (if bt194.2 = 0 then (if bt196.2 = 0 then (if bt198.2 = 0 then (if bt194.1.toList = bt198.1.toList then (if (bt194.1.size : Int) = ((a0 ++ (strOfNums y189)).size : Int) then ((aqueductlaw01_fixed.f k).bind fun t200 => (some t200)) else (some false)) else (some false)) else (some false)) else (some false)) else (some false)) else (some false)))))) else (none))) else (none)
theorem aqueductlaw01_WordsApart.mono : ∀ a0 a1 a2 k, LeO (aqueductlaw01_WordsApart.f k a0 a1 a2) (aqueductlaw01_WordsApart.f (k + 1) a0 a1 a2) := by
  intro a0 a1 a2 k
  unfold aqueductlaw01_WordsApart.f
  repeat' first
      | (with_reducible exact aqueductlaw01_fixed.mono _)
      | (with_reducible exact words_Set.mono _ _ _ _ _ _)
      | (with_reducible exact LeO.refl _)
      | (with_reducible exact LeO.none _)
      | (with_reducible refine LeO.ite ?_ ?_)
      | (with_reducible refine LeO.bind ?_ (fun _ => ?_))
      | exact aqueductlaw01_fixed.mono _
      | exact words_Set.mono _ _ _ _ _ _
      | exact LeO.none _
      | refine LeO.ite ?_ ?_
      | refine LeO.bind ?_ (fun _ => ?_)
set_option maxHeartbeats 8000000 in
set_option maxRecDepth 100000 in
theorem aqueductlaw01_WordsApart.calls (k : Nat) (a0 : ByteArray) (a1 : Int) (a2 : Bool) (r : Bool) (w : World) (h : aqueductlaw01_WordsApart.f k a0 a1 a2 = some r) (hr_ : r = true) :
    Calls Try.prog 8 #[.string a0, .int .u64 a1, .bool a2] w fun e w' => e = .returned (.bool r) ∧ Below w.heap.size w w' := by
  have HB := Aside0.mk (Below.refl w.heap.size w)
  have H : (if 16 ≤ 281474976710656 then ((some (List.replicate 16 0 : List Int)).bind fun y189 => (if a0.size + (strOfNums y189).size ≤ 9223372036854775807 then ((words_Set.f k (a0 ++ (strOfNums y189)) 0 (Go.bits .and .u64 a1 65535) 2 a2).bind fun bt192 => ((words_Set.f k bt192.1 2 (Go.bits .and .u64 a1 255) 1 a2).bind fun bt194 => ((words_Set.f k (a0 ++ (strOfNums y189)) 2 (Go.bits .and .u64 a1 255) 1 a2).bind fun bt196 => ((words_Set.f k bt196.1 0 (Go.bits .and .u64 a1 65535) 2 a2).bind fun bt198 => (if bt192.2 = 0 then (if bt194.2 = 0 then (if bt196.2 = 0 then (if bt198.2 = 0 then (if bt194.1.toList = bt198.1.toList then (if (bt194.1.size : Int) = ((a0 ++ (strOfNums y189)).size : Int) then ((aqueductlaw01_fixed.f k).bind fun t200 => (some t200)) else (some false)) else (some false)) else (some false)) else (some false)) else (some false)) else (some false)))))) else (none))) else (none)) = some r := h
  clear h
  have HR_ := Aside0.mk hr_
  clear hr_
  by_cases c4 : 16 ≤ 281474976710656
  · rw [if_pos c4] at H
    have c4b0 := eq_true c4
    have c4b1 : decide (16 ≤ 281474976710656) = true := decide_eq_true c4
    clear c4
    obtain ⟨y189, hy189⟩ : ∃ y_ : List Int, y_ = (List.replicate 16 0) := ⟨_, rfl⟩
    replace H : (if a0.size + (strOfNums y189).size ≤ 9223372036854775807 then ((words_Set.f k (a0 ++ (strOfNums y189)) 0 (Go.bits .and .u64 a1 65535) 2 a2).bind fun bt192 => ((words_Set.f k bt192.1 2 (Go.bits .and .u64 a1 255) 1 a2).bind fun bt194 => ((words_Set.f k (a0 ++ (strOfNums y189)) 2 (Go.bits .and .u64 a1 255) 1 a2).bind fun bt196 => ((words_Set.f k bt196.1 0 (Go.bits .and .u64 a1 65535) 2 a2).bind fun bt198 => (if bt192.2 = 0 then (if bt194.2 = 0 then (if bt196.2 = 0 then (if bt198.2 = 0 then (if bt194.1.toList = bt198.1.toList then (if (bt194.1.size : Int) = ((a0 ++ (strOfNums y189)).size : Int) then ((aqueductlaw01_fixed.f k).bind fun t200 => (some t200)) else (some false)) else (some false)) else (some false)) else (some false)) else (some false)) else (some false)))))) else (none)) = some r := by first | (rw [hy189]; with_reducible exact H) | (have H2_ := (Option.bind_some _ _).symm.trans H; rw [hy189]; with_reducible exact H2_) | (have H2_ := (Option.bind_some _ _).symm.trans H; with_reducible exact H2_) | with_reducible exact H | (rw [hy189]; exact H) | exact H
    have Ny189 := Aside0.mk hy189
    clear hy189
    by_cases c5 : a0.size + (strOfNums y189).size ≤ 9223372036854775807
    · rw [if_pos c5] at H
      have c5b0 := eq_true c5
      have c5b1 : decide (a0.size + (strOfNums y189).size ≤ 9223372036854775807) = true := decide_eq_true c5
      try have c5b2 : (9223372036854775807 < a0.size + (strOfNums y189).size) = False := eq_false (Nat.not_lt.2 c5)
      replace H := Option.bind_eq_some_iff.mp H
      obtain ⟨⟨t192, t193⟩, A60, H⟩ := H
      replace H : ((words_Set.f k t192 2 (Go.bits .and .u64 a1 255) 1 a2).bind fun bt194 => ((words_Set.f k (a0 ++ (strOfNums y189)) 2 (Go.bits .and .u64 a1 255) 1 a2).bind fun bt196 => ((words_Set.f k bt196.1 0 (Go.bits .and .u64 a1 65535) 2 a2).bind fun bt198 => (if t193 = 0 then (if bt194.2 = 0 then (if bt196.2 = 0 then (if bt198.2 = 0 then (if bt194.1.toList = bt198.1.toList then (if (bt194.1.size : Int) = ((a0 ++ (strOfNums y189)).size : Int) then ((aqueductlaw01_fixed.f k).bind fun t200 => (some t200)) else (some false)) else (some false)) else (some false)) else (some false)) else (some false)) else (some false))))) = some r := H
      have A6 := Aside0.mk A60
      clear A60
      replace H := Option.bind_eq_some_iff.mp H
      obtain ⟨⟨t194, t195⟩, A70, H⟩ := H
      replace H : ((words_Set.f k (a0 ++ (strOfNums y189)) 2 (Go.bits .and .u64 a1 255) 1 a2).bind fun bt196 => ((words_Set.f k bt196.1 0 (Go.bits .and .u64 a1 65535) 2 a2).bind fun bt198 => (if t193 = 0 then (if t195 = 0 then (if bt196.2 = 0 then (if bt198.2 = 0 then (if t194.toList = bt198.1.toList then (if (t194.size : Int) = ((a0 ++ (strOfNums y189)).size : Int) then ((aqueductlaw01_fixed.f k).bind fun t200 => (some t200)) else (some false)) else (some false)) else (some false)) else (some false)) else (some false)) else (some false)))) = some r := H
      have A7 := Aside0.mk A70
      clear A70
      replace H := Option.bind_eq_some_iff.mp H
      obtain ⟨⟨t196, t197⟩, A80, H⟩ := H
      replace H : ((words_Set.f k t196 0 (Go.bits .and .u64 a1 65535) 2 a2).bind fun bt198 => (if t193 = 0 then (if t195 = 0 then (if t197 = 0 then (if bt198.2 = 0 then (if t194.toList = bt198.1.toList then (if (t194.size : Int) = ((a0 ++ (strOfNums y189)).size : Int) then ((aqueductlaw01_fixed.f k).bind fun t200 => (some t200)) else (some false)) else (some false)) else (some false)) else (some false)) else (some false)) else (some false))) = some r := H
      have A8 := Aside0.mk A80
      clear A80
      replace H := Option.bind_eq_some_iff.mp H
      obtain ⟨⟨t198, t199⟩, A90, H⟩ := H
      replace H : (if t193 = 0 then (if t195 = 0 then (if t197 = 0 then (if t199 = 0 then (if t194.toList = t198.toList then (if (t194.size : Int) = ((a0 ++ (strOfNums y189)).size : Int) then ((aqueductlaw01_fixed.f k).bind fun t200 => (some t200)) else (some false)) else (some false)) else (some false)) else (some false)) else (some false)) else (some false)) = some r := H
      have A9 := Aside0.mk A90
      clear A90
      by_cases c10 : t193 = 0
      · rw [if_pos c10] at H
        have c10b0 : (t193 == 0) = true := beq_iff_eq.mpr c10
        have c10b1 : (t193 != 0) = false := bne_eq_false_iff_eq.mpr c10
        clear c10
        by_cases c11 : t195 = 0
        · rw [if_pos c11] at H
          have c11b0 : (t195 == 0) = true := beq_iff_eq.mpr c11
          have c11b1 : (t195 != 0) = false := bne_eq_false_iff_eq.mpr c11
          clear c11
          by_cases c12 : t197 = 0
          · rw [if_pos c12] at H
            have c12b0 : (t197 == 0) = true := beq_iff_eq.mpr c12
            have c12b1 : (t197 != 0) = false := bne_eq_false_iff_eq.mpr c12
            clear c12
            by_cases c13 : t199 = 0
            · rw [if_pos c13] at H
              have c13b0 : (t199 == 0) = true := beq_iff_eq.mpr c13
              have c13b1 : (t199 != 0) = false := bne_eq_false_iff_eq.mpr c13
              clear c13
              by_cases c14 : t194.toList = t198.toList
              · rw [if_pos c14] at H
                have c14b0 : (t194.toList == t198.toList) = true := beq_iff_eq.mpr c14
                have c14b1 : (t194.toList != t198.toList) = false := bne_eq_false_iff_eq.mpr c14
                clear c14
                by_cases c15 : (t194.size : Int) = ((a0 ++ (strOfNums y189)).size : Int)
                · rw [if_pos c15] at H
                  have c15b0 : ((t194.size : Int) == ((a0 ++ (strOfNums y189)).size : Int)) = true := beq_iff_eq.mpr c15
                  have c15b1 : ((t194.size : Int) != ((a0 ++ (strOfNums y189)).size : Int)) = false := bne_eq_false_iff_eq.mpr c15
                  have c15b2 : (t194.size == (a0 ++ (strOfNums y189)).size) = true := by first | simpa using c15 | (simp at c15 ⊢; omega)
                  have c15b3 : ((t194.size : Int) = (a0.size : Int) + ((strOfNums y189).size : Int)) = True := eq_true (by (try rw [ByteArray.size_append] at c15); omega)
                  clear c15
                  replace H := Option.bind_eq_some_iff.mp H
                  obtain ⟨t200, A160, H⟩ := H
                  replace H : (some t200) = some r := H
                  have A16 := Aside0.mk A160
                  clear A160
                  obtain rfl := Option.some.inj H
                  go_enter Try.func8, Try.ntmps8
                  go_wp2_with (first | ((with_reducible refine gate_dst (N := 16) rfl ?_); (try (refine gate_guard (by rfl) ?_; dsimp only)); refine Kd.R_make (Kd.int .u8) _ 5 rfl (N := 16) rfl 36 _ _ rfl 16 rfl rfl Try.underlying36 (.int .u8 0) 1 info5 rfl (by decide) (by omega) 0 (ok := fun _ => True) (okp := fun _ => True) rfl (fun _ hk => hk) trivial (by omega) (by omega) (Below.refl _ _) (Nat.le_refl _) ?_; intro v190 w17 ho18 hb hg_ hnew_; clear hg_ hnew_; (first | rw [← Ny189.out] at ho18 | (simp only [Int.reduceToNat] at ho18; rw [← Ny189.out] at ho18)); have n0_ := Aside0.mk (Kd.R_lower ho18 (below_size (by repeat (first | (with_reducible first | exact HB.out | apply below_alloc | apply pw_below_drewN | apply below_drew1) | exact HB.out)))); have n1_ := Aside0.mk (below_step (by repeat (first | (with_reducible first | exact HB.out | apply below_alloc | apply pw_below_drewN | apply below_drew1) | exact HB.out)) hb); clear HB; have HO191 := n0_; have HB := n1_; clear n0_ n1_; clear hb ho18; have hcv19 := own_string (P := Try.prog) Try.underlying36 Try.underlying5 Try.underlying9 (Kd.own_of_R HO191.out)) | ((with_reducible refine gate_callee (f := 14) rfl ?_); refine goesL_ (some 24) rfl rfl Try.func14 (by kernel_rfl) rfl #[.string (a0 ++ (strOfNums y189)), .int .i64 0, .int .u64 (Go.bits .and .u64 a1 65535), .int .i64 2, .bool a2] rfl (by (try simp only [List.map_toArray, List.map_cons, List.map_nil]); first | done | rfl | (simp only [List.length_drop, List.length_take]; rfl)) ?_; (with_reducible refine (words_Set.calls k (a0 ++ (strOfNums y189)) 0 (Go.bits .and .u64 a1 65535) 2 a2 t192 t193 _ A6.out).mono ?_); rintro e w20 ⟨rfl, hb⟩; refine ⟨_, rfl, ?_⟩; have n0_ := Aside0.mk (Kd.R_below (by (with_reducible repeat (first | apply Kd.R_alloc | apply Kd.R_drewN | apply Kd.R_drew)); exact HO191.out) hb); have n1_ := Aside0.mk (below_step (by repeat (first | (with_reducible first | exact HB.out | apply below_alloc | apply pw_below_drewN | apply below_drew1) | exact HB.out)) hb); clear HO191; clear HB; have HO191 := n0_; have HB := n1_; clear n0_ n1_; (try clear hb); (try clear hb2); (try clear hk); (try clear hi)) | ((with_reducible refine gate_callee (f := 14) rfl ?_); refine goesL_ (some 32) rfl rfl Try.func14 (by kernel_rfl) rfl #[.string t192, .int .i64 2, .int .u64 (Go.bits .and .u64 a1 255), .int .i64 1, .bool a2] rfl (by (try simp only [List.map_toArray, List.map_cons, List.map_nil]); first | done | rfl | (simp only [List.length_drop, List.length_take]; rfl)) ?_; (with_reducible refine (words_Set.calls k t192 2 (Go.bits .and .u64 a1 255) 1 a2 t194 t195 _ A7.out).mono ?_); rintro e w21 ⟨rfl, hb⟩; refine ⟨_, rfl, ?_⟩; have n0_ := Aside0.mk (Kd.R_below (by (with_reducible repeat (first | apply Kd.R_alloc | apply Kd.R_drewN | apply Kd.R_drew)); exact HO191.out) hb); have n1_ := Aside0.mk (below_step (by repeat (first | (with_reducible first | exact HB.out | apply below_alloc | apply pw_below_drewN | apply below_drew1) | exact HB.out)) hb); clear HO191; clear HB; have HO191 := n0_; have HB := n1_; clear n0_ n1_; (try clear hb); (try clear hb2); (try clear hk); (try clear hi)) | ((with_reducible refine gate_callee (f := 14) rfl ?_); refine goesL_ (some 40) rfl rfl Try.func14 (by kernel_rfl) rfl #[.string (a0 ++ (strOfNums y189)), .int .i64 2, .int .u64 (Go.bits .and .u64 a1 255), .int .i64 1, .bool a2] rfl (by (try simp only [List.map_toArray, List.map_cons, List.map_nil]); first | done | rfl | (simp only [List.length_drop, List.length_take]; rfl)) ?_; (with_reducible refine (words_Set.calls k (a0 ++ (strOfNums y189)) 2 (Go.bits .and .u64 a1 255) 1 a2 t196 t197 _ A8.out).mono ?_); rintro e w22 ⟨rfl, hb⟩; refine ⟨_, rfl, ?_⟩; have n0_ := Aside0.mk (Kd.R_below (by (with_reducible repeat (first | apply Kd.R_alloc | apply Kd.R_drewN | apply Kd.R_drew)); exact HO191.out) hb); have n1_ := Aside0.mk (below_step (by repeat (first | (with_reducible first | exact HB.out | apply below_alloc | apply pw_below_drewN | apply below_drew1) | exact HB.out)) hb); clear HO191; clear HB; have HO191 := n0_; have HB := n1_; clear n0_ n1_; (try clear hb); (try clear hb2); (try clear hk); (try clear hi)) | ((with_reducible refine gate_callee (f := 14) rfl ?_); refine goesL_ (some 48) rfl rfl Try.func14 (by kernel_rfl) rfl #[.string t196, .int .i64 0, .int .u64 (Go.bits .and .u64 a1 65535), .int .i64 2, .bool a2] rfl (by (try simp only [List.map_toArray, List.map_cons, List.map_nil]); first | done | rfl | (simp only [List.length_drop, List.length_take]; rfl)) ?_; (with_reducible refine (words_Set.calls k t196 0 (Go.bits .and .u64 a1 65535) 2 a2 t198 t199 _ A9.out).mono ?_); rintro e w23 ⟨rfl, hb⟩; refine ⟨_, rfl, ?_⟩; have n0_ := Aside0.mk (Kd.R_below (by (with_reducible repeat (first | apply Kd.R_alloc | apply Kd.R_drewN | apply Kd.R_drew)); exact HO191.out) hb); have n1_ := Aside0.mk (below_step (by repeat (first | (with_reducible first | exact HB.out | apply below_alloc | apply pw_below_drewN | apply below_drew1) | exact HB.out)) hb); clear HO191; clear HB; have HO191 := n0_; have HB := n1_; clear n0_ n1_; (try clear hb); (try clear hb2); (try clear hk); (try clear hi)) | (go_at_call 13; (with_reducible refine (aqueductlaw01_fixed.calls k  t200 _ A16.out).mono ?_); rintro e w24 ⟨rfl, hb⟩; have n0_ := Aside0.mk (Kd.R_below (by (with_reducible repeat (first | apply Kd.R_alloc | apply Kd.R_drewN | apply Kd.R_drew)); exact HO191.out) hb); have n1_ := Aside0.mk (below_step (by repeat (first | (with_reducible first | exact HB.out | apply below_alloc | apply pw_below_drewN | apply below_drew1) | exact HB.out)) hb); clear HO191; clear HB; have HO191 := n0_; have HB := n1_; clear n0_ n1_; (try clear hb); (try clear hb2); (try clear hk); (try clear hi)))
                  go_ret
                  exact ⟨by first | rfl | (simp [errW_none, errW_some] <;> rfl) | (simp [*, errW_none, errW_some] <;> rfl), by repeat (first | (with_reducible first | exact HB.out | apply below_alloc | apply pw_below_drewN | apply below_drew1) | exact HB.out)⟩
                · rw [if_neg c15] at H
                  have c15b0 : ((t194.size : Int) == ((a0 ++ (strOfNums y189)).size : Int)) = false := beq_eq_false_iff_ne.mpr c15
                  have c15b1 : ((t194.size : Int) != ((a0 ++ (strOfNums y189)).size : Int)) = true := bne_iff_ne.mpr c15
                  have c15b2 : (t194.size == (a0 ++ (strOfNums y189)).size) = false := by first | simpa using c15 | (simp at c15 ⊢; omega)
                  have c15b3 : ((t194.size : Int) = (a0.size : Int) + ((strOfNums y189).size : Int)) = False := eq_false (by (try rw [ByteArray.size_append] at c15); omega)
                  obtain rfl := Option.some.inj H
                  exact absurd HR_.out (by decide)
              · rw [if_neg c14] at H
                have c14b0 : (t194.toList == t198.toList) = false := beq_eq_false_iff_ne.mpr c14
                have c14b1 : (t194.toList != t198.toList) = true := bne_iff_ne.mpr c14
                obtain rfl := Option.some.inj H
                exact absurd HR_.out (by decide)
            · rw [if_neg c13] at H
              have c13b0 : (t199 == 0) = false := beq_eq_false_iff_ne.mpr c13
              have c13b1 : (t199 != 0) = true := bne_iff_ne.mpr c13
              obtain rfl := Option.some.inj H
              exact absurd HR_.out (by decide)
          · rw [if_neg c12] at H
            have c12b0 : (t197 == 0) = false := beq_eq_false_iff_ne.mpr c12
            have c12b1 : (t197 != 0) = true := bne_iff_ne.mpr c12
            obtain rfl := Option.some.inj H
            exact absurd HR_.out (by decide)
        · rw [if_neg c11] at H
          have c11b0 : (t195 == 0) = false := beq_eq_false_iff_ne.mpr c11
          have c11b1 : (t195 != 0) = true := bne_iff_ne.mpr c11
          obtain rfl := Option.some.inj H
          exact absurd HR_.out (by decide)
      · rw [if_neg c10] at H
        have c10b0 : (t193 == 0) = false := beq_eq_false_iff_ne.mpr c10
        have c10b1 : (t193 != 0) = true := bne_iff_ne.mpr c10
        obtain rfl := Option.some.inj H
        exact absurd HR_.out (by decide)
    · rw [if_neg c5] at H
      exact absurd H (by simp)
  · rw [if_neg c4] at H
    exact absurd H (by simp)

/-- THE ONE PURE STATEMENT of aqueductlaw01_WordsApart: yours. -/
def aqueductlaw01_WordsApart.Pure : Prop := ∀ (a0 : ByteArray) (a1 : Int) (a2 : Bool), a0.size ≤ 140737488351232 → (Lit.int .u64 a1).wf = true → ∃ k, aqueductlaw01_WordsApart.f k a0 a1 a2 = some true
theorem aqueductlaw01_WordsApart.walk (P : aqueductlaw01_WordsApart.Pure) (a0 : ByteArray) (a1 : Int) (a2 : Bool) (w : World) (w0 : a0.size ≤ 140737488351232) (w1 : (Lit.int .u64 a1).wf = true) :
    Calls Try.prog 8 #[.string a0, .int .u64 a1, .bool a2] w fun e w' => e = .returned (.bool true) ∧ Below w.heap.size w w' := by
  obtain ⟨k, h⟩ := P a0 a1 a2 w0 w1
  refine (aqueductlaw01_WordsApart.calls k a0 a1 a2 true w h rfl).mono ?_
  rintro e w' ⟨rfl, hd⟩
  exact ⟨rfl, hd⟩

end Go.Proofs.Ytamicgnpmhbdbaa.P
