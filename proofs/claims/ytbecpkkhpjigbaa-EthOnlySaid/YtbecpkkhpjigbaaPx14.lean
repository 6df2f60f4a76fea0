/- What functions of the program compute, each with the walk that shows it: by a program (a turned copy of the kit's print; wip/myprint.py). -/
import Derived.Test.YtbecpkkhpjigbaaPx0
import Derived.Test.YtbecpkkhpjigbaaPx8
import Derived.Test.YtbecpkkhpjigbaaPx17
import Derived.Test.YtbecpkkhpjigbaaHParse
namespace Go.Proofs.Ytbecpkkhpjigbaa.P
open Go.RowKit Go.Proofs.YtbecpkkhpjigbaaW.PrintWords Go.Proofs.YtbecpkkhpjigbaaW.PrintLast Go.Proofs.YtbecpkkhpjigbaaW.PrintMore
attribute [local go_sem] max2_int min2_int max_two min_two max_three min_three max_four min_four   -- for this text's walks alone
set_option linter.unusedVariables false
set_option linter.unusedSimpArgs false

/-! ### aqueductlaw06_EthOnly: function 7 -/
def aqueductlaw06_EthOnly.j0 : Nat → ByteArray → Int → ByteArray → ByteArray → Bool → Option (Bool)
  | 0, _, _, _, _, _ => none
  | k + 1, x0, x5, x6, x8, x39 => if x39 = true then ((aqueductlaw06_fixed.f k).bind fun t251 => (some t251)) else ((eth_Tag.f k x6 (-1)).bind fun bt252 => ((eth_Tag.f k x8 x5).bind fun bt254 => ((eth_Parse.f x0).bind fun bt256 => ((eth_Parse.f x6).bind fun bt264 => ((eth_Parse.f bt254.1).bind fun bt272 => (if bt256.2.2.2.2.2.2 = 0 then (if bt264.2.2.2.2.2.2 = 0 then (if bt252.2 = 0 then (if bt254.2 = 0 then (if bt272.2.2.2.2.2.2 = 0 then (if bt252.1.toList = x8.toList then (if (x6.size : Int) = (wrap64 ((x8.size : Int) + 4)) then (if bt264.2.2.1 = x5 then (if bt264.2.2.2.1 = bt256.2.2.2.1 then (if bt264.1.toList = bt256.1.toList then (if bt264.2.1.toList = bt256.2.1.toList then (if bt264.2.2.2.2.1 = bt256.2.2.2.2.1 then (if bt264.2.2.2.2.2.1.toList = bt256.2.2.2.2.2.1.toList then (if bt272.2.2.1 = x5 then (if bt272.2.2.2.2.2.1.toList = bt256.2.2.2.2.2.1.toList then ((aqueductlaw06_fixed.f k).bind fun t280 => (some t280)) else (some false)) else (some false)) else (some false)) else (some false)) else (some false)) else (some false)) else (some false)) else (some false)) else (some false)) else (some false)) else (some false)) else (some false)) else (some false)) else (some false)) else (some false)))))))
def aqueductlaw06_EthOnly.f (k : Nat) (a0 : ByteArray) (a1 : Int) : Option (Bool) := (eth_Tag.f k a0 (Int.tmod (Go.bits .and .i64 a1 65535) 4095)).bind fun bt247 => ((eth_Tag.f k a0 (-1)).bind fun bt249 => (if bt247.2 = 0 then (aqueductlaw06_EthOnly.j0 k a0 (Int.tmod (Go.bits .and .i64 a1 65535) 4095) bt247.1 bt249.1 (bt249.2 != 0)) else (aqueductlaw06_EthOnly.j0 k a0 (Int.tmod (Go.bits .and .i64 a1 65535) 4095) bt247.1 bt249.1 true)))
theorem aqueductlaw06_EthOnly.mono_l : ∀ k, (∀ y0 y1 y2 y3 y4, LeO (aqueductlaw06_EthOnly.j0 k y0 y1 y2 y3 y4) (aqueductlaw06_EthOnly.j0 (k + 1) y0 y1 y2 y3 y4))
  | 0 => fun _ _ _ _ _ r h => by simp [aqueductlaw06_EthOnly.j0] at h
  | k + 1 => by
    have ih0 := aqueductlaw06_EthOnly.mono_l k
    · intro y0 y1 y2 y3 y4
      unfold aqueductlaw06_EthOnly.j0
      repeat' first
      | (with_reducible exact ih0 _ _ _ _ _)
      | (with_reducible exact aqueductlaw06_fixed.mono _)
      | (with_reducible exact eth_Tag.mono _ _ _)
      | (with_reducible exact LeO.refl _)
      | (with_reducible exact LeO.none _)
      | (with_reducible refine LeO.ite ?_ ?_)
      | (with_reducible refine LeO.bind ?_ (fun _ => ?_))
      | exact ih0 _ _ _ _ _
      | exact aqueductlaw06_fixed.mono _
      | exact eth_Tag.mono _ _ _
      | exact LeO.none _
      | refine LeO.ite ?_ ?_
      | refine LeO.bind ?_ (fun _ => ?_)
theorem aqueductlaw06_EthOnly.mono : ∀ a0 a1 k, LeO (aqueductlaw06_EthOnly.f k a0 a1) (aqueductlaw06_EthOnly.f (k + 1) a0 a1) := by
  intro a0 a1 k
  have ih0 := aqueductlaw06_EthOnly.mono_l k
  unfold aqueductlaw06_EthOnly.f
  repeat' first
      | (with_reducible exact ih0 _ _ _ _ _)
      | (with_reducible exact aqueductlaw06_fixed.mono _)
      | (with_reducible exact eth_Tag.mono _ _ _)
      | (with_reducible exact LeO.refl _)
      | (with_reducible exact LeO.none _)
      | (with_reducible refine LeO.ite ?_ ?_)
      | (with_reducible refine LeO.bind ?_ (fun _ => ?_))
      | exact ih0 _ _ _ _ _
      | exact aqueductlaw06_fixed.mono _
      | exact eth_Tag.mono _ _ _
      | exact LeO.none _
      | refine LeO.ite ?_ ?_
      | refine LeO.bind ?_ (fun _ => ?_)
set_option maxHeartbeats 8000000 in
set_option maxRecDepth 100000 in
theorem aqueductlaw06_EthOnly.calls (k : Nat) (a0 : ByteArray) (a1 : Int) (r : Bool) (w : World) (h : aqueductlaw06_EthOnly.f k a0 a1 = some r) (hr_ : r = true) :
    Calls Try.prog 7 #[.string a0, .int .i64 a1] w fun e w' => e = .returned (.bool r) ∧ Below w.heap.size w w' := by
  have hu23 := Try.underlying23
  have HB := Aside0.mk (Below.refl w.heap.size w)
  have H : ((eth_Tag.f k a0 (Int.tmod (Go.bits .and .i64 a1 65535) 4095)).bind fun bt247 => ((eth_Tag.f k a0 (-1)).bind fun bt249 => (if bt247.2 = 0 then (aqueductlaw06_EthOnly.j0 k a0 (Int.tmod (Go.bits .and .i64 a1 65535) 4095) bt247.1 bt249.1 (bt249.2 != 0)) else (aqueductlaw06_EthOnly.j0 k a0 (Int.tmod (Go.bits .and .i64 a1 65535) 4095) bt247.1 bt249.1 true)))) = some r := h
  clear h
  have HR_ := Aside0.mk hr_
  clear hr_
  replace H := Option.bind_eq_some_iff.mp H
  obtain ⟨⟨t247, t248⟩, A30, H⟩ := H
  replace H : ((eth_Tag.f k a0 (-1)).bind fun bt249 => (if t248 = 0 then (aqueductlaw06_EthOnly.j0 k a0 (Int.tmod (Go.bits .and .i64 a1 65535) 4095) t247 bt249.1 (bt249.2 != 0)) else (aqueductlaw06_EthOnly.j0 k a0 (Int.tmod (Go.bits .and .i64 a1 65535) 4095) t247 bt249.1 true))) = some r := H
  have A3 := Aside0.mk A30
  clear A30
  replace H := Option.bind_eq_some_iff.mp H
  obtain ⟨⟨t249, t250⟩, A40, H⟩ := H
  replace H : (if t248 = 0 then (aqueductlaw06_EthOnly.j0 k a0 (Int.tmod (Go.bits .and .i64 a1 65535) 4095) t247 t249 (t250 != 0)) else (aqueductlaw06_EthOnly.j0 k a0 (Int.tmod (Go.bits .and .i64 a1 65535) 4095) t247 t249 true)) = some r := H
  have A4 := Aside0.mk A40
  clear A40
  have HC5 := Aside0.mk H
  clear H
  go_enter Try.func7, Try.ntmps7
  go_upto_region 4 with (first | ((with_reducible refine gate_callee (f := 15) rfl ?_); refine goesL_ (some 26) rfl rfl Try.func15 (by kernel_rfl) rfl #[.string a0, .int .i64 (Int.tmod (Go.bits .and .i64 a1 65535) 4095)] rfl (by (try simp only [List.map_toArray, List.map_cons, List.map_nil]); first | done | rfl | (simp only [List.length_drop, List.length_take]; rfl)) ?_; (with_reducible refine (eth_Tag.calls k a0 (Int.tmod (Go.bits .and .i64 a1 65535) 4095) t247 t248 _ A3.out).mono ?_); rintro e w6 ⟨rfl, hb⟩; refine ⟨_, rfl, ?_⟩; have n0_ := Aside0.mk (below_step (by repeat (first | (with_reducible first | exact HB.out | apply below_alloc | apply pw_below_drewN | apply below_drew1) | exact HB.out)) hb); clear HB; have HB := n0_; clear n0_; (try clear hb); (try clear hb2); (try clear hk); (try clear hi)) | ((with_reducible refine gate_callee (f := 15) rfl ?_); refine goesL_ (some 31) rfl rfl Try.func15 (by kernel_rfl) rfl #[.string a0, .int .i64 (-1)] rfl (by (try simp only [List.map_toArray, List.map_cons, List.map_nil]); first | done | rfl | (simp only [List.length_drop, List.length_take]; rfl)) ?_; (with_reducible refine (eth_Tag.calls k a0 (-1) t249 t250 _ A4.out).mono ?_); rintro e w7 ⟨rfl, hb⟩; refine ⟨_, rfl, ?_⟩; have n0_ := Aside0.mk (below_step (by repeat (first | (with_reducible first | exact HB.out | apply below_alloc | apply pw_below_drewN | apply below_drew1) | exact HB.out)) hb); clear HB; have HB := n0_; clear n0_; (try clear hb); (try clear hb2); (try clear hk); (try clear hi)))
  (try simp only [Act.put, List.setIfInBounds_toArray, List.set_cons_zero, List.set_cons_succ])
  go_cut [39] (fun v39 wc => ∃ (kq : Nat) (x39_4 : Bool), v39 = .bool x39_4 ∧ Aside0 (aqueductlaw06_EthOnly.j0 kq a0 (Int.tmod (Go.bits .and .i64 a1 65535) 4095) t247 t249 x39_4 = some r) ∧ Aside0 (kq ≤ k) ∧ Aside0 (Below w.heap.size w wc))
  case first =>
    have H := HC5.out
    clear HC5
    by_cases c8 : t248 = 0
    · rw [if_pos c8] at H
      have c8b0 : (t248 == 0) = true := beq_iff_eq.mpr c8
      have c8b1 : (t248 != 0) = false := bne_eq_false_iff_eq.mpr c8
      clear c8
      (first | rw [c8b0] | (simp only [i64_w, i32_w]; rw [c8b0]) | skip)
      have H' := Aside0.mk H
      clear H
      go_wp2
      go_meet
      case rel => exact ⟨_, ((t250 != 0)), (by first | rfl | (simp; done) | (simp [*]; done)), H', ⟨by first | omega | exact Nat.le_refl _⟩, ⟨by repeat (first | (with_reducible first | exact HB.out | apply below_alloc | apply pw_below_drewN | apply below_drew1) | exact HB.out)⟩⟩
    · rw [if_neg c8] at H
      have c8b0 : (t248 == 0) = false := beq_eq_false_iff_ne.mpr c8
      have c8b1 : (t248 != 0) = true := bne_iff_ne.mpr c8
      (first | rw [c8b0] | (simp only [i64_w, i32_w]; rw [c8b0]) | skip)
      have H' := Aside0.mk H
      clear H
      go_wp2
      go_meet
      case rel => exact ⟨_, (true), (by first | rfl | (simp; done) | (simp [*]; done)), H', ⟨by first | omega | exact Nat.le_refl _⟩, ⟨by repeat (first | (with_reducible first | exact HB.out | apply below_alloc | apply pw_below_drewN | apply below_drew1) | exact HB.out)⟩⟩
  case rest =>
    clear HC5
    try clear c1
    try clear p2
    try clear c7
    try clear c8
    try clear c8b0
    try clear c8b1
    obtain ⟨kq, x39_4, rfl, HA, HJ4, HB⟩ := hcut
    cases kq with
    | zero => exact absurd HA.out (by simp [aqueductlaw06_EthOnly.j0])
    | succ kj4 =>
      have H := HA.out
      clear HA
      simp only [aqueductlaw06_EthOnly.j0] at H
      by_cases c9 : x39_4 = true
      · subst c9
        have H1 : ((aqueductlaw06_fixed.f kj4).bind fun t251 => (some t251)) = some r := by rw [if_pos rfl] at H; exact H
        clear H
        have H := H1
        clear H1
        replace H := Option.bind_eq_some_iff.mp H
        obtain ⟨t251, A100, H⟩ := H
        replace H : (some t251) = some r := H
        have A10 := Aside0.mk A100
        clear A100
        obtain rfl := Option.some.inj H
        go_wp2_with (first | ((with_reducible refine gate_callee (f := 12) rfl ?_); refine goesL_ (some 40) rfl rfl Try.func12 (by kernel_rfl) rfl #[] rfl (by (try simp only [List.map_toArray, List.map_cons, List.map_nil]); first | done | rfl | (simp only [List.length_drop, List.length_take]; rfl)) ?_; (with_reducible refine (aqueductlaw06_fixed.calls kj4  t251 _ A10.out).mono ?_); rintro e w11 ⟨rfl, hb⟩; refine ⟨_, rfl, ?_⟩; have n0_ := Aside0.mk (below_step (by repeat (first | (with_reducible first | exact HB.out | apply below_alloc | apply pw_below_drewN | apply below_drew1) | exact HB.out)) hb); clear HB; have HB := n0_; clear n0_; (try clear hb); (try clear hb2); (try clear hk); (try clear hi)))
        go_ret
        exact ⟨by first | rfl | (simp [errW_none, errW_some] <;> rfl) | (simp [*, errW_none, errW_some] <;> rfl) | (exfalso; simp_all), by repeat (first | (with_reducible first | exact HB.out | apply below_alloc | apply pw_below_drewN | apply below_drew1) | exact HB.out)⟩
      · replace c9 := Bool.eq_false_iff.mpr c9
        subst c9
        have H1 : ((eth_Tag.f kj4 t247 (-1)).bind fun bt252 => ((eth_Tag.f kj4 t249 (Int.tmod (Go.bits .and .i64 a1 65535) 4095)).bind fun bt254 => ((eth_Parse.f a0).bind fun bt256 => ((eth_Parse.f t247).bind fun bt264 => ((eth_Parse.f bt254.1).bind fun bt272 => (if bt256.2.2.2.2.2.2 = 0 then (if bt264.2.2.2.2.2.2 = 0 then (if bt252.2 = 0 then (if bt254.2 = 0 then (if bt272.2.2.2.2.2.2 = 0 then (if bt252.1.toList = t249.toList then (if (t247.size : Int) = (wrap64 ((t249.size : Int) + 4)) then (if bt264.2.2.1 = (Int.tmod (Go.bits .and .i64 a1 65535) 4095) then (if bt264.2.2.2.1 = bt256.2.2.2.1 then (if bt264.1.toList = bt256.1.toList then (if bt264.2.1.toList = bt256.2.1.toList then (if bt264.2.2.2.2.1 = bt256.2.2.2.2.1 then (if bt264.2.2.2.2.2.1.toList = bt256.2.2.2.2.2.1.toList then (if bt272.2.2.1 = (Int.tmod (Go.bits .and .i64 a1 65535) 4095) then (if bt272.2.2.2.2.2.1.toList = bt256.2.2.2.2.2.1.toList then ((aqueductlaw06_fixed.f kj4).bind fun t280 => (some t280)) else (some false)) else (some false)) else (some false)) else (some false)) else (some false)) else (some false)) else (some false)) else (some false)) else (some false)) else (some false)) else (some false)) else (some false)) else (some false)) else (some false)) else (some false))))))) = some r := by rw [if_neg (show ¬ (false = true) by decide)] at H; exact H
        clear H
        have H := H1
        clear H1
        replace H := Option.bind_eq_some_iff.mp H
        obtain ⟨⟨t252, t253⟩, A120, H⟩ := H
        replace H : ((eth_Tag.f kj4 t249 (Int.tmod (Go.bits .and .i64 a1 65535) 4095)).bind fun bt254 => ((eth_Parse.f a0).bind fun bt256 => ((eth_Parse.f t247).bind fun bt264 => ((eth_Parse.f bt254.1).bind fun bt272 => (if bt256.2.2.2.2.2.2 = 0 then (if bt264.2.2.2.2.2.2 = 0 then (if t253 = 0 then (if bt254.2 = 0 then (if bt272.2.2.2.2.2.2 = 0 then (if t252.toList = t249.toList then (if (t247.size : Int) = (wrap64 ((t249.size : Int) + 4)) then (if bt264.2.2.1 = (Int.tmod (Go.bits .and .i64 a1 65535) 4095) then (if bt264.2.2.2.1 = bt256.2.2.2.1 then (if bt264.1.toList = bt256.1.toList then (if bt264.2.1.toList = bt256.2.1.toList then (if bt264.2.2.2.2.1 = bt256.2.2.2.2.1 then (if bt264.2.2.2.2.2.1.toList = bt256.2.2.2.2.2.1.toList then (if bt272.2.2.1 = (Int.tmod (Go.bits .and .i64 a1 65535) 4095) then (if bt272.2.2.2.2.2.1.toList = bt256.2.2.2.2.2.1.toList then ((aqueductlaw06_fixed.f kj4).bind fun t280 => (some t280)) else (some false)) else (some false)) else (some false)) else (some false)) else (some false)) else (some false)) else (some false)) else (some false)) else (some false)) else (some false)) else (some false)) else (some false)) else (some false)) else (some false)) else (some false)))))) = some r := H
        have A12 := Aside0.mk A120
        clear A120
        replace H := Option.bind_eq_some_iff.mp H
        obtain ⟨⟨t254, t255⟩, A130, H⟩ := H
        replace H : ((eth_Parse.f a0).bind fun bt256 => ((eth_Parse.f t247).bind fun bt264 => ((eth_Parse.f t254).bind fun bt272 => (if bt256.2.2.2.2.2.2 = 0 then (if bt264.2.2.2.2.2.2 = 0 then (if t253 = 0 then (if t255 = 0 then (if bt272.2.2.2.2.2.2 = 0 then (if t252.toList = t249.toList then (if (t247.size : Int) = (wrap64 ((t249.size : Int) + 4)) then (if bt264.2.2.1 = (Int.tmod (Go.bits .and .i64 a1 65535) 4095) then (if bt264.2.2.2.1 = bt256.2.2.2.1 then (if bt264.1.toList = bt256.1.toList then (if bt264.2.1.toList = bt256.2.1.toList then (if bt264.2.2.2.2.1 = bt256.2.2.2.2.1 then (if bt264.2.2.2.2.2.1.toList = bt256.2.2.2.2.2.1.toList then (if bt272.2.2.1 = (Int.tmod (Go.bits .and .i64 a1 65535) 4095) then (if bt272.2.2.2.2.2.1.toList = bt256.2.2.2.2.2.1.toList then ((aqueductlaw06_fixed.f kj4).bind fun t280 => (some t280)) else (some false)) else (some false)) else (some false)) else (some false)) else (some false)) else (some false)) else (some false)) else (some false)) else (some false)) else (some false)) else (some false)) else (some false)) else (some false)) else (some false)) else (some false))))) = some r := H
        have A13 := Aside0.mk A130
        clear A130
        replace H := Option.bind_eq_some_iff.mp H
        obtain ⟨⟨t256, t257, t258, t259, t260, t261, t262⟩, A140, H⟩ := H
        replace H : ((eth_Parse.f t247).bind fun bt264 => ((eth_Parse.f t254).bind fun bt272 => (if t262 = 0 then (if bt264.2.2.2.2.2.2 = 0 then (if t253 = 0 then (if t255 = 0 then (if bt272.2.2.2.2.2.2 = 0 then (if t252.toList = t249.toList then (if (t247.size : Int) = (wrap64 ((t249.size : Int) + 4)) then (if bt264.2.2.1 = (Int.tmod (Go.bits .and .i64 a1 65535) 4095) then (if bt264.2.2.2.1 = t259 then (if bt264.1.toList = t256.toList then (if bt264.2.1.toList = t257.toList then (if bt264.2.2.2.2.1 = t260 then (if bt264.2.2.2.2.2.1.toList = t261.toList then (if bt272.2.2.1 = (Int.tmod (Go.bits .and .i64 a1 65535) 4095) then (if bt272.2.2.2.2.2.1.toList = t261.toList then ((aqueductlaw06_fixed.f kj4).bind fun t280 => (some t280)) else (some false)) else (some false)) else (some false)) else (some false)) else (some false)) else (some false)) else (some false)) else (some false)) else (some false)) else (some false)) else (some false)) else (some false)) else (some false)) else (some false)) else (some false)))) = some r := H
        have A14 := Aside0.mk A140
        clear A140
        replace H := Option.bind_eq_some_iff.mp H
        obtain ⟨⟨t264, t265, t266, t267, t268, t269, t270⟩, A150, H⟩ := H
        replace H : ((eth_Parse.f t254).bind fun bt272 => (if t262 = 0 then (if t270 = 0 then (if t253 = 0 then (if t255 = 0 then (if bt272.2.2.2.2.2.2 = 0 then (if t252.toList = t249.toList then (if (t247.size : Int) = (wrap64 ((t249.size : Int) + 4)) then (if t266 = (Int.tmod (Go.bits .and .i64 a1 65535) 4095) then (if t267 = t259 then (if t264.toList = t256.toList then (if t265.toList = t257.toList then (if t268 = t260 then (if t269.toList = t261.toList then (if bt272.2.2.1 = (Int.tmod (Go.bits .and .i64 a1 65535) 4095) then (if bt272.2.2.2.2.2.1.toList = t261.toList then ((aqueductlaw06_fixed.f kj4).bind fun t280 => (some t280)) else (some false)) else (some false)) else (some false)) else (some false)) else (some false)) else (some false)) else (some false)) else (some false)) else (some false)) else (some false)) else (some false)) else (some false)) else (some false)) else (some false)) else (some false))) = some r := H
        have A15 := Aside0.mk A150
        clear A150
        replace H := Option.bind_eq_some_iff.mp H
        obtain ⟨⟨t272, t273, t274, t275, t276, t277, t278⟩, A160, H⟩ := H
        replace H : (if t262 = 0 then (if t270 = 0 then (if t253 = 0 then (if t255 = 0 then (if t278 = 0 then (if t252.toList = t249.toList then (if (t247.size : Int) = (wrap64 ((t249.size : Int) + 4)) then (if t266 = (Int.tmod (Go.bits .and .i64 a1 65535) 4095) then (if t267 = t259 then (if t264.toList = t256.toList then (if t265.toList = t257.toList then (if t268 = t260 then (if t269.toList = t261.toList then (if t274 = (Int.tmod (Go.bits .and .i64 a1 65535) 4095) then (if t277.toList = t261.toList then ((aqueductlaw06_fixed.f kj4).bind fun t280 => (some t280)) else (some false)) else (some false)) else (some false)) else (some false)) else (some false)) else (some false)) else (some false)) else (some false)) else (some false)) else (some false)) else (some false)) else (some false)) else (some false)) else (some false)) else (some false)) = some r := H
        have A16 := Aside0.mk A160
        clear A160
        by_cases c17 : t262 = 0
        · rw [if_pos c17] at H
          have c17b0 : (t262 == 0) = true := beq_iff_eq.mpr c17
          have c17b1 : (t262 != 0) = false := bne_eq_false_iff_eq.mpr c17
          clear c17
          by_cases c18 : t270 = 0
          · rw [if_pos c18] at H
            have c18b0 : (t270 == 0) = true := beq_iff_eq.mpr c18
            have c18b1 : (t270 != 0) = false := bne_eq_false_iff_eq.mpr c18
            clear c18
            by_cases c19 : t253 = 0
            · rw [if_pos c19] at H
              have c19b0 : (t253 == 0) = true := beq_iff_eq.mpr c19
              have c19b1 : (t253 != 0) = false := bne_eq_false_iff_eq.mpr c19
              clear c19
              by_cases c20 : t255 = 0
              · rw [if_pos c20] at H
                have c20b0 : (t255 == 0) = true := beq_iff_eq.mpr c20
                have c20b1 : (t255 != 0) = false := bne_eq_false_iff_eq.mpr c20
                clear c20
                by_cases c21 : t278 = 0
                · rw [if_pos c21] at H
                  have c21b0 : (t278 == 0) = true := beq_iff_eq.mpr c21
                  have c21b1 : (t278 != 0) = false := bne_eq_false_iff_eq.mpr c21
                  clear c21
                  by_cases c22 : t252.toList = t249.toList
                  · rw [if_pos c22] at H
                    have c22b0 : (t252.toList == t249.toList) = true := beq_iff_eq.mpr c22
                    have c22b1 : (t252.toList != t249.toList) = false := bne_eq_false_iff_eq.mpr c22
                    clear c22
                    by_cases c23 : (t247.size : Int) = (wrap64 ((t249.size : Int) + 4))
                    · rw [if_pos c23] at H
                      have c23b0 : ((t247.size : Int) == (wrap64 ((t249.size : Int) + 4))) = true := beq_iff_eq.mpr c23
                      have c23b1 : ((t247.size : Int) != (wrap64 ((t249.size : Int) + 4))) = false := bne_eq_false_iff_eq.mpr c23
                      clear c23
                      by_cases c24 : t266 = (Int.tmod (Go.bits .and .i64 a1 65535) 4095)
                      · rw [if_pos c24] at H
                        have c24b0 : (t266 == (Int.tmod (Go.bits .and .i64 a1 65535) 4095)) = true := beq_iff_eq.mpr c24
                        have c24b1 : (t266 != (Int.tmod (Go.bits .and .i64 a1 65535) 4095)) = false := bne_eq_false_iff_eq.mpr c24
                        clear c24
                        by_cases c25 : t267 = t259
                        · rw [if_pos c25] at H
                          have c25b0 : (t267 == t259) = true := beq_iff_eq.mpr c25
                          have c25b1 : (t267 != t259) = false := bne_eq_false_iff_eq.mpr c25
                          clear c25
                          by_cases c26 : t264.toList = t256.toList
                          · rw [if_pos c26] at H
                            have c26b0 : (t264.toList == t256.toList) = true := beq_iff_eq.mpr c26
                            have c26b1 : (t264.toList != t256.toList) = false := bne_eq_false_iff_eq.mpr c26
                            clear c26
                            by_cases c27 : t265.toList = t257.toList
                            · rw [if_pos c27] at H
                              have c27b0 : (t265.toList == t257.toList) = true := beq_iff_eq.mpr c27
                              have c27b1 : (t265.toList != t257.toList) = false := bne_eq_false_iff_eq.mpr c27
                              clear c27
                              by_cases c28 : t268 = t260
                              · rw [if_pos c28] at H
                                have c28b0 : (t268 == t260) = true := beq_iff_eq.mpr c28
                                have c28b1 : (t268 != t260) = false := bne_eq_false_iff_eq.mpr c28
                                clear c28
                                by_cases c29 : t269.toList = t261.toList
                                · rw [if_pos c29] at H
                                  have c29b0 : (t269.toList == t261.toList) = true := beq_iff_eq.mpr c29
                                  have c29b1 : (t269.toList != t261.toList) = false := bne_eq_false_iff_eq.mpr c29
                                  clear c29
                                  by_cases c30 : t274 = (Int.tmod (Go.bits .and .i64 a1 65535) 4095)
                                  · rw [if_pos c30] at H
                                    have c30b0 : (t274 == (Int.tmod (Go.bits .and .i64 a1 65535) 4095)) = true := beq_iff_eq.mpr c30
                                    have c30b1 : (t274 != (Int.tmod (Go.bits .and .i64 a1 65535) 4095)) = false := bne_eq_false_iff_eq.mpr c30
                                    clear c30
                                    by_cases c31 : t277.toList = t261.toList
                                    · rw [if_pos c31] at H
                                      have c31b0 : (t277.toList == t261.toList) = true := beq_iff_eq.mpr c31
                                      have c31b1 : (t277.toList != t261.toList) = false := bne_eq_false_iff_eq.mpr c31
                                      clear c31
                                      replace H := Option.bind_eq_some_iff.mp H
                                      obtain ⟨t280, A320, H⟩ := H
                                      replace H : (some t280) = some r := H
                                      have A32 := Aside0.mk A320
                                      clear A320
                                      obtain rfl := Option.some.inj H
                                      go_wp2_with (first | ((with_reducible refine gate_callee (f := 15) rfl ?_); refine goesL_ (some 43) rfl rfl Try.func15 (by kernel_rfl) rfl #[.string t247, .int .i64 (-1)] rfl (by (try simp only [List.map_toArray, List.map_cons, List.map_nil]); first | done | rfl | (simp only [List.length_drop, List.length_take]; rfl)) ?_; (with_reducible refine (eth_Tag.calls kj4 t247 (-1) t252 t253 _ A12.out).mono ?_); rintro e w33 ⟨rfl, hb⟩; refine ⟨_, rfl, ?_⟩; have n0_ := Aside0.mk (below_step (by repeat (first | (with_reducible first | exact HB.out | apply below_alloc | apply pw_below_drewN | apply below_drew1) | exact HB.out)) hb); clear HB; have HB := n0_; clear n0_; (try clear hb); (try clear hb2); (try clear hk); (try clear hi)) | ((with_reducible refine gate_callee (f := 15) rfl ?_); refine goesL_ (some 49) rfl rfl Try.func15 (by kernel_rfl) rfl #[.string t249, .int .i64 (Int.tmod (Go.bits .and .i64 a1 65535) 4095)] rfl (by (try simp only [List.map_toArray, List.map_cons, List.map_nil]); first | done | rfl | (simp only [List.length_drop, List.length_take]; rfl)) ?_; (with_reducible refine (eth_Tag.calls kj4 t249 (Int.tmod (Go.bits .and .i64 a1 65535) 4095) t254 t255 _ A13.out).mono ?_); rintro e w34 ⟨rfl, hb⟩; refine ⟨_, rfl, ?_⟩; have n0_ := Aside0.mk (below_step (by repeat (first | (with_reducible first | exact HB.out | apply below_alloc | apply pw_below_drewN | apply below_drew1) | exact HB.out)) hb); clear HB; have HB := n0_; clear n0_; (try clear hb); (try clear hb2); (try clear hk); (try clear hi)) | ((with_reducible refine gate_callee (f := 10) rfl ?_); refine goesL_ (some 54) rfl rfl Try.func10 (by kernel_rfl) rfl #[.string a0] rfl (by (try simp only [List.map_toArray, List.map_cons, List.map_nil]); first | done | rfl | (simp only [List.length_drop, List.length_take]; rfl)) ?_; (with_reducible refine (eth_Parse.calls a0 t256 t257 t258 t259 t260 t261 t262 _ A14.out).mono ?_); rintro e w35 ⟨rfl, hb⟩; refine ⟨_, rfl, ?_⟩; have n0_ := Aside0.mk (below_step (by repeat (first | (with_reducible first | exact HB.out | apply below_alloc | apply pw_below_drewN | apply below_drew1) | exact HB.out)) hb); clear HB; have HB := n0_; clear n0_; (try clear hb); (try clear hb2); (try clear hk); (try clear hi)) | ((with_reducible refine gate_dst (N := 14) rfl ?_); (try (refine gate_guard (by rfl) ?_; dsimp only)); refine box_event ?hg (N := 14) ?hd (cs := #[.string (⟨#[]⟩ : ByteArray), .string (⟨#[]⟩ : ByteArray), .int .i64 0, .int .i64 0, .int .i64 0, .string (⟨#[]⟩ : ByteArray)]) (t := 23) ?hr ?_; (case hd => rfl); (case hg => rfl); (case hr => first | (go_simp; done) | (go_simp; rfl)); intro gb263 hg w36 hbox hb; have n0_ := Aside0.mk (below_step (by repeat (first | (with_reducible first | exact HB.out | apply below_alloc | apply pw_below_drewN | apply below_drew1) | exact HB.out)) hb); have n1_ := Aside0.mk (hbox); have n2_ := Aside0.mk ((by rw [hg]; exact (below_size (by repeat (first | (with_reducible first | exact HB.out | apply below_alloc | apply pw_below_drewN | apply below_drew1) | exact HB.out))) : w.heap.size ≤ gb263)); have n3_ := Aside0.mk ((by rw [hg]; exact (below_size (by repeat (first | (with_reducible first | exact HB.out | apply below_alloc | apply pw_below_drewN | apply below_drew1) | exact HB.out))) : w.heap.size ≤ gb263)); clear HB; have HB := n0_; have BK263 := n1_; have GW263 := n2_; have GE263 := n3_; clear n0_ n1_ n2_ n3_; clear hb hbox hg; have hcz37_0 : w36.cell? ⟨gb263, 0, none⟩ = some (.string (⟨#[]⟩ : ByteArray)) := (blk_cell BK263.out 0).trans rfl; have hcz37_1 : w36.cell? ⟨gb263, 1, none⟩ = some (.string (⟨#[]⟩ : ByteArray)) := (blk_cell BK263.out 1).trans rfl; have hcz37_2 : w36.cell? ⟨gb263, 2, none⟩ = some (.int .i64 0) := (blk_cell BK263.out 2).trans rfl; have hcz37_3 : w36.cell? ⟨gb263, 3, none⟩ = some (.int .i64 0) := (blk_cell BK263.out 3).trans rfl; have hcz37_4 : w36.cell? ⟨gb263, 4, none⟩ = some (.int .i64 0) := (blk_cell BK263.out 4).trans rfl; have hcz37_5 : w36.cell? ⟨gb263, 5, none⟩ = some (.string (⟨#[]⟩ : ByteArray)) := (blk_cell BK263.out 5).trans rfl; have hfz37_0 := blk_frozen BK263.out 0; have hfz37_1 := blk_frozen BK263.out 1; have hfz37_2 := blk_frozen BK263.out 2; have hfz37_3 := blk_frozen BK263.out 3; have hfz37_4 := blk_frozen BK263.out 4; have hfz37_5 := blk_frozen BK263.out 5) | ((with_reducible refine gate_callee (f := 10) rfl ?_); refine goesL_ (some 59) rfl rfl Try.func10 (by kernel_rfl) rfl #[.string t247] rfl (by (try simp only [List.map_toArray, List.map_cons, List.map_nil]); first | done | rfl | (simp only [List.length_drop, List.length_take]; rfl)) ?_; (with_reducible refine (eth_Parse.calls t247 t264 t265 t266 t267 t268 t269 t270 _ A15.out).mono ?_); rintro e w38 ⟨rfl, hb⟩; refine ⟨_, rfl, ?_⟩; have n0_ := Aside0.mk (blk_below (g := gb263) (o := .cells #[.string t256, .string t257, .int .i64 t258, .int .i64 t259, .int .i64 t260, .string t261] 23 (0, 0)) (by (with_reducible repeat (first | refine blk_drewN ?_ _ | refine blk_drew ?_ | refine blk_alloc ?_ _)); refine blk_put (cs := #[.string t256, .string t257, .int .i64 t258, .int .i64 t259, .int .i64 t260, .string (⟨#[]⟩ : ByteArray)]) ?_ 5 _ rfl; (with_reducible repeat (first | refine blk_drewN ?_ _ | refine blk_drew ?_ | refine blk_alloc ?_ _)); refine blk_put (cs := #[.string t256, .string t257, .int .i64 t258, .int .i64 t259, .int .i64 0, .string (⟨#[]⟩ : ByteArray)]) ?_ 4 _ rfl; (with_reducible repeat (first | refine blk_drewN ?_ _ | refine blk_drew ?_ | refine blk_alloc ?_ _)); refine blk_put (cs := #[.string t256, .string t257, .int .i64 t258, .int .i64 0, .int .i64 0, .string (⟨#[]⟩ : ByteArray)]) ?_ 3 _ rfl; (with_reducible repeat (first | refine blk_drewN ?_ _ | refine blk_drew ?_ | refine blk_alloc ?_ _)); refine blk_put (cs := #[.string t256, .string t257, .int .i64 0, .int .i64 0, .int .i64 0, .string (⟨#[]⟩ : ByteArray)]) ?_ 2 _ rfl; (with_reducible repeat (first | refine blk_drewN ?_ _ | refine blk_drew ?_ | refine blk_alloc ?_ _)); refine blk_put (cs := #[.string t256, .string (⟨#[]⟩ : ByteArray), .int .i64 0, .int .i64 0, .int .i64 0, .string (⟨#[]⟩ : ByteArray)]) ?_ 1 _ rfl; (with_reducible repeat (first | refine blk_drewN ?_ _ | refine blk_drew ?_ | refine blk_alloc ?_ _)); refine blk_put (cs := #[.string (⟨#[]⟩ : ByteArray), .string (⟨#[]⟩ : ByteArray), .int .i64 0, .int .i64 0, .int .i64 0, .string (⟨#[]⟩ : ByteArray)]) ?_ 0 _ rfl; (with_reducible repeat (first | refine blk_drewN ?_ _ | refine blk_drew ?_ | refine blk_alloc ?_ _)); exact BK263.out) hb); have n1_ := Aside0.mk (below_step (by repeat (first | (with_reducible first | exact HB.out | apply below_alloc | apply pw_below_drewN | apply below_drew1 | refine below_set ?_ GE263.out) | exact HB.out)) hb); clear BK263; clear HB; have BK263 := n0_; have HB := n1_; clear n0_ n1_; (try clear hb); (try clear hb2); (try clear hk); (try clear hi)) | ((with_reducible refine gate_dst (N := 16) rfl ?_); (try (refine gate_guard (by rfl) ?_; dsimp only)); refine box_event ?hg (N := 16) ?hd (cs := #[.string (⟨#[]⟩ : ByteArray), .string (⟨#[]⟩ : ByteArray), .int .i64 0, .int .i64 0, .int .i64 0, .string (⟨#[]⟩ : ByteArray)]) (t := 23) ?hr ?_; (case hd => rfl); (case hg => rfl); (case hr => first | (go_simp; done) | (go_simp; rfl)); intro gb271 hg w39 hbox hb; have n0_ := Aside0.mk (blk_below (g := gb263) (o := .cells #[.string t256, .string t257, .int .i64 t258, .int .i64 t259, .int .i64 t260, .string t261] 23 (0, 0)) (by (with_reducible repeat (first | refine blk_drewN ?_ _ | refine blk_drew ?_ | refine blk_alloc ?_ _)); exact BK263.out) hb); have n1_ := Aside0.mk (below_step (by repeat (first | (with_reducible first | exact HB.out | apply below_alloc | apply pw_below_drewN | apply below_drew1 | refine below_set ?_ GE263.out) | exact HB.out)) hb); have n2_ := Aside0.mk (hbox); have n3_ := Aside0.mk ((by rw [hg]; exact (below_size (by repeat (first | (with_reducible first | exact HB.out | apply below_alloc | apply pw_below_drewN | apply below_drew1 | refine below_set ?_ GE263.out) | exact HB.out))) : w.heap.size ≤ gb271)); have n4_ := Aside0.mk ((by rw [hg]; exact (below_size (by repeat (first | (with_reducible first | exact HB.out | apply below_alloc | apply pw_below_drewN | apply below_drew1 | refine below_set ?_ GE263.out) | exact HB.out))) : w.heap.size ≤ gb271)); have n5_ := Aside0.mk ((by rw [hg]; exact Nat.ne_of_lt (blk_lt (g := gb263) (o := .cells #[.string t256, .string t257, .int .i64 t258, .int .i64 t259, .int .i64 t260, .string t261] 23 (0, 0)) (by (with_reducible repeat (first | refine blk_drewN ?_ _ | refine blk_drew ?_ | refine blk_alloc ?_ _)); exact BK263.out)) : gb263 ≠ gb271)); have n6_ := Aside0.mk ((by rw [hg]; exact Nat.ne_of_gt (blk_lt (g := gb263) (o := .cells #[.string t256, .string t257, .int .i64 t258, .int .i64 t259, .int .i64 t260, .string t261] 23 (0, 0)) (by (with_reducible repeat (first | refine blk_drewN ?_ _ | refine blk_drew ?_ | refine blk_alloc ?_ _)); exact BK263.out)) : gb271 ≠ gb263)); clear BK263; clear HB; have BK263 := n0_; have HB := n1_; have BK271 := n2_; have GW271 := n3_; have GE271 := n4_; have NB263_271 := n5_; have NB271_263 := n6_; clear n0_ n1_ n2_ n3_ n4_ n5_ n6_; clear hb hbox hg; have hnb40 := NB271_263.out; have hnc40 := NB263_271.out; have hcz41_0 : w39.cell? ⟨gb271, 0, none⟩ = some (.string (⟨#[]⟩ : ByteArray)) := (blk_cell BK271.out 0).trans rfl; have hcz41_1 : w39.cell? ⟨gb271, 1, none⟩ = some (.string (⟨#[]⟩ : ByteArray)) := (blk_cell BK271.out 1).trans rfl; have hcz41_2 : w39.cell? ⟨gb271, 2, none⟩ = some (.int .i64 0) := (blk_cell BK271.out 2).trans rfl; have hcz41_3 : w39.cell? ⟨gb271, 3, none⟩ = some (.int .i64 0) := (blk_cell BK271.out 3).trans rfl; have hcz41_4 : w39.cell? ⟨gb271, 4, none⟩ = some (.int .i64 0) := (blk_cell BK271.out 4).trans rfl; have hcz41_5 : w39.cell? ⟨gb271, 5, none⟩ = some (.string (⟨#[]⟩ : ByteArray)) := (blk_cell BK271.out 5).trans rfl; have hfz41_0 := blk_frozen BK271.out 0; have hfz41_1 := blk_frozen BK271.out 1; have hfz41_2 := blk_frozen BK271.out 2; have hfz41_3 := blk_frozen BK271.out 3; have hfz41_4 := blk_frozen BK271.out 4; have hfz41_5 := blk_frozen BK271.out 5) | ((with_reducible refine gate_callee (f := 10) rfl ?_); refine goesL_ (some 64) rfl rfl Try.func10 (by kernel_rfl) rfl #[.string t254] rfl (by (try simp only [List.map_toArray, List.map_cons, List.map_nil]); first | done | rfl | (simp only [List.length_drop, List.length_take]; rfl)) ?_; (with_reducible refine (eth_Parse.calls t254 t272 t273 t274 t275 t276 t277 t278 _ A16.out).mono ?_); rintro e w42 ⟨rfl, hb⟩; refine ⟨_, rfl, ?_⟩; have n0_ := Aside0.mk (blk_below (g := gb263) (o := .cells #[.string t256, .string t257, .int .i64 t258, .int .i64 t259, .int .i64 t260, .string t261] 23 (0, 0)) (by (with_reducible repeat (first | refine blk_drewN ?_ _ | refine blk_drew ?_ | refine blk_alloc ?_ _)); refine blk_far ?_ NB263_271.out _; (with_reducible repeat (first | refine blk_drewN ?_ _ | refine blk_drew ?_ | refine blk_alloc ?_ _)); refine blk_far ?_ NB263_271.out _; (with_reducible repeat (first | refine blk_drewN ?_ _ | refine blk_drew ?_ | refine blk_alloc ?_ _)); refine blk_far ?_ NB263_271.out _; (with_reducible repeat (first | refine blk_drewN ?_ _ | refine blk_drew ?_ | refine blk_alloc ?_ _)); refine blk_far ?_ NB263_271.out _; (with_reducible repeat (first | refine blk_drewN ?_ _ | refine blk_drew ?_ | refine blk_alloc ?_ _)); refine blk_far ?_ NB263_271.out _; (with_reducible repeat (first | refine blk_drewN ?_ _ | refine blk_drew ?_ | refine blk_alloc ?_ _)); refine blk_far ?_ NB263_271.out _; (with_reducible repeat (first | refine blk_drewN ?_ _ | refine blk_drew ?_ | refine blk_alloc ?_ _)); exact BK263.out) hb); have n1_ := Aside0.mk (blk_below (g := gb271) (o := .cells #[.string t264, .string t265, .int .i64 t266, .int .i64 t267, .int .i64 t268, .string t269] 23 (0, 0)) (by (with_reducible repeat (first | refine blk_drewN ?_ _ | refine blk_drew ?_ | refine blk_alloc ?_ _)); refine blk_put (cs := #[.string t264, .string t265, .int .i64 t266, .int .i64 t267, .int .i64 t268, .string (⟨#[]⟩ : ByteArray)]) ?_ 5 _ rfl; (with_reducible repeat (first | refine blk_drewN ?_ _ | refine blk_drew ?_ | refine blk_alloc ?_ _)); refine blk_put (cs := #[.string t264, .string t265, .int .i64 t266, .int .i64 t267, .int .i64 0, .string (⟨#[]⟩ : ByteArray)]) ?_ 4 _ rfl; (with_reducible repeat (first | refine blk_drewN ?_ _ | refine blk_drew ?_ | refine blk_alloc ?_ _)); refine blk_put (cs := #[.string t264, .string t265, .int .i64 t266, .int .i64 0, .int .i64 0, .string (⟨#[]⟩ : ByteArray)]) ?_ 3 _ rfl; (with_reducible repeat (first | refine blk_drewN ?_ _ | refine blk_drew ?_ | refine blk_alloc ?_ _)); refine blk_put (cs := #[.string t264, .string t265, .int .i64 0, .int .i64 0, .int .i64 0, .string (⟨#[]⟩ : ByteArray)]) ?_ 2 _ rfl; (with_reducible repeat (first | refine blk_drewN ?_ _ | refine blk_drew ?_ | refine blk_alloc ?_ _)); refine blk_put (cs := #[.string t264, .string (⟨#[]⟩ : ByteArray), .int .i64 0, .int .i64 0, .int .i64 0, .string (⟨#[]⟩ : ByteArray)]) ?_ 1 _ rfl; (with_reducible repeat (first | refine blk_drewN ?_ _ | refine blk_drew ?_ | refine blk_alloc ?_ _)); refine blk_put (cs := #[.string (⟨#[]⟩ : ByteArray), .string (⟨#[]⟩ : ByteArray), .int .i64 0, .int .i64 0, .int .i64 0, .string (⟨#[]⟩ : ByteArray)]) ?_ 0 _ rfl; (with_reducible repeat (first | refine blk_drewN ?_ _ | refine blk_drew ?_ | refine blk_alloc ?_ _)); exact BK271.out) hb); have n2_ := Aside0.mk (below_step (by repeat (first | (with_reducible first | exact HB.out | apply below_alloc | apply pw_below_drewN | apply below_drew1 | refine below_set ?_ GE263.out | refine below_set ?_ GE271.out) | exact HB.out)) hb); clear BK263; clear BK271; clear HB; have BK263 := n0_; have BK271 := n1_; have HB := n2_; clear n0_ n1_ n2_; (try clear hb); (try clear hb2); (try clear hk); (try clear hi)) | ((with_reducible refine gate_dst (N := 18) rfl ?_); (try (refine gate_guard (by rfl) ?_; dsimp only)); refine box_event ?hg (N := 18) ?hd (cs := #[.string (⟨#[]⟩ : ByteArray), .string (⟨#[]⟩ : ByteArray), .int .i64 0, .int .i64 0, .int .i64 0, .string (⟨#[]⟩ : ByteArray)]) (t := 23) ?hr ?_; (case hd => rfl); (case hg => rfl); (case hr => first | (go_simp; done) | (go_simp; rfl)); intro gb279 hg w43 hbox hb; have n0_ := Aside0.mk (blk_below (g := gb263) (o := .cells #[.string t256, .string t257, .int .i64 t258, .int .i64 t259, .int .i64 t260, .string t261] 23 (0, 0)) (by (with_reducible repeat (first | refine blk_drewN ?_ _ | refine blk_drew ?_ | refine blk_alloc ?_ _)); exact BK263.out) hb); have n1_ := Aside0.mk (blk_below (g := gb271) (o := .cells #[.string t264, .string t265, .int .i64 t266, .int .i64 t267, .int .i64 t268, .string t269] 23 (0, 0)) (by (with_reducible repeat (first | refine blk_drewN ?_ _ | refine blk_drew ?_ | refine blk_alloc ?_ _)); exact BK271.out) hb); have n2_ := Aside0.mk (below_step (by repeat (first | (with_reducible first | exact HB.out | apply below_alloc | apply pw_below_drewN | apply below_drew1 | refine below_set ?_ GE263.out | refine below_set ?_ GE271.out) | exact HB.out)) hb); have n3_ := Aside0.mk (hbox); have n4_ := Aside0.mk ((by rw [hg]; exact (below_size (by repeat (first | (with_reducible first | exact HB.out | apply below_alloc | apply pw_below_drewN | apply below_drew1 | refine below_set ?_ GE263.out | refine below_set ?_ GE271.out) | exact HB.out))) : w.heap.size ≤ gb279)); have n5_ := Aside0.mk ((by rw [hg]; exact (below_size (by repeat (first | (with_reducible first | exact HB.out | apply below_alloc | apply pw_below_drewN | apply below_drew1 | refine below_set ?_ GE263.out | refine below_set ?_ GE271.out) | exact HB.out))) : w.heap.size ≤ gb279)); have n6_ := Aside0.mk ((by rw [hg]; exact Nat.ne_of_lt (blk_lt (g := gb263) (o := .cells #[.string t256, .string t257, .int .i64 t258, .int .i64 t259, .int .i64 t260, .string t261] 23 (0, 0)) (by (with_reducible repeat (first | refine blk_drewN ?_ _ | refine blk_drew ?_ | refine blk_alloc ?_ _)); exact BK263.out)) : gb263 ≠ gb279)); have n7_ := Aside0.mk ((by rw [hg]; exact Nat.ne_of_gt (blk_lt (g := gb263) (o := .cells #[.string t256, .string t257, .int .i64 t258, .int .i64 t259, .int .i64 t260, .string t261] 23 (0, 0)) (by (with_reducible repeat (first | refine blk_drewN ?_ _ | refine blk_drew ?_ | refine blk_alloc ?_ _)); exact BK263.out)) : gb279 ≠ gb263)); have n8_ := Aside0.mk ((by rw [hg]; exact Nat.ne_of_lt (blk_lt (g := gb271) (o := .cells #[.string t264, .string t265, .int .i64 t266, .int .i64 t267, .int .i64 t268, .string t269] 23 (0, 0)) (by (with_reducible repeat (first | refine blk_drewN ?_ _ | refine blk_drew ?_ | refine blk_alloc ?_ _)); exact BK271.out)) : gb271 ≠ gb279)); have n9_ := Aside0.mk ((by rw [hg]; exact Nat.ne_of_gt (blk_lt (g := gb271) (o := .cells #[.string t264, .string t265, .int .i64 t266, .int .i64 t267, .int .i64 t268, .string t269] 23 (0, 0)) (by (with_reducible repeat (first | refine blk_drewN ?_ _ | refine blk_drew ?_ | refine blk_alloc ?_ _)); exact BK271.out)) : gb279 ≠ gb271)); clear BK263; clear BK271; clear HB; have BK263 := n0_; have BK271 := n1_; have HB := n2_; have BK279 := n3_; have GW279 := n4_; have GE279 := n5_; have NB263_279 := n6_; have NB279_263 := n7_; have NB271_279 := n8_; have NB279_271 := n9_; clear n0_ n1_ n2_ n3_ n4_ n5_ n6_ n7_ n8_ n9_; clear hb hbox hg; have hnb44 := NB279_263.out; have hnc44 := NB263_279.out; have hnb45 := NB279_271.out; have hnc45 := NB271_279.out; have hcz46_0 : w43.cell? ⟨gb279, 0, none⟩ = some (.string (⟨#[]⟩ : ByteArray)) := (blk_cell BK279.out 0).trans rfl; have hcz46_1 : w43.cell? ⟨gb279, 1, none⟩ = some (.string (⟨#[]⟩ : ByteArray)) := (blk_cell BK279.out 1).trans rfl; have hcz46_2 : w43.cell? ⟨gb279, 2, none⟩ = some (.int .i64 0) := (blk_cell BK279.out 2).trans rfl; have hcz46_3 : w43.cell? ⟨gb279, 3, none⟩ = some (.int .i64 0) := (blk_cell BK279.out 3).trans rfl; have hcz46_4 : w43.cell? ⟨gb279, 4, none⟩ = some (.int .i64 0) := (blk_cell BK279.out 4).trans rfl; have hcz46_5 : w43.cell? ⟨gb279, 5, none⟩ = some (.string (⟨#[]⟩ : ByteArray)) := (blk_cell BK279.out 5).trans rfl; have hfz46_0 := blk_frozen BK279.out 0; have hfz46_1 := blk_frozen BK279.out 1; have hfz46_2 := blk_frozen BK279.out 2; have hfz46_3 := blk_frozen BK279.out 3; have hfz46_4 := blk_frozen BK279.out 4; have hfz46_5 := blk_frozen BK279.out 5; have hcz47_0 : w43.cell? ⟨gb271, 0, none⟩ = some (.string t264) := (blk_cell BK271.out 0).trans rfl; have hcz47_1 : w43.cell? ⟨gb271, 1, none⟩ = some (.string t265) := (blk_cell BK271.out 1).trans rfl; have hcz47_2 : w43.cell? ⟨gb271, 2, none⟩ = some (.int .i64 t266) := (blk_cell BK271.out 2).trans rfl; have hcz47_3 : w43.cell? ⟨gb271, 3, none⟩ = some (.int .i64 t267) := (blk_cell BK271.out 3).trans rfl; have hcz47_4 : w43.cell? ⟨gb271, 4, none⟩ = some (.int .i64 t268) := (blk_cell BK271.out 4).trans rfl; have hcz47_5 : w43.cell? ⟨gb271, 5, none⟩ = some (.string t269) := (blk_cell BK271.out 5).trans rfl; have hfz47_0 := blk_frozen BK271.out 0; have hfz47_1 := blk_frozen BK271.out 1; have hfz47_2 := blk_frozen BK271.out 2; have hfz47_3 := blk_frozen BK271.out 3; have hfz47_4 := blk_frozen BK271.out 4; have hfz47_5 := blk_frozen BK271.out 5; have hcz48_0 : w43.cell? ⟨gb263, 0, none⟩ = some (.string t256) := (blk_cell BK263.out 0).trans rfl; have hcz48_1 : w43.cell? ⟨gb263, 1, none⟩ = some (.string t257) := (blk_cell BK263.out 1).trans rfl; have hcz48_2 : w43.cell? ⟨gb263, 2, none⟩ = some (.int .i64 t258) := (blk_cell BK263.out 2).trans rfl; have hcz48_3 : w43.cell? ⟨gb263, 3, none⟩ = some (.int .i64 t259) := (blk_cell BK263.out 3).trans rfl; have hcz48_4 : w43.cell? ⟨gb263, 4, none⟩ = some (.int .i64 t260) := (blk_cell BK263.out 4).trans rfl; have hcz48_5 : w43.cell? ⟨gb263, 5, none⟩ = some (.string t261) := (blk_cell BK263.out 5).trans rfl; have hfz48_0 := blk_frozen BK263.out 0; have hfz48_1 := blk_frozen BK263.out 1; have hfz48_2 := blk_frozen BK263.out 2; have hfz48_3 := blk_frozen BK263.out 3; have hfz48_4 := blk_frozen BK263.out 4; have hfz48_5 := blk_frozen BK263.out 5) | (go_at_call 12; (with_reducible refine (aqueductlaw06_fixed.calls kj4  t280 _ A32.out).mono ?_); rintro e w49 ⟨rfl, hb⟩; have n0_ := Aside0.mk (blk_below (g := gb263) (o := .cells #[.string t256, .string t257, .int .i64 t258, .int .i64 t259, .int .i64 t260, .string t261] 23 (0, 0)) (by (with_reducible repeat (first | refine blk_drewN ?_ _ | refine blk_drew ?_ | refine blk_alloc ?_ _)); refine blk_far ?_ NB263_279.out _; (with_reducible repeat (first | refine blk_drewN ?_ _ | refine blk_drew ?_ | refine blk_alloc ?_ _)); refine blk_far ?_ NB263_279.out _; (with_reducible repeat (first | refine blk_drewN ?_ _ | refine blk_drew ?_ | refine blk_alloc ?_ _)); refine blk_far ?_ NB263_279.out _; (with_reducible repeat (first | refine blk_drewN ?_ _ | refine blk_drew ?_ | refine blk_alloc ?_ _)); refine blk_far ?_ NB263_279.out _; (with_reducible repeat (first | refine blk_drewN ?_ _ | refine blk_drew ?_ | refine blk_alloc ?_ _)); refine blk_far ?_ NB263_279.out _; (with_reducible repeat (first | refine blk_drewN ?_ _ | refine blk_drew ?_ | refine blk_alloc ?_ _)); refine blk_far ?_ NB263_279.out _; (with_reducible repeat (first | refine blk_drewN ?_ _ | refine blk_drew ?_ | refine blk_alloc ?_ _)); exact BK263.out) hb); have n1_ := Aside0.mk (blk_below (g := gb271) (o := .cells #[.string t264, .string t265, .int .i64 t266, .int .i64 t267, .int .i64 t268, .string t269] 23 (0, 0)) (by (with_reducible repeat (first | refine blk_drewN ?_ _ | refine blk_drew ?_ | refine blk_alloc ?_ _)); refine blk_far ?_ NB271_279.out _; (with_reducible repeat (first | refine blk_drewN ?_ _ | refine blk_drew ?_ | refine blk_alloc ?_ _)); refine blk_far ?_ NB271_279.out _; (with_reducible repeat (first | refine blk_drewN ?_ _ | refine blk_drew ?_ | refine blk_alloc ?_ _)); refine blk_far ?_ NB271_279.out _; (with_reducible repeat (first | refine blk_drewN ?_ _ | refine blk_drew ?_ | refine blk_alloc ?_ _)); refine blk_far ?_ NB271_279.out _; (with_reducible repeat (first | refine blk_drewN ?_ _ | refine blk_drew ?_ | refine blk_alloc ?_ _)); refine blk_far ?_ NB271_279.out _; (with_reducible repeat (first | refine blk_drewN ?_ _ | refine blk_drew ?_ | refine blk_alloc ?_ _)); refine blk_far ?_ NB271_279.out _; (with_reducible repeat (first | refine blk_drewN ?_ _ | refine blk_drew ?_ | refine blk_alloc ?_ _)); exact BK271.out) hb); have n2_ := Aside0.mk (blk_below (g := gb279) (o := .cells #[.string t272, .string t273, .int .i64 t274, .int .i64 t275, .int .i64 t276, .string t277] 23 (0, 0)) (by (with_reducible repeat (first | refine blk_drewN ?_ _ | refine blk_drew ?_ | refine blk_alloc ?_ _)); refine blk_put (cs := #[.string t272, .string t273, .int .i64 t274, .int .i64 t275, .int .i64 t276, .string (⟨#[]⟩ : ByteArray)]) ?_ 5 _ rfl; (with_reducible repeat (first | refine blk_drewN ?_ _ | refine blk_drew ?_ | refine blk_alloc ?_ _)); refine blk_put (cs := #[.string t272, .string t273, .int .i64 t274, .int .i64 t275, .int .i64 0, .string (⟨#[]⟩ : ByteArray)]) ?_ 4 _ rfl; (with_reducible repeat (first | refine blk_drewN ?_ _ | refine blk_drew ?_ | refine blk_alloc ?_ _)); refine blk_put (cs := #[.string t272, .string t273, .int .i64 t274, .int .i64 0, .int .i64 0, .string (⟨#[]⟩ : ByteArray)]) ?_ 3 _ rfl; (with_reducible repeat (first | refine blk_drewN ?_ _ | refine blk_drew ?_ | refine blk_alloc ?_ _)); refine blk_put (cs := #[.string t272, .string t273, .int .i64 0, .int .i64 0, .int .i64 0, .string (⟨#[]⟩ : ByteArray)]) ?_ 2 _ rfl; (with_reducible repeat (first | refine blk_drewN ?_ _ | refine blk_drew ?_ | refine blk_alloc ?_ _)); refine blk_put (cs := #[.string t272, .string (⟨#[]⟩ : ByteArray), .int .i64 0, .int .i64 0, .int .i64 0, .string (⟨#[]⟩ : ByteArray)]) ?_ 1 _ rfl; (with_reducible repeat (first | refine blk_drewN ?_ _ | refine blk_drew ?_ | refine blk_alloc ?_ _)); refine blk_put (cs := #[.string (⟨#[]⟩ : ByteArray), .string (⟨#[]⟩ : ByteArray), .int .i64 0, .int .i64 0, .int .i64 0, .string (⟨#[]⟩ : ByteArray)]) ?_ 0 _ rfl; (with_reducible repeat (first | refine blk_drewN ?_ _ | refine blk_drew ?_ | refine blk_alloc ?_ _)); exact BK279.out) hb); have n3_ := Aside0.mk (below_step (by repeat (first | (with_reducible first | exact HB.out | apply below_alloc | apply pw_below_drewN | apply below_drew1 | refine below_set ?_ GE263.out | refine below_set ?_ GE271.out | refine below_set ?_ GE279.out) | exact HB.out)) hb); clear BK263; clear BK271; clear BK279; clear HB; have BK263 := n0_; have BK271 := n1_; have BK279 := n2_; have HB := n3_; clear n0_ n1_ n2_ n3_; (try clear hb); (try clear hb2); (try clear hk); (try clear hi)))
                                      go_ret
                                      exact ⟨by first | rfl | (simp [errW_none, errW_some] <;> rfl) | (simp [*, errW_none, errW_some] <;> rfl) | (exfalso; simp_all), by repeat (first | (with_reducible first | exact HB.out | apply below_alloc | apply pw_below_drewN | apply below_drew1 | refine below_set ?_ GE263.out | refine below_set ?_ GE271.out | refine below_set ?_ GE279.out) | exact HB.out)⟩
                                    · rw [if_neg c31] at H
                                      have c31b0 : (t277.toList == t261.toList) = false := beq_eq_false_iff_ne.mpr c31
                                      have c31b1 : (t277.toList != t261.toList) = true := bne_iff_ne.mpr c31
                                      obtain rfl := Option.some.inj H
                                      exact absurd HR_.out (by decide)
                                  · rw [if_neg c30] at H
                                    have c30b0 : (t274 == (Int.tmod (Go.bits .and .i64 a1 65535) 4095)) = false := beq_eq_false_iff_ne.mpr c30
                                    have c30b1 : (t274 != (Int.tmod (Go.bits .and .i64 a1 65535) 4095)) = true := bne_iff_ne.mpr c30
                                    obtain rfl := Option.some.inj H
                                    exact absurd HR_.out (by decide)
                                · rw [if_neg c29] at H
                                  have c29b0 : (t269.toList == t261.toList) = false := beq_eq_false_iff_ne.mpr c29
                                  have c29b1 : (t269.toList != t261.toList) = true := bne_iff_ne.mpr c29
                                  obtain rfl := Option.some.inj H
                                  exact absurd HR_.out (by decide)
                              · rw [if_neg c28] at H
                                have c28b0 : (t268 == t260) = false := beq_eq_false_iff_ne.mpr c28
                                have c28b1 : (t268 != t260) = true := bne_iff_ne.mpr c28
                                obtain rfl := Option.some.inj H
                                exact absurd HR_.out (by decide)
                            · rw [if_neg c27] at H
                              have c27b0 : (t265.toList == t257.toList) = false := beq_eq_false_iff_ne.mpr c27
                              have c27b1 : (t265.toList != t257.toList) = true := bne_iff_ne.mpr c27
                              obtain rfl := Option.some.inj H
                              exact absurd HR_.out (by decide)
                          · rw [if_neg c26] at H
                            have c26b0 : (t264.toList == t256.toList) = false := beq_eq_false_iff_ne.mpr c26
                            have c26b1 : (t264.toList != t256.toList) = true := bne_iff_ne.mpr c26
                            obtain rfl := Option.some.inj H
                            exact absurd HR_.out (by decide)
                        · rw [if_neg c25] at H
                          have c25b0 : (t267 == t259) = false := beq_eq_false_iff_ne.mpr c25
                          have c25b1 : (t267 != t259) = true := bne_iff_ne.mpr c25
                          obtain rfl := Option.some.inj H
                          exact absurd HR_.out (by decide)
                      · rw [if_neg c24] at H
                        have c24b0 : (t266 == (Int.tmod (Go.bits .and .i64 a1 65535) 4095)) = false := beq_eq_false_iff_ne.mpr c24
                        have c24b1 : (t266 != (Int.tmod (Go.bits .and .i64 a1 65535) 4095)) = true := bne_iff_ne.mpr c24
                        obtain rfl := Option.some.inj H
                        exact absurd HR_.out (by decide)
                    · rw [if_neg c23] at H
                      have c23b0 : ((t247.size : Int) == (wrap64 ((t249.size : Int) + 4))) = false := beq_eq_false_iff_ne.mpr c23
                      have c23b1 : ((t247.size : Int) != (wrap64 ((t249.size : Int) + 4))) = true := bne_iff_ne.mpr c23
                      obtain rfl := Option.some.inj H
                      exact absurd HR_.out (by decide)
                  · rw [if_neg c22] at H
                    have c22b0 : (t252.toList == t249.toList) = false := beq_eq_false_iff_ne.mpr c22
                    have c22b1 : (t252.toList != t249.toList) = true := bne_iff_ne.mpr c22
                    obtain rfl := Option.some.inj H
                    exact absurd HR_.out (by decide)
                · rw [if_neg c21] at H
                  have c21b0 : (t278 == 0) = false := beq_eq_false_iff_ne.mpr c21
                  have c21b1 : (t278 != 0) = true := bne_iff_ne.mpr c21
                  obtain rfl := Option.some.inj H
                  exact absurd HR_.out (by decide)
              · rw [if_neg c20] at H
                have c20b0 : (t255 == 0) = false := beq_eq_false_iff_ne.mpr c20
                have c20b1 : (t255 != 0) = true := bne_iff_ne.mpr c20
                obtain rfl := Option.some.inj H
                exact absurd HR_.out (by decide)
            · rw [if_neg c19] at H
              have c19b0 : (t253 == 0) = false := beq_eq_false_iff_ne.mpr c19
              have c19b1 : (t253 != 0) = true := bne_iff_ne.mpr c19
              obtain rfl := Option.some.inj H
              exact absurd HR_.out (by decide)
          · rw [if_neg c18] at H
            have c18b0 : (t270 == 0) = false := beq_eq_false_iff_ne.mpr c18
            have c18b1 : (t270 != 0) = true := bne_iff_ne.mpr c18
            obtain rfl := Option.some.inj H
            exact absurd HR_.out (by decide)
        · rw [if_neg c17] at H
          have c17b0 : (t262 == 0) = false := beq_eq_false_iff_ne.mpr c17
          have c17b1 : (t262 != 0) = true := bne_iff_ne.mpr c17
          obtain rfl := Option.some.inj H
          exact absurd HR_.out (by decide)

/-- THE ONE PURE STATEMENT of aqueductlaw06_EthOnly: yours. -/
def aqueductlaw06_EthOnly.Pure : Prop := ∀ (a0 : ByteArray) (a1 : Int), a0.size ≤ 140737488351232 → (Lit.int .i64 a1).wf = true → ∃ k, aqueductlaw06_EthOnly.f k a0 a1 = some true
theorem aqueductlaw06_EthOnly.walk (P : aqueductlaw06_EthOnly.Pure) (a0 : ByteArray) (a1 : Int) (w : World) (w0 : a0.size ≤ 140737488351232) (w1 : (Lit.int .i64 a1).wf = true) :
    Calls Try.prog 7 #[.string a0, .int .i64 a1] w fun e w' => e = .returned (.bool true) ∧ Below w.heap.size w w' := by
  obtain ⟨k, h⟩ := P a0 a1 w0 w1
  refine (aqueductlaw06_EthOnly.calls k a0 a1 true w h rfl).mono ?_
  rintro e w' ⟨rfl, hd⟩
  exact ⟨rfl, hd⟩

end Go.Proofs.Ytbecpkkhpjigbaa.P
