-- PRINTED BY print.sh 35421559b90ae4d0a3588c463048766b98c2df88dd9212a6774a882060cdf62d: not written by this session
import Derived.Test.YtamicgnpmhbdbaaPWordsSetsx0
namespace Go.Proofs.Ytamicgnpmhbdbaa.PWordsSets
open Go.RowKit Go.Proofs.YtamicgnpmhbdbaaW.PrintWords Go.Proofs.YtamicgnpmhbdbaaW.PrintLast Go.Proofs.YtamicgnpmhbdbaaW.PrintMore
attribute [local go_sem] max2_int min2_int max_two min_two max_three min_three max_four min_four   -- for this text's walks alone
set_option linter.unusedVariables false
set_option linter.unusedSimpArgs false

/-! ### words_Turn: function 16 -/
def words_Turn.l0 : Nat → ByteArray → List Int → Int → Int → Option (ByteArray)
  | 0, _, _, _, _ => none
  | k + 1, x0, x3, x9, x10 => if x10 < x9 then (if 0 ≤ x10 then (if x10 < (x0.size : Int) then (if 0 ≤ (wrap64 ((wrap64 ((x0.size : Int) - 1)) - x10)) then (if (wrap64 ((wrap64 ((x0.size : Int) - 1)) - x10)) < (x3.length : Int) then (words_Turn.l0 k x0 (x3.set ((wrap64 ((wrap64 ((x0.size : Int) - 1)) - x10)) : Int).toNat (bt x0 x10)) x9 (wrap64 (x10 + 1))) else (none)) else (none)) else (none)) else (none)) else (some (strOfNums x3))
def words_Turn.f (k : Nat) (a0 : ByteArray) : Option (ByteArray) := if 0 ≤ (a0.size : Int) then (if ((a0.size : Int) : Int).toNat ≤ 281474976710656 then (words_Turn.l0 k a0 (List.replicate ((a0.size : Int) : Int).toNat 0) (a0.size : Int) 0) else (none)) else (none)
theorem words_Turn.mono_l : ∀ k, (∀ y0 y1 y2 y3, LeO (words_Turn.l0 k y0 y1 y2 y3) (words_Turn.l0 (k + 1) y0 y1 y2 y3))
  | 0 => fun _ _ _ _ r h => by simp [words_Turn.l0] at h
  | k + 1 => by
    have ih0 := words_Turn.mono_l k
    · intro y0 y1 y2 y3
      unfold words_Turn.l0
      repeat' first
      | (with_reducible exact ih0 _ _ _ _)
      | (with_reducible exact LeO.refl _)
      | (with_reducible exact LeO.none _)
      | (with_reducible refine LeO.ite ?_ ?_)
      | (with_reducible refine LeO.bind ?_ (fun _ => ?_))
      | exact ih0 _ _ _ _
      | exact LeO.none _
      | refine LeO.ite ?_ ?_
      | refine LeO.bind ?_ (fun _ => ?_)
theorem words_Turn.mono : ∀ a0 k, LeO (words_Turn.f k a0) (words_Turn.f (k + 1) a0) := by
  intro a0 k
  have ih0 := words_Turn.mono_l k
  unfold words_Turn.f
  repeat' first
      | (with_reducible exact ih0 _ _ _ _)
      | (with_reducible exact LeO.refl _)
      | (with_reducible exact LeO.none _)
      | (with_reducible refine LeO.ite ?_ ?_)
      | (with_reducible refine LeO.bind ?_ (fun _ => ?_))
      | exact ih0 _ _ _ _
      | exact LeO.none _
      | refine LeO.ite ?_ ?_
      | refine LeO.bind ?_ (fun _ => ?_)
set_option maxHeartbeats 8000000 in
set_option maxRecDepth 100000 in
theorem words_Turn.calls (k : Nat) (a0 : ByteArray) (r : ByteArray) (w : World) (h : words_Turn.f k a0 = some r) :
    Calls Try.prog 16 #[.string a0] w fun e w' => e = .returned (.string r) ∧ Below w.heap.size w w' := by
  have HB := Aside0.mk (Below.refl w.heap.size w)
  have H : (if 0 ≤ (a0.size : Int) then (if ((a0.size : Int) : Int).toNat ≤ 281474976710656 then (words_Turn.l0 k a0 (List.replicate ((a0.size : Int) : Int).toNat 0) (a0.size : Int) 0) else (none)) else (none)) = some r := h
  clear h
  by_cases c2 : 0 ≤ (a0.size : Int)
  · rw [if_pos c2] at H
    have c2b0 := eq_true c2
    have c2b1 : decide (0 ≤ (a0.size : Int)) = true := decide_eq_true c2
    clear c2
    by_cases c3 : ((a0.size : Int) : Int).toNat ≤ 281474976710656
    · rw [if_pos c3] at H
      have c3b0 := eq_true c3
      have c3b1 : decide (((a0.size : Int) : Int).toNat ≤ 281474976710656) = true := decide_eq_true c3
      clear c3
      obtain ⟨y101, hy101⟩ : ∃ y_ : List Int, y_ = (List.replicate ((a0.size : Int) : Int).toNat 0) := ⟨_, rfl⟩
      replace H : (words_Turn.l0 k a0 y101 (a0.size : Int) 0) = some r := by first | (rw [hy101]; with_reducible exact H) | (have H2_ := (Option.bind_some _ _).symm.trans H; rw [hy101]; with_reducible exact H2_) | (have H2_ := (Option.bind_some _ _).symm.trans H; with_reducible exact H2_) | with_reducible exact H | (rw [hy101]; exact H) | exact H
      have Ny101 := Aside0.mk hy101
      clear hy101
      have H' := Aside0.mk H
      clear H
      go_enter Try.func16, Try.ntmps16
      go_wp2_with (first | ((with_reducible refine gate_dst (N := 7) rfl ?_); refine Kd.R_make (Kd.int .u8) _ 5 rfl (N := 7) rfl 36 _ _ rfl (a0.size : Int) rfl rfl Try.underlying36 (.int .u8 0) 1 info5 rfl (by decide) (by omega) 0 (ok := fun _ => True) (okp := fun _ => True) rfl (fun _ hk => hk) trivial (of_decide_eq_true (by first | (with_reducible assumption) | assumption)) (Nat.le_trans (Nat.mul_le_mul_right _ (of_decide_eq_true (by first | (with_reducible assumption) | assumption) : (a0.size : Int).toNat ≤ 281474976710656)) (by omega)) (Below.refl _ _) (Nat.le_refl _) ?_; intro v102 w4 ho5 hb hg_ hnew_; clear hg_ hnew_; (first | rw [← Ny101.out] at ho5 | (simp only [Int.reduceToNat] at ho5; rw [← Ny101.out] at ho5)); have n0_ := Aside0.mk (Kd.R_lower ho5 (below_size (by repeat (first | (with_reducible first | exact HB.out | apply below_alloc | apply pw_below_drewN | apply below_drew1) | exact HB.out)))); have n1_ := Aside0.mk (below_step (by repeat (first | (with_reducible first | exact HB.out | apply below_alloc | apply pw_below_drewN | apply below_drew1) | exact HB.out)) hb); clear HB; have HO103 := n0_; have HB := n1_; clear n0_ n1_; clear hb ho5))
      go_loopg [10] k (fun kq v10 w' => ∃ (x3_1 : List Int) (x10_1 : Int), v10 = .int .i64 x10_1 ∧ Aside0 (words_Turn.l0 kq a0 x3_1 (a0.size : Int) x10_1 = some r) ∧ Aside0 (kq ≤ k) ∧ Aside0 (Kd.R (Kd.int .u8) 5 w' w.heap.size (fun _ => True) v102 x3_1) ∧ Aside0 (Below w.heap.size w w'))
      case atStart => exact ⟨(y101), (0), (by first | rfl | (simp; done) | (simp [*]; done)), H', ⟨Nat.le_refl _⟩, ⟨by (with_reducible repeat (first | apply Kd.R_alloc | apply Kd.R_drewN | apply Kd.R_drew)); exact HO103.out⟩, ⟨by repeat (first | (with_reducible first | exact HB.out | apply below_alloc | apply pw_below_drewN | apply below_drew1) | exact HB.out)⟩⟩
      case round =>
        clear H'
        try clear c1
        try clear c2
        try clear c2b0
        try clear c2b1
        try clear p2
        try clear c3
        try clear c3b0
        try clear c3b1
        obtain ⟨x3_1, x10_1, rfl, HA, HK1, HO_3, HB⟩ := hrel
        cases gk with
        | zero => exact absurd HA.out (by simp [words_Turn.l0])
        | succ k1 =>
          have H := HA.out
          clear HA
          simp only [words_Turn.l0] at H
          by_cases c6 : x10_1 < (a0.size : Int)
          · rw [if_pos c6] at H
            have c6b0 : decide (x10_1 < (a0.size : Int)) = true := decide_eq_true c6
            clear c6
            by_cases c7 : 0 ≤ x10_1
            · rw [if_pos c7] at H
              have c7b0 : decide (0 ≤ x10_1) = true := decide_eq_true c7
              clear c7
              by_cases c8 : x10_1 < (a0.size : Int)
              · rw [if_pos c8] at H
                have c8b0 : decide (x10_1 < (a0.size : Int)) = true := decide_eq_true c8
                clear c8
                obtain ⟨ji10, hji10⟩ : ∃ j_ : Int, (wrap64 ((wrap64 ((a0.size : Int) - 1)) - x10_1)) = j_ := ⟨_, rfl⟩
                replace H : (if 0 ≤ (ji10) then (if (ji10) < (x3_1.length : Int) then (words_Turn.l0 k1 a0 (x3_1.set ((ji10) : Int).toNat (bt a0 x10_1)) (a0.size : Int) (wrap64 (x10_1 + 1))) else (none)) else (none)) = some r := by first | (rw [hji10] at H; exact H) | (simp only [hji10] at H ⊢; exact H)
                have hji10w : (IntKind.i64.wrap ((wrap64 ((a0.size : Int) - 1)) - x10_1)) = ji10 := (i64_w _).trans hji10
                by_cases c11 : 0 ≤ (ji10)
                · rw [if_pos c11] at H
                  have c11b0 : decide (0 ≤ (ji10)) = true := decide_eq_true c11
                  clear c11
                  by_cases c12 : (ji10) < (x3_1.length : Int)
                  · rw [if_pos c12] at H
                    have c12b0 : decide ((ji10) < (x3_1.length : Int)) = true := decide_eq_true c12
                    clear c12
                    obtain ⟨y104, hy104⟩ : ∃ y_ : List Int, y_ = (x3_1.set ((ji10) : Int).toNat (bt a0 x10_1)) := ⟨_, rfl⟩
                    replace H : (words_Turn.l0 k1 a0 y104 (a0.size : Int) (wrap64 (x10_1 + 1))) = some r := by first | (rw [hy104]; with_reducible exact H) | (have H2_ := (Option.bind_some _ _).symm.trans H; rw [hy104]; with_reducible exact H2_) | (have H2_ := (Option.bind_some _ _).symm.trans H; with_reducible exact H2_) | with_reducible exact H | (rw [hy104]; exact H) | exact H
                    have Ny104 := Aside0.mk hy104
                    clear hy104
                    have H' := Aside0.mk H
                    clear H
                    have p9 : 0 ≤ (x10_1 : Int) := of_decide_eq_true (by first | (with_reducible assumption) | assumption)
                    have q9 : x10_1 < (a0.size : Int) := of_decide_eq_true (by first | (with_reducible assumption) | assumption)
                    have hx9 := bt_at a0 x10_1
                    replace p9 := eq_true p9
                    replace q9 := eq_true q9
                    have p13 : 0 ≤ ((ji10) : Int) := of_decide_eq_true (by first | (with_reducible assumption) | assumption)
                    have q13 : ((ji10) : Int) < ((x3_1.length : Int) : Int) := of_decide_eq_true (by first | (with_reducible assumption) | assumption)
                    obtain ⟨go13, co13, eo13, gb13, gl13, cl13, HG13⟩ := Kd.R_form HO_3.out (by omega)
                    (first | cases eo13 | (injection eo13 with ea_ en_ ec_; (first | subst ea_ | (injection ea_ with ea_; subst ea_)); subst ec_; clear en_))
                    have GB13 := Aside0.mk gb13
                    have GG13 := Aside0.mk HG13
                    clear gb13 gl13 HG13
                    obtain ⟨hx13_0, hf13_0⟩ := Kd.R_celln 0 HO_3.out ((ji10) : Int) p13 q13
                    replace p13 := eq_true p13
                    replace q13 := eq_true q13
                    have HP14 := Kd.R_putg HO_3.out ((ji10) : Int) (bt a0 x10_1)
                    go_wp2_with (first | ((with_reducible refine gate_store (t := 5) (p := 22) rfl ?_); refine store_event (t := 5) (p := 22) (v := ?vo_w15) (w1 := (wr.setCell ⟨go13, ((ji10) : Int).toNat, none⟩ (.int .u8 (bt a0 x10_1)))) ?hg ?ho ?hn ?hr ?_; (case ho => rfl); (case hg => rfl); (case hn => rfl); (case hr => first | (go_simp; done) | (go_simp; rfl)); intro w15 hw; have hg : wr.grownBy w15 (some go13) := (by rw [hw]; exact HP14.2); have hp_ : Kd.R (Kd.int .u8) 5 w15 w.heap.size (fun _ => True) (.slice (some ⟨go13, 0, none⟩) x3_1.length co13) y104 := (by rw [hw, Ny104.out]; exact HP14.1); clear HP14; have n0_ := Aside0.mk (hp_); have n1_ := Aside0.mk ((by rw [hw]; exact below_set (HB.out) GB13.out : Below w.heap.size w w15)); clear HO_3; clear HB; have HO_3 := n0_; have HB := n1_; clear n0_ n1_; clear hg hw hp_))
                    go_roundg k1
                    case measure => have := HK1.out; omega
                    case rel => exact ⟨(y104), (wrap64 (x10_1 + 1)), (by first | rfl | (simp; done) | (simp [*]; done)), H', ⟨by have := HK1.out; omega⟩, ⟨by (with_reducible repeat (first | apply Kd.R_alloc | apply Kd.R_drewN | apply Kd.R_drew)); exact HO_3.out⟩, ⟨by repeat (first | (with_reducible first | exact HB.out | apply below_alloc | apply pw_below_drewN | apply below_drew1) | exact HB.out)⟩⟩
                  · rw [if_neg c12] at H
                    exact absurd H (by simp)
                · rw [if_neg c11] at H
                  exact absurd H (by simp)
              · rw [if_neg c8] at H
                exact absurd H (by simp)
            · rw [if_neg c7] at H
              exact absurd H (by simp)
          · rw [if_neg c6] at H
            have c6b0 : decide (x10_1 < (a0.size : Int)) = false := decide_eq_false c6
            clear c6
            obtain rfl := Option.some.inj H
            have hcv16 := own_string (P := Try.prog) Try.underlying36 Try.underlying5 Try.underlying9 (Kd.own_of_R HO_3.out)
            go_wp2
            go_ret
            exact ⟨by first | rfl | (simp [errW_none, errW_some] <;> rfl) | (simp [*, errW_none, errW_some] <;> rfl), by repeat (first | (with_reducible first | exact HB.out | apply below_alloc | apply pw_below_drewN | apply below_drew1) | exact HB.out)⟩
    · rw [if_neg c3] at H
      exact absurd H (by simp)
  · rw [if_neg c2] at H
    exact absurd H (by simp)

/-! ### words_Get: function 9 -/
mutual
def words_Get.j0 : Nat → ByteArray → Int → Int → Bool → Bool → Option (Int × Int)
  | 0, _, _, _, _, _ => none
  | k + 1, x0, x1, x2, x3, x12 => if x12 = true then (some (0, 1)) else (if x1 < 0 then (some (0, 10)) else (if x1 > (wrap64 ((x0.size : Int) - x2)) then (some (0, 10)) else (if 0 ≤ x1 then (if x1 ≤ (wrap64 (x1 + x2)) then (if (wrap64 (x1 + x2)) ≤ (x0.size : Int) then (if x3 = true then (words_Get.j1 k (x0.extract (x1 : Int).toNat ((wrap64 (x1 + x2)) : Int).toNat) x2) else ((words_Turn.f k (x0.extract (x1 : Int).toNat ((wrap64 (x1 + x2)) : Int).toNat)).bind fun t105 => (words_Get.j1 k t105 x2))) else (none)) else (none)) else (none))))
def words_Get.j1 : Nat → ByteArray → Int → Option (Int × Int)
  | 0, _, _ => none
  | k + 1, x0, x2 => words_Get.l0 k x0 0 x2 0
def words_Get.l0 : Nat → ByteArray → Int → Int → Int → Option (Int × Int)
  | 0, _, _, _, _ => none
  | k + 1, x0, x10, x40, x41 => if x41 < x40 then (if 0 ≤ x41 then (if x41 < (x0.size : Int) then (words_Get.l0 k x0 (Go.bits .or .u64 (IntKind.u64.wrap (x10 * 256)) (IntKind.u64.wrap (bt x0 x41))) x40 (wrap64 (x41 + 1))) else (none)) else (none)) else (some (x10, 0))
end
def words_Get.f (k : Nat) (a0 : ByteArray) (a1 : Int) (a2 : Int) (a3 : Bool) : Option (Int × Int) := if a2 < 1 then (words_Get.j0 k a0 a1 a2 a3 true) else (words_Get.j0 k a0 a1 a2 a3 (decide (a2 > 8)))
theorem words_Get.mono_l : ∀ k, (∀ y0 y1 y2 y3 y4, LeO (words_Get.j0 k y0 y1 y2 y3 y4) (words_Get.j0 (k + 1) y0 y1 y2 y3 y4)) ∧ (∀ y0 y1, LeO (words_Get.j1 k y0 y1) (words_Get.j1 (k + 1) y0 y1)) ∧ (∀ y0 y1 y2 y3, LeO (words_Get.l0 k y0 y1 y2 y3) (words_Get.l0 (k + 1) y0 y1 y2 y3))
  | 0 => ⟨fun _ _ _ _ _ r h => by simp [words_Get.j0] at h, fun _ _ r h => by simp [words_Get.j1] at h, fun _ _ _ _ r h => by simp [words_Get.l0] at h⟩
  | k + 1 => by
    obtain ⟨ih0, ih1, ih2⟩ := words_Get.mono_l k
    refine ⟨?_, ?_, ?_⟩
    · intro y0 y1 y2 y3 y4
      unfold words_Get.j0
      repeat' first
      | (with_reducible exact ih0 _ _ _ _ _)
      | (with_reducible exact ih1 _ _)
      | (with_reducible exact ih2 _ _ _ _)
      | (with_reducible exact words_Turn.mono _ _)
      | (with_reducible exact LeO.refl _)
      | (with_reducible exact LeO.none _)
      | (with_reducible refine LeO.ite ?_ ?_)
      | (with_reducible refine LeO.bind ?_ (fun _ => ?_))
      | exact ih0 _ _ _ _ _
      | exact ih1 _ _
      | exact ih2 _ _ _ _
      | exact words_Turn.mono _ _
      | exact LeO.none _
      | refine LeO.ite ?_ ?_
      | refine LeO.bind ?_ (fun _ => ?_)
    · intro y0 y1
      unfold words_Get.j1
      repeat' first
      | (with_reducible exact ih0 _ _ _ _ _)
      | (with_reducible exact ih1 _ _)
      | (with_reducible exact ih2 _ _ _ _)
      | (with_reducible exact words_Turn.mono _ _)
      | (with_reducible exact LeO.refl _)
      | (with_reducible exact LeO.none _)
      | (with_reducible refine LeO.ite ?_ ?_)
      | (with_reducible refine LeO.bind ?_ (fun _ => ?_))
      | exact ih0 _ _ _ _ _
      | exact ih1 _ _
      | exact ih2 _ _ _ _
      | exact words_Turn.mono _ _
      | exact LeO.none _
      | refine LeO.ite ?_ ?_
      | refine LeO.bind ?_ (fun _ => ?_)
    · intro y0 y1 y2 y3
      unfold words_Get.l0
      repeat' first
      | (with_reducible exact ih0 _ _ _ _ _)
      | (with_reducible exact ih1 _ _)
      | (with_reducible exact ih2 _ _ _ _)
      | (with_reducible exact words_Turn.mono _ _)
      | (with_reducible exact LeO.refl _)
      | (with_reducible exact LeO.none _)
      | (with_reducible refine LeO.ite ?_ ?_)
      | (with_reducible refine LeO.bind ?_ (fun _ => ?_))
      | exact ih0 _ _ _ _ _
      | exact ih1 _ _
      | exact ih2 _ _ _ _
      | exact words_Turn.mono _ _
      | exact LeO.none _
      | refine LeO.ite ?_ ?_
      | refine LeO.bind ?_ (fun _ => ?_)
theorem words_Get.mono : ∀ a0 a1 a2 a3 k, LeO (words_Get.f k a0 a1 a2 a3) (words_Get.f (k + 1) a0 a1 a2 a3) := by
  intro a0 a1 a2 a3 k
  obtain ⟨ih0, ih1, ih2⟩ := words_Get.mono_l k
  unfold words_Get.f
  repeat' first
      | (with_reducible exact ih0 _ _ _ _ _)
      | (with_reducible exact ih1 _ _)
      | (with_reducible exact ih2 _ _ _ _)
      | (with_reducible exact words_Turn.mono _ _)
      | (with_reducible exact LeO.refl _)
      | (with_reducible exact LeO.none _)
      | (with_reducible refine LeO.ite ?_ ?_)
      | (with_reducible refine LeO.bind ?_ (fun _ => ?_))
      | exact ih0 _ _ _ _ _
      | exact ih1 _ _
      | exact ih2 _ _ _ _
      | exact words_Turn.mono _ _
      | exact LeO.none _
      | refine LeO.ite ?_ ?_
      | refine LeO.bind ?_ (fun _ => ?_)
set_option maxHeartbeats 8000000 in
set_option maxRecDepth 100000 in
theorem words_Get.calls (k : Nat) (a0 : ByteArray) (a1 : Int) (a2 : Int) (a3 : Bool) (r1 : Int) (r2 : Int) (w : World) (h : words_Get.f k a0 a1 a2 a3 = some (r1, r2)) :
    Calls Try.prog 9 #[.string a0, .int .i64 a1, .int .i64 a2, .bool a3] w fun e w' => e = .returned (.tuple #[.int .u64 r1, .int .i64 r2]) ∧ Below w.heap.size w w' := by
  have HB := Aside0.mk (Below.refl w.heap.size w)
  have H : (if a2 < 1 then (words_Get.j0 k a0 a1 a2 a3 true) else (words_Get.j0 k a0 a1 a2 a3 (decide (a2 > 8)))) = some (r1, r2) := h
  clear h
  have HC5 := Aside0.mk H
  clear H
  go_enter Try.func9, Try.ntmps9
  go_upto_region 1 with (fail)
  go_cut [12] (fun v12 wc => ∃ (kq : Nat) (x12_4 : Bool), v12 = .bool x12_4 ∧ Aside0 (words_Get.j0 kq a0 a1 a2 a3 x12_4 = some (r1, r2)) ∧ Aside0 (kq ≤ k) ∧ Aside0 (Below w.heap.size w wc))
  case first =>
    have H := HC5.out
    clear HC5
    by_cases c6 : a2 < 1
    · rw [if_pos c6] at H
      have c6b0 : decide (a2 < 1) = true := decide_eq_true c6
      clear c6
      (first | rw [c6b0] | (simp only [i64_w, i32_w]; rw [c6b0]) | skip)
      have H' := Aside0.mk H
      clear H
      go_wp2
      go_meet
      case rel => exact ⟨_, (true), (by first | rfl | (simp; done) | (simp [*]; done)), H', ⟨by first | omega | exact Nat.le_refl _⟩, ⟨by repeat (first | (with_reducible first | exact HB.out | apply below_alloc | apply pw_below_drewN | apply below_drew1) | exact HB.out)⟩⟩
    · rw [if_neg c6] at H
      have c6b0 : decide (a2 < 1) = false := decide_eq_false c6
      clear c6
      (first | rw [c6b0] | (simp only [i64_w, i32_w]; rw [c6b0]) | skip)
      have H' := Aside0.mk H
      clear H
      go_wp2
      go_meet
      case rel => exact ⟨_, (decide (a2 > 8)), (by first | rfl | (simp; done) | (simp [*]; done)), H', ⟨by first | omega | exact Nat.le_refl _⟩, ⟨by repeat (first | (with_reducible first | exact HB.out | apply below_alloc | apply pw_below_drewN | apply below_drew1) | exact HB.out)⟩⟩
  case rest =>
    clear HC5
    try clear p2
    try clear c6
    try clear c6b0
    obtain ⟨kq, x12_4, rfl, HA, HJ4, HB⟩ := hcut
    cases kq with
    | zero => exact absurd HA.out (by simp [words_Get.j0])
    | succ kj4 =>
      have H := HA.out
      clear HA
      simp only [words_Get.j0] at H
      by_cases c7 : x12_4 = true
      · subst c7
        have H1 : (some (0, 1)) = some (r1, r2) := by rw [if_pos rfl] at H; exact H
        clear H
        have H := H1
        clear H1
        simp only [Option.some.injEq, Prod.mk.injEq] at H
        obtain ⟨rfl, rfl⟩ := H
        go_wp2
        go_ret2
        exact ⟨by first | rfl | (simp [errW_none, errW_some] <;> rfl) | (simp [*, errW_none, errW_some] <;> rfl), by repeat (first | (with_reducible first | exact HB.out | apply below_alloc | apply pw_below_drewN | apply below_drew1) | exact HB.out)⟩
      · replace c7 := Bool.eq_false_iff.mpr c7
        subst c7
        have H1 : (if a1 < 0 then (some (0, 10)) else (if a1 > (wrap64 ((a0.size : Int) - a2)) then (some (0, 10)) else (if 0 ≤ a1 then (if a1 ≤ (wrap64 (a1 + a2)) then (if (wrap64 (a1 + a2)) ≤ (a0.size : Int) then (if a3 = true then (words_Get.j1 kj4 (a0.extract (a1 : Int).toNat ((wrap64 (a1 + a2)) : Int).toNat) a2) else ((words_Turn.f kj4 (a0.extract (a1 : Int).toNat ((wrap64 (a1 + a2)) : Int).toNat)).bind fun t105 => (words_Get.j1 kj4 t105 a2))) else (none)) else (none)) else (none)))) = some (r1, r2) := by rw [if_neg (show ¬ (false = true) by decide)] at H; exact H
        clear H
        have H := H1
        clear H1
        by_cases c8 : a1 < 0
        · rw [if_pos c8] at H
          have c8b0 : decide (a1 < 0) = true := decide_eq_true c8
          clear c8
          simp only [Option.some.injEq, Prod.mk.injEq] at H
          obtain ⟨rfl, rfl⟩ := H
          go_wp2
          go_ret2
          exact ⟨by first | rfl | (simp [errW_none, errW_some] <;> rfl) | (simp [*, errW_none, errW_some] <;> rfl), by repeat (first | (with_reducible first | exact HB.out | apply below_alloc | apply pw_below_drewN | apply below_drew1) | exact HB.out)⟩
        · rw [if_neg c8] at H
          have c8b0 : decide (a1 < 0) = false := decide_eq_false c8
          clear c8
          by_cases c9 : a1 > (wrap64 ((a0.size : Int) - a2))
          · rw [if_pos c9] at H
            have c9b0 : decide ((wrap64 ((a0.size : Int) - a2)) < a1) = true := decide_eq_true c9
            clear c9
            simp only [Option.some.injEq, Prod.mk.injEq] at H
            obtain ⟨rfl, rfl⟩ := H
            go_wp2
            go_ret2
            exact ⟨by first | rfl | (simp [errW_none, errW_some] <;> rfl) | (simp [*, errW_none, errW_some] <;> rfl), by repeat (first | (with_reducible first | exact HB.out | apply below_alloc | apply pw_below_drewN | apply below_drew1) | exact HB.out)⟩
          · rw [if_neg c9] at H
            have c9b0 : decide ((wrap64 ((a0.size : Int) - a2)) < a1) = false := decide_eq_false c9
            clear c9
            by_cases c10 : 0 ≤ a1
            · rw [if_pos c10] at H
              have c10b0 := eq_true c10
              have c10b1 : decide (0 ≤ a1) = true := decide_eq_true c10
              clear c10
              by_cases c11 : a1 ≤ (wrap64 (a1 + a2))
              · rw [if_pos c11] at H
                have c11b0 := eq_true c11
                have c11b1 : decide (a1 ≤ (wrap64 (a1 + a2))) = true := decide_eq_true c11
                by_cases c12 : (wrap64 (a1 + a2)) ≤ (a0.size : Int)
                · rw [if_pos c12] at H
                  have c12b0 := eq_true c12
                  have c12b1 : decide ((wrap64 (a1 + a2)) ≤ (a0.size : Int)) = true := decide_eq_true c12
                  have HC13 := Aside0.mk H
                  clear H
                  go_upto_if 37 with (fail)
                  go_cut [0] (fun v0 wc => ∃ (kq : Nat) (x0_12 : ByteArray), v0 = .string x0_12 ∧ Aside0 (words_Get.j1 kq x0_12 a2 = some (r1, r2)) ∧ Aside0 (kq ≤ kj4) ∧ Aside0 (Below w.heap.size w wc))
                  case first =>
                    have H := HC13.out
                    clear HC13
                    by_cases c14 : a3 = true
                    · subst c14
                      have H1 : (words_Get.j1 kj4 (a0.extract (a1 : Int).toNat ((wrap64 (a1 + a2)) : Int).toNat) a2) = some (r1, r2) := by rw [if_pos rfl] at H; exact H
                      clear H
                      have H := H1
                      clear H1
                      have H' := Aside0.mk H
                      clear H
                      go_wp2
                      go_meet
                      case rel => exact ⟨_, (a0.extract (a1 : Int).toNat ((wrap64 (a1 + a2)) : Int).toNat), (by first | rfl | (simp; done) | (simp [*]; done)), H', ⟨by have := HJ4.out; first | omega | exact Nat.le_refl _⟩, ⟨by repeat (first | (with_reducible first | exact HB.out | apply below_alloc | apply pw_below_drewN | apply below_drew1) | exact HB.out)⟩⟩
                    · replace c14 := Bool.eq_false_iff.mpr c14
                      subst c14
                      have H1 : ((words_Turn.f kj4 (a0.extract (a1 : Int).toNat ((wrap64 (a1 + a2)) : Int).toNat)).bind fun t105 => (words_Get.j1 kj4 t105 a2)) = some (r1, r2) := by rw [if_neg (show ¬ (false = true) by decide)] at H; exact H
                      clear H
                      have H := H1
                      clear H1
                      replace H := Option.bind_eq_some_iff.mp H
                      obtain ⟨t105, A150, H⟩ := H
                      replace H : (words_Get.j1 kj4 t105 a2) = some (r1, r2) := H
                      have A15 := Aside0.mk A150
                      clear A150
                      have H' := Aside0.mk H
                      clear H
                      go_wp2_with (first | ((with_reducible refine gate_callee (f := 16) rfl ?_); refine goesL_ (some 39) rfl rfl Try.func16 (by kernel_rfl) rfl #[.string (a0.extract (a1 : Int).toNat ((wrap64 (a1 + a2)) : Int).toNat)] rfl (by (try simp only [List.map_toArray, List.map_cons, List.map_nil]); first | done | rfl | (simp only [List.length_drop, List.length_take]; rfl)) ?_; (with_reducible refine (words_Turn.calls kj4 (a0.extract (a1 : Int).toNat ((wrap64 (a1 + a2)) : Int).toNat) t105 _ A15.out).mono ?_); rintro e w16 ⟨rfl, hb⟩; refine ⟨_, rfl, ?_⟩; have n0_ := Aside0.mk (below_step (by repeat (first | (with_reducible first | exact HB.out | apply below_alloc | apply pw_below_drewN | apply below_drew1) | exact HB.out)) hb); clear HB; have HB := n0_; clear n0_; (try clear hb); (try clear hb2); (try clear hk); (try clear hi)))
                      go_meet
                      case rel => exact ⟨_, (t105), (by first | rfl | (simp; done) | (simp [*]; done)), H', ⟨by have := HJ4.out; first | omega | exact Nat.le_refl _⟩, ⟨by repeat (first | (with_reducible first | exact HB.out | apply below_alloc | apply pw_below_drewN | apply below_drew1) | exact HB.out)⟩⟩
                  case rest =>
                    clear HC13
                    try clear c1
                    try clear p2
                    try clear c6
                    try clear c6b0
                    try clear p6
                    try clear c7
                    try clear c8
                    try clear c8b0
                    try clear c9
                    try clear c9b0
                    try clear c10
                    try clear c10b0
                    try clear c10b1
                    try clear c11
                    try clear c11b0
                    try clear c11b1
                    try clear c12
                    try clear c12b0
                    try clear c12b1
                    try clear c14
                    try clear c16
                    try clear p2
                    obtain ⟨kq, x0_12, rfl, HA, HJ12, HB⟩ := hcut
                    cases kq with
                    | zero => exact absurd HA.out (by simp [words_Get.j1])
                    | succ kj12 =>
                      have H := HA.out
                      clear HA
                      simp only [words_Get.j1] at H
                      have H' := Aside0.mk H
                      clear H
                      go_wp2
                      go_loopg [10, 41] kj12 (fun kq v10 v41 w' => ∃ (x10_3 : Int) (x41_3 : Int), v10 = .int .u64 x10_3 ∧ v41 = .int .i64 x41_3 ∧ Aside0 (words_Get.l0 kq x0_12 x10_3 a2 x41_3 = some (r1, r2)) ∧ Aside0 (kq ≤ kj12) ∧ Aside0 (Below w.heap.size w w'))
                      case atStart => exact ⟨(0), (0), (by first | rfl | (simp; done) | (simp [*]; done)), (by first | rfl | (simp; done) | (simp [*]; done)), H', ⟨Nat.le_refl _⟩, ⟨by repeat (first | (with_reducible first | exact HB.out | apply below_alloc | apply pw_below_drewN | apply below_drew1) | exact HB.out)⟩⟩
                      case round =>
                        clear H'
                        try clear c1
                        try clear p2
                        try clear c6
                        try clear c6b0
                        try clear p6
                        try clear c7
                        try clear c8
                        try clear c8b0
                        try clear c9
                        try clear c9b0
                        try clear c10
                        try clear c10b0
                        try clear c10b1
                        try clear c11
                        try clear c11b0
                        try clear c11b1
                        try clear c12
                        try clear c12b0
                        try clear c12b1
                        try clear c14
                        try clear c16
                        try clear p2
                        try clear p6
                        obtain ⟨x10_3, x41_3, rfl, rfl, HA, HK3, HB⟩ := hrel
                        cases gk with
                        | zero => exact absurd HA.out (by simp [words_Get.l0])
                        | succ k3 =>
                          have H := HA.out
                          clear HA
                          simp only [words_Get.l0] at H
                          by_cases c17 : x41_3 < a2
                          · rw [if_pos c17] at H
                            have c17b0 : decide (x41_3 < a2) = true := decide_eq_true c17
                            clear c17
                            by_cases c18 : 0 ≤ x41_3
                            · rw [if_pos c18] at H
                              have c18b0 : decide (0 ≤ x41_3) = true := decide_eq_true c18
                              clear c18
                              by_cases c19 : x41_3 < (x0_12.size : Int)
                              · rw [if_pos c19] at H
                                have c19b0 : decide (x41_3 < (x0_12.size : Int)) = true := decide_eq_true c19
                                clear c19
                                have H' := Aside0.mk H
                                clear H
                                have p20 : 0 ≤ (x41_3 : Int) := of_decide_eq_true (by first | (with_reducible assumption) | assumption)
                                have q20 : x41_3 < (x0_12.size : Int) := of_decide_eq_true (by first | (with_reducible assumption) | assumption)
                                have hx20 := bt_at x0_12 x41_3
                                replace p20 := eq_true p20
                                replace q20 := eq_true q20
                                go_wp2
                                go_roundg k3
                                case measure => have := HJ4.out; have := HJ12.out; have := HK3.out; omega
                                case rel => exact ⟨(Go.bits .or .u64 (IntKind.u64.wrap (x10_3 * 256)) (IntKind.u64.wrap (bt x0_12 x41_3))), (wrap64 (x41_3 + 1)), (by first | rfl | (simp; done) | (simp [*]; done)), (by first | rfl | (simp; done) | (simp [*]; done)), H', ⟨by have := HJ4.out; have := HJ12.out; have := HK3.out; omega⟩, ⟨by repeat (first | (with_reducible first | exact HB.out | apply below_alloc | apply pw_below_drewN | apply below_drew1) | exact HB.out)⟩⟩
                              · rw [if_neg c19] at H
                                exact absurd H (by simp)
                            · rw [if_neg c18] at H
                              exact absurd H (by simp)
                          · rw [if_neg c17] at H
                            have c17b0 : decide (x41_3 < a2) = false := decide_eq_false c17
                            clear c17
                            simp only [Option.some.injEq, Prod.mk.injEq] at H
                            obtain ⟨rfl, rfl⟩ := H
                            go_wp2
                            go_ret2
                            exact ⟨by first | rfl | (simp [errW_none, errW_some] <;> rfl) | (simp [*, errW_none, errW_some] <;> rfl), by repeat (first | (with_reducible first | exact HB.out | apply below_alloc | apply pw_below_drewN | apply below_drew1) | exact HB.out)⟩
                · rw [if_neg c12] at H
                  exact absurd H (by simp)
              · rw [if_neg c11] at H
                exact absurd H (by simp)
            · rw [if_neg c10] at H
              exact absurd H (by simp)

/-! ### words_may: function 18 -/
def words_may.f (a0 : Int) (a1 : Int) : Option (Bool) := if a1 ≥ 1 then (if a1 ≤ 8 then (if a1 = 8 then (some true) else (if 0 ≤ (wrap64 (8 * a1)) then (some ((shr .u64 a0 (wrap64 (8 * a1))) == 0)) else (none))) else (some false)) else (some false)
set_option maxHeartbeats 8000000 in
set_option maxRecDepth 100000 in
theorem words_may.calls (a0 : Int) (a1 : Int) (r : Bool) (w : World) (h : words_may.f a0 a1 = some r) :
    Calls Try.prog 18 #[.int .u64 a0, .int .i64 a1] w fun e w' => e = .returned (.bool r) ∧ Drawn0 w w' := by
  have H : (if a1 ≥ 1 then (if a1 ≤ 8 then (if a1 = 8 then (some true) else (if 0 ≤ (wrap64 (8 * a1)) then (some ((shr .u64 a0 (wrap64 (8 * a1))) == 0)) else (none))) else (some false)) else (some false)) = some r := h
  clear h
  by_cases c3 : a1 ≥ 1
  · rw [if_pos c3] at H
    have c3b0 : decide (1 ≤ a1) = true := decide_eq_true c3
    clear c3
    by_cases c4 : a1 ≤ 8
    · rw [if_pos c4] at H
      have c4b0 : decide (a1 ≤ 8) = true := decide_eq_true c4
      clear c4
      by_cases c5 : a1 = 8
      · rw [if_pos c5] at H
        have c5b0 : (a1 == 8) = true := beq_iff_eq.mpr c5
        have c5b1 : (a1 != 8) = false := bne_eq_false_iff_eq.mpr c5
        clear c5
        obtain rfl := Option.some.inj H
        go_enter Try.func18, Try.ntmps18
        go_wp2
        go_ret
        exact ⟨by first | rfl | (simp; done) | (simp [*]; done), by repeat (first | exact Drawn0.refl _ | apply Drawn0.step)⟩
      · rw [if_neg c5] at H
        have c5b0 : (a1 == 8) = false := beq_eq_false_iff_ne.mpr c5
        have c5b1 : (a1 != 8) = true := bne_iff_ne.mpr c5
        obtain ⟨ji6, hji6⟩ : ∃ j_ : Int, (wrap64 (8 * a1)) = j_ := ⟨_, rfl⟩
        replace H : (if 0 ≤ (ji6) then (some ((shr .u64 a0 (ji6)) == 0)) else (none)) = some r := by first | (rw [hji6] at H; exact H) | (simp only [hji6] at H ⊢; exact H)
        have hji6w : (IntKind.i64.wrap (8 * a1)) = ji6 := (i64_w _).trans hji6
        by_cases c7 : 0 ≤ (ji6)
        · rw [if_pos c7] at H
          have c7b0 := eq_true c7
          have c7b1 : decide (0 ≤ (ji6)) = true := decide_eq_true c7
          clear c7
          obtain ⟨ji8, hji8⟩ : ∃ j_ : Int, (shr .u64 a0 (ji6)) = j_ := ⟨_, rfl⟩
          replace H : (some ((ji8) == 0)) = some r := by first | (rw [hji8] at H; exact H) | (simp only [hji8] at H ⊢; exact H)
          have hji8_ : (a0 / 2 ^ min (ji6).toNat 64) = ji8 := hji8
          have hji8z : (ji6) ≤ 64 → (a0 / 2 ^ (ji6).toNat) = ji8 := shr_small hji8
          obtain rfl := Option.some.inj H
          go_enter Try.func18, Try.ntmps18
          go_wp2
          go_ret
          exact ⟨by first | rfl | (simp; done) | (simp only [← hji6, ← hji8] <;> (first | rfl | simp)) | (simp [*]; done), by repeat (first | exact Drawn0.refl _ | apply Drawn0.step)⟩
        · rw [if_neg c7] at H
          exact absurd H (by simp)
    · rw [if_neg c4] at H
      have c4b0 : decide (a1 ≤ 8) = false := decide_eq_false c4
      clear c4
      obtain rfl := Option.some.inj H
      go_enter Try.func18, Try.ntmps18
      go_wp2
      go_ret
      exact ⟨by first | rfl | (simp; done) | (simp [*]; done), by repeat (first | exact Drawn0.refl _ | apply Drawn0.step)⟩
  · rw [if_neg c3] at H
    have c3b0 : decide (1 ≤ a1) = false := decide_eq_false c3
    clear c3
    obtain rfl := Option.some.inj H
    go_enter Try.func18, Try.ntmps18
    go_wp2
    go_ret
    exact ⟨by first | rfl | (simp; done) | (simp [*]; done), by repeat (first | exact Drawn0.refl _ | apply Drawn0.step)⟩

/-! ### words_Put: function 11 -/
def words_Put.l0 : Nat → Int → Int → Bool → List Int → Int → Int → Option (ByteArray × Int)
  | 0, _, _, _, _, _, _ => none
  | k + 1, x0, x1, x2, x8, x16, x17 => if x17 < x16 then (if 0 ≤ (wrap64 (8 * x17)) then (if 0 ≤ (wrap64 ((wrap64 (x1 - 1)) - x17)) then (if (wrap64 ((wrap64 (x1 - 1)) - x17)) < (x8.length : Int) then (words_Put.l0 k x0 x1 x2 (x8.set ((wrap64 ((wrap64 (x1 - 1)) - x17)) : Int).toNat ((shr .u64 x0 (wrap64 (8 * x17))) % 256)) x16 (wrap64 (x17 + 1))) else (none)) else (none)) else (none)) else (if x2 = true then (some (strOfNums x8, 0)) else ((words_Turn.f k (strOfNums x8)).bind fun t111 => (some (t111, 0))))
def words_Put.f (k : Nat) (a0 : Int) (a1 : Int) (a2 : Bool) : Option (ByteArray × Int) := (words_may.f a0 a1).bind fun t106 => (if t106 = true then (if 0 ≤ a1 then (if (a1 : Int).toNat ≤ 281474976710656 then (words_Put.l0 k a0 a1 a2 (List.replicate (a1 : Int).toNat 0) a1 0) else (none)) else (none)) else (some ((⟨#[]⟩ : ByteArray), 1)))
theorem words_Put.mono_l : ∀ k, (∀ y0 y1 y2 y3 y4 y5, LeO (words_Put.l0 k y0 y1 y2 y3 y4 y5) (words_Put.l0 (k + 1) y0 y1 y2 y3 y4 y5))
  | 0 => fun _ _ _ _ _ _ r h => by simp [words_Put.l0] at h
  | k + 1 => by
    have ih0 := words_Put.mono_l k
    · intro y0 y1 y2 y3 y4 y5
      unfold words_Put.l0
      repeat' first
      | (with_reducible exact ih0 _ _ _ _ _ _)
      | (with_reducible exact words_Turn.mono _ _)
      | (with_reducible exact LeO.refl _)
      | (with_reducible exact LeO.none _)
      | (with_reducible refine LeO.ite ?_ ?_)
      | (with_reducible refine LeO.bind ?_ (fun _ => ?_))
      | exact ih0 _ _ _ _ _ _
      | exact words_Turn.mono _ _
      | exact LeO.none _
      | refine LeO.ite ?_ ?_
      | refine LeO.bind ?_ (fun _ => ?_)
theorem words_Put.mono : ∀ a0 a1 a2 k, LeO (words_Put.f k a0 a1 a2) (words_Put.f (k + 1) a0 a1 a2) := by
  intro a0 a1 a2 k
  have ih0 := words_Put.mono_l k
  unfold words_Put.f
  repeat' first
      | (with_reducible exact ih0 _ _ _ _ _ _)
      | (with_reducible exact words_Turn.mono _ _)
      | (with_reducible exact LeO.refl _)
      | (with_reducible exact LeO.none _)
      | (with_reducible refine LeO.ite ?_ ?_)
      | (with_reducible refine LeO.bind ?_ (fun _ => ?_))
      | exact ih0 _ _ _ _ _ _
      | exact words_Turn.mono _ _
      | exact LeO.none _
      | refine LeO.ite ?_ ?_
      | refine LeO.bind ?_ (fun _ => ?_)
set_option maxHeartbeats 8000000 in
set_option maxRecDepth 100000 in
theorem words_Put.calls (k : Nat) (a0 : Int) (a1 : Int) (a2 : Bool) (r1 : ByteArray) (r2 : Int) (w : World) (h : words_Put.f k a0 a1 a2 = some (r1, r2)) :
    Calls Try.prog 11 #[.int .u64 a0, .int .i64 a1, .bool a2] w fun e w' => e = .returned (.tuple #[.string r1, .int .i64 r2]) ∧ Below w.heap.size w w' := by
  have HB := Aside0.mk (Below.refl w.heap.size w)
  have H : ((words_may.f a0 a1).bind fun t106 => (if t106 = true then (if 0 ≤ a1 then (if (a1 : Int).toNat ≤ 281474976710656 then (words_Put.l0 k a0 a1 a2 (List.replicate (a1 : Int).toNat 0) a1 0) else (none)) else (none)) else (some ((⟨#[]⟩ : ByteArray), 1)))) = some (r1, r2) := h
  clear h
  replace H := Option.bind_eq_some_iff.mp H
  obtain ⟨t106, A40, H⟩ := H
  replace H : (if t106 = true then (if 0 ≤ a1 then (if (a1 : Int).toNat ≤ 281474976710656 then (words_Put.l0 k a0 a1 a2 (List.replicate (a1 : Int).toNat 0) a1 0) else (none)) else (none)) else (some ((⟨#[]⟩ : ByteArray), 1))) = some (r1, r2) := H
  have A4 := Aside0.mk A40
  clear A40
  by_cases c5 : t106 = true
  · subst c5
    have H1 : (if 0 ≤ a1 then (if (a1 : Int).toNat ≤ 281474976710656 then (words_Put.l0 k a0 a1 a2 (List.replicate (a1 : Int).toNat 0) a1 0) else (none)) else (none)) = some (r1, r2) := by rw [if_pos rfl] at H; exact H
    clear H
    have H := H1
    clear H1
    by_cases c6 : 0 ≤ a1
    · rw [if_pos c6] at H
      have c6b0 := eq_true c6
      have c6b1 : decide (0 ≤ a1) = true := decide_eq_true c6
      clear c6
      by_cases c7 : (a1 : Int).toNat ≤ 281474976710656
      · rw [if_pos c7] at H
        have c7b0 := eq_true c7
        have c7b1 : decide ((a1 : Int).toNat ≤ 281474976710656) = true := decide_eq_true c7
        clear c7
        obtain ⟨y107, hy107⟩ : ∃ y_ : List Int, y_ = (List.replicate (a1 : Int).toNat 0) := ⟨_, rfl⟩
        replace H : (words_Put.l0 k a0 a1 a2 y107 a1 0) = some (r1, r2) := by first | (rw [hy107]; with_reducible exact H) | (have H2_ := (Option.bind_some _ _).symm.trans H; rw [hy107]; with_reducible exact H2_) | (have H2_ := (Option.bind_some _ _).symm.trans H; with_reducible exact H2_) | with_reducible exact H | (rw [hy107]; exact H) | exact H
        have Ny107 := Aside0.mk hy107
        clear hy107
        have H' := Aside0.mk H
        clear H
        go_enter Try.func11, Try.ntmps11
        go_wp2_with (first | ((with_reducible refine gate_callee (f := 18) rfl ?_); refine goesL_ (some 12) rfl rfl Try.func18 (by kernel_rfl) rfl #[.int .u64 a0, .int .i64 a1] rfl (by (try simp only [List.map_toArray, List.map_cons, List.map_nil]); first | done | rfl | (simp only [List.length_drop, List.length_take]; rfl)) ?_; (with_reducible refine (words_may.calls a0 a1 true _ A4.out).mono ?_); rintro e w' ⟨rfl, ⟨nd, rfl⟩⟩; refine ⟨_, rfl, ?_⟩) | ((with_reducible refine gate_dst (N := 15) rfl ?_); refine Kd.R_make (Kd.int .u8) _ 5 rfl (N := 15) rfl 36 _ _ rfl a1 rfl rfl Try.underlying36 (.int .u8 0) 1 info5 rfl (by decide) (by omega) 0 (ok := fun _ => True) (okp := fun _ => True) rfl (fun _ hk => hk) trivial (of_decide_eq_true (by first | (with_reducible assumption) | assumption)) (Nat.le_trans (Nat.mul_le_mul_right _ (of_decide_eq_true (by first | (with_reducible assumption) | assumption) : a1.toNat ≤ 281474976710656)) (by omega)) (Below.refl _ _) (Nat.le_refl _) ?_; intro v108 w8 ho9 hb hg_ hnew_; clear hg_ hnew_; (first | rw [← Ny107.out] at ho9 | (simp only [Int.reduceToNat] at ho9; rw [← Ny107.out] at ho9)); have n0_ := Aside0.mk (Kd.R_lower ho9 (below_size (by repeat (first | (with_reducible first | exact HB.out | apply below_alloc | apply pw_below_drewN | apply below_drew1) | exact HB.out)))); have n1_ := Aside0.mk (below_step (by repeat (first | (with_reducible first | exact HB.out | apply below_alloc | apply pw_below_drewN | apply below_drew1) | exact HB.out)) hb); clear HB; have HO109 := n0_; have HB := n1_; clear n0_ n1_; clear hb ho9))
        go_loopg [17] k (fun kq v17 w' => ∃ (x8_1 : List Int) (x17_1 : Int), v17 = .int .i64 x17_1 ∧ Aside0 (words_Put.l0 kq a0 a1 a2 x8_1 a1 x17_1 = some (r1, r2)) ∧ Aside0 (kq ≤ k) ∧ Aside0 (Kd.R (Kd.int .u8) 5 w' w.heap.size (fun _ => True) v108 x8_1) ∧ Aside0 (Below w.heap.size w w'))
        case atStart => exact ⟨(y107), (0), (by first | rfl | (simp; done) | (simp [*]; done)), H', ⟨Nat.le_refl _⟩, ⟨by (with_reducible repeat (first | apply Kd.R_alloc | apply Kd.R_drewN | apply Kd.R_drew)); exact HO109.out⟩, ⟨by repeat (first | (with_reducible first | exact HB.out | apply below_alloc | apply pw_below_drewN | apply below_drew1) | exact HB.out)⟩⟩
        case round =>
          clear H'
          try clear c1
          try clear p2
          try clear c5
          try clear c6
          try clear c6b0
          try clear c6b1
          try clear c7
          try clear c7b0
          try clear c7b1
          obtain ⟨x8_1, x17_1, rfl, HA, HK1, HO_8, HB⟩ := hrel
          cases gk with
          | zero => exact absurd HA.out (by simp [words_Put.l0])
          | succ k1 =>
            have H := HA.out
            clear HA
            simp only [words_Put.l0] at H
            by_cases c10 : x17_1 < a1
            · rw [if_pos c10] at H
              have c10b0 : decide (x17_1 < a1) = true := decide_eq_true c10
              clear c10
              obtain ⟨ji11, hji11⟩ : ∃ j_ : Int, (wrap64 (8 * x17_1)) = j_ := ⟨_, rfl⟩
              replace H : (if 0 ≤ (ji11) then (if 0 ≤ (wrap64 ((wrap64 (a1 - 1)) - x17_1)) then (if (wrap64 ((wrap64 (a1 - 1)) - x17_1)) < (x8_1.length : Int) then (words_Put.l0 k1 a0 a1 a2 (x8_1.set ((wrap64 ((wrap64 (a1 - 1)) - x17_1)) : Int).toNat ((shr .u64 a0 (ji11)) % 256)) a1 (wrap64 (x17_1 + 1))) else (none)) else (none)) else (none)) = some (r1, r2) := by first | (rw [hji11] at H; exact H) | (simp only [hji11] at H ⊢; exact H)
              have hji11w : (IntKind.i64.wrap (8 * x17_1)) = ji11 := (i64_w _).trans hji11
              by_cases c12 : 0 ≤ (ji11)
              · rw [if_pos c12] at H
                have c12b0 := eq_true c12
                have c12b1 : decide (0 ≤ (ji11)) = true := decide_eq_true c12
                clear c12
                obtain ⟨ji13, hji13⟩ : ∃ j_ : Int, (shr .u64 a0 (ji11)) = j_ := ⟨_, rfl⟩
                replace H : (if 0 ≤ (wrap64 ((wrap64 (a1 - 1)) - x17_1)) then (if (wrap64 ((wrap64 (a1 - 1)) - x17_1)) < (x8_1.length : Int) then (words_Put.l0 k1 a0 a1 a2 (x8_1.set ((wrap64 ((wrap64 (a1 - 1)) - x17_1)) : Int).toNat ((ji13) % 256)) a1 (wrap64 (x17_1 + 1))) else (none)) else (none)) = some (r1, r2) := by first | (rw [hji13] at H; exact H) | (simp only [hji13] at H ⊢; exact H)
                have hji13_ : (a0 / 2 ^ min (ji11).toNat 64) = ji13 := hji13
                have hji13z : (ji11) ≤ 64 → (a0 / 2 ^ (ji11).toNat) = ji13 := shr_small hji13
                obtain ⟨ji14, hji14⟩ : ∃ j_ : Int, (wrap64 ((wrap64 (a1 - 1)) - x17_1)) = j_ := ⟨_, rfl⟩
                replace H : (if 0 ≤ (ji14) then (if (ji14) < (x8_1.length : Int) then (words_Put.l0 k1 a0 a1 a2 (x8_1.set ((ji14) : Int).toNat ((ji13) % 256)) a1 (wrap64 (x17_1 + 1))) else (none)) else (none)) = some (r1, r2) := by first | (rw [hji14] at H; exact H) | (simp only [hji14] at H ⊢; exact H)
                have hji14w : (IntKind.i64.wrap ((wrap64 (a1 - 1)) - x17_1)) = ji14 := (i64_w _).trans hji14
                by_cases c15 : 0 ≤ (ji14)
                · rw [if_pos c15] at H
                  have c15b0 : decide (0 ≤ (ji14)) = true := decide_eq_true c15
                  clear c15
                  by_cases c16 : (ji14) < (x8_1.length : Int)
                  · rw [if_pos c16] at H
                    have c16b0 : decide ((ji14) < (x8_1.length : Int)) = true := decide_eq_true c16
                    clear c16
                    obtain ⟨y110, hy110⟩ : ∃ y_ : List Int, y_ = (x8_1.set ((ji14) : Int).toNat ((ji13) % 256)) := ⟨_, rfl⟩
                    replace H : (words_Put.l0 k1 a0 a1 a2 y110 a1 (wrap64 (x17_1 + 1))) = some (r1, r2) := by first | (rw [hy110]; with_reducible exact H) | (have H2_ := (Option.bind_some _ _).symm.trans H; rw [hy110]; with_reducible exact H2_) | (have H2_ := (Option.bind_some _ _).symm.trans H; with_reducible exact H2_) | with_reducible exact H | (rw [hy110]; exact H) | exact H
                    have Ny110 := Aside0.mk hy110
                    clear hy110
                    have H' := Aside0.mk H
                    clear H
                    have p17 : 0 ≤ ((ji14) : Int) := of_decide_eq_true (by first | (with_reducible assumption) | assumption)
                    have q17 : ((ji14) : Int) < ((x8_1.length : Int) : Int) := of_decide_eq_true (by first | (with_reducible assumption) | assumption)
                    obtain ⟨go17, co17, eo17, gb17, gl17, cl17, HG17⟩ := Kd.R_form HO_8.out (by omega)
                    (first | cases eo17 | (injection eo17 with ea_ en_ ec_; (first | subst ea_ | (injection ea_ with ea_; subst ea_)); subst ec_; clear en_))
                    have GB17 := Aside0.mk gb17
                    have GG17 := Aside0.mk HG17
                    clear gb17 gl17 HG17
                    obtain ⟨hx17_0, hf17_0⟩ := Kd.R_celln 0 HO_8.out ((ji14) : Int) p17 q17
                    replace p17 := eq_true p17
                    replace q17 := eq_true q17
                    have HP18 := Kd.R_putg HO_8.out ((ji14) : Int) ((ji13) % 256)
                    go_wp2_with (first | ((with_reducible refine gate_store (t := 5) (p := 30) rfl ?_); refine store_event (t := 5) (p := 30) (v := ?vo_w19) (w1 := (wr.setCell ⟨go17, ((ji14) : Int).toNat, none⟩ (.int .u8 ((ji13) % 256)))) ?hg ?ho ?hn ?hr ?_; (case ho => rfl); (case hg => rfl); (case hn => rfl); (case hr => first | (go_simp; done) | (go_simp; rfl)); intro w19 hw; have hg : wr.grownBy w19 (some go17) := (by rw [hw]; exact HP18.2); have hp_ : Kd.R (Kd.int .u8) 5 w19 w.heap.size (fun _ => True) (.slice (some ⟨go17, 0, none⟩) x8_1.length co17) y110 := (by rw [hw, Ny110.out]; exact HP18.1); clear HP18; have n0_ := Aside0.mk (hp_); have n1_ := Aside0.mk ((by rw [hw]; exact below_set (HB.out) GB17.out : Below w.heap.size w w19)); clear HO_8; clear HB; have HO_8 := n0_; have HB := n1_; clear n0_ n1_; clear hg hw hp_))
                    go_roundg k1
                    case measure => have := HK1.out; omega
                    case rel => exact ⟨(y110), (wrap64 (x17_1 + 1)), (by first | rfl | (simp; done) | (simp [*]; done)), H', ⟨by have := HK1.out; omega⟩, ⟨by (with_reducible repeat (first | apply Kd.R_alloc | apply Kd.R_drewN | apply Kd.R_drew)); exact HO_8.out⟩, ⟨by repeat (first | (with_reducible first | exact HB.out | apply below_alloc | apply pw_below_drewN | apply below_drew1) | exact HB.out)⟩⟩
                  · rw [if_neg c16] at H
                    exact absurd H (by simp)
                · rw [if_neg c15] at H
                  exact absurd H (by simp)
              · rw [if_neg c12] at H
                exact absurd H (by simp)
            · rw [if_neg c10] at H
              have c10b0 : decide (x17_1 < a1) = false := decide_eq_false c10
              clear c10
              by_cases c20 : a2 = true
              · subst c20
                have H1 : (some (strOfNums x8_1, 0)) = some (r1, r2) := by rw [if_pos rfl] at H; exact H
                clear H
                have H := H1
                clear H1
                simp only [Option.some.injEq, Prod.mk.injEq] at H
                obtain ⟨rfl, rfl⟩ := H
                have hcv21 := own_string (P := Try.prog) Try.underlying36 Try.underlying5 Try.underlying9 (Kd.own_of_R HO_8.out)
                go_wp2
                go_ret2
                exact ⟨by first | rfl | (simp [errW_none, errW_some] <;> rfl) | (simp [*, errW_none, errW_some] <;> rfl), by repeat (first | (with_reducible first | exact HB.out | apply below_alloc | apply pw_below_drewN | apply below_drew1) | exact HB.out)⟩
              · replace c20 := Bool.eq_false_iff.mpr c20
                subst c20
                have H1 : ((words_Turn.f k1 (strOfNums x8_1)).bind fun t111 => (some (t111, 0))) = some (r1, r2) := by rw [if_neg (show ¬ (false = true) by decide)] at H; exact H
                clear H
                have H := H1
                clear H1
                replace H := Option.bind_eq_some_iff.mp H
                obtain ⟨t111, A220, H⟩ := H
                replace H : (some (t111, 0)) = some (r1, r2) := H
                have A22 := Aside0.mk A220
                clear A220
                simp only [Option.some.injEq, Prod.mk.injEq] at H
                obtain ⟨rfl, rfl⟩ := H
                have hcv23 := own_string (P := Try.prog) Try.underlying36 Try.underlying5 Try.underlying9 (Kd.own_of_R HO_8.out)
                go_wp2_with (first | ((with_reducible refine gate_callee (f := 16) rfl ?_); refine goesL_ (some 36) rfl rfl Try.func16 (by kernel_rfl) rfl #[.string (strOfNums x8_1)] rfl (by (try simp only [List.map_toArray, List.map_cons, List.map_nil]); first | done | rfl | (simp only [List.length_drop, List.length_take]; rfl)) ?_; (with_reducible refine (words_Turn.calls k1 (strOfNums x8_1) t111 _ A22.out).mono ?_); rintro e w24 ⟨rfl, hb⟩; refine ⟨_, rfl, ?_⟩; have n0_ := Aside0.mk (Kd.R_below (by (with_reducible repeat (first | apply Kd.R_alloc | apply Kd.R_drewN | apply Kd.R_drew)); exact HO_8.out) hb); have n1_ := Aside0.mk (below_step (by repeat (first | (with_reducible first | exact HB.out | apply below_alloc | apply pw_below_drewN | apply below_drew1) | exact HB.out)) hb); clear HO_8; clear HB; have HO_8 := n0_; have HB := n1_; clear n0_ n1_; (try clear hb); (try clear hb2); (try clear hk); (try clear hi)))
                go_ret2
                exact ⟨by first | rfl | (simp [errW_none, errW_some] <;> rfl) | (simp [*, errW_none, errW_some] <;> rfl), by repeat (first | (with_reducible first | exact HB.out | apply below_alloc | apply pw_below_drewN | apply below_drew1) | exact HB.out)⟩
      · rw [if_neg c7] at H
        exact absurd H (by simp)
    · rw [if_neg c6] at H
      exact absurd H (by simp)
  · replace c5 := Bool.eq_false_iff.mpr c5
    subst c5
    have H1 : (some ((⟨#[]⟩ : ByteArray), 1)) = some (r1, r2) := by rw [if_neg (show ¬ (false = true) by decide)] at H; exact H
    clear H
    have H := H1
    clear H1
    simp only [Option.some.injEq, Prod.mk.injEq] at H
    obtain ⟨rfl, rfl⟩ := H
    go_enter Try.func11, Try.ntmps11
    go_wp2_with (first | ((with_reducible refine gate_callee (f := 18) rfl ?_); refine goesL_ (some 12) rfl rfl Try.func18 (by kernel_rfl) rfl #[.int .u64 a0, .int .i64 a1] rfl (by (try simp only [List.map_toArray, List.map_cons, List.map_nil]); first | done | rfl | (simp only [List.length_drop, List.length_take]; rfl)) ?_; (with_reducible refine (words_may.calls a0 a1 false _ A4.out).mono ?_); rintro e w' ⟨rfl, ⟨nd, rfl⟩⟩; refine ⟨_, rfl, ?_⟩))
    go_ret2
    exact ⟨by first | rfl | (simp [errW_none, errW_some] <;> rfl) | (simp [*, errW_none, errW_some] <;> rfl), by repeat (first | (with_reducible first | exact HB.out | apply below_alloc | apply pw_below_drewN | apply below_drew1) | exact HB.out)⟩

/-! ### words_Set: function 14 -/
def words_Set.f (k : Nat) (a0 : ByteArray) (a1 : Int) (a2 : Int) (a3 : Int) (a4 : Bool) : Option (ByteArray × Int) := (words_Put.f k a2 a3 a4).bind fun bt112 => (if bt112.2 = 0 then (if a1 < 0 then (some ((⟨#[]⟩ : ByteArray), 10)) else (if a1 > (wrap64 ((a0.size : Int) - a3)) then (some ((⟨#[]⟩ : ByteArray), 10)) else (if 0 ≤ a1 then (if a1 ≤ (a0.size : Int) then (if (a0.extract 0 (a1 : Int).toNat).size + bt112.1.size ≤ 9223372036854775807 then (if 0 ≤ (wrap64 (a1 + a3)) then (if (wrap64 (a1 + a3)) ≤ (a0.size : Int) then (if ((a0.extract 0 (a1 : Int).toNat) ++ bt112.1).size + (a0.extract ((wrap64 (a1 + a3)) : Int).toNat a0.size).size ≤ 9223372036854775807 then (some (((a0.extract 0 (a1 : Int).toNat) ++ bt112.1) ++ (a0.extract ((wrap64 (a1 + a3)) : Int).toNat a0.size), 0)) else (none)) else (none)) else (none)) else (none)) else (none)) else (none)))) else (some ((⟨#[]⟩ : ByteArray), bt112.2)))
theorem words_Set.mono : ∀ a0 a1 a2 a3 a4 k, LeO (words_Set.f k a0 a1 a2 a3 a4) (words_Set.f (k + 1) a0 a1 a2 a3 a4) := by
  intro a0 a1 a2 a3 a4 k
  unfold words_Set.f
  repeat' first
      | (with_reducible exact words_Put.mono _ _ _ _)
      | (with_reducible exact LeO.refl _)
      | (with_reducible exact LeO.none _)
      | (with_reducible refine LeO.ite ?_ ?_)
      | (with_reducible refine LeO.bind ?_ (fun _ => ?_))
      | exact words_Put.mono _ _ _ _
      | exact LeO.none _
      | refine LeO.ite ?_ ?_
      | refine LeO.bind ?_ (fun _ => ?_)
set_option maxHeartbeats 8000000 in
set_option maxRecDepth 100000 in
theorem words_Set.calls (k : Nat) (a0 : ByteArray) (a1 : Int) (a2 : Int) (a3 : Int) (a4 : Bool) (r1 : ByteArray) (r2 : Int) (w : World) (h : words_Set.f k a0 a1 a2 a3 a4 = some (r1, r2)) :
    Calls Try.prog 14 #[.string a0, .int .i64 a1, .int .u64 a2, .int .i64 a3, .bool a4] w fun e w' => e = .returned (.tuple #[.string r1, .int .i64 r2]) ∧ Below w.heap.size w w' := by
  have HB := Aside0.mk (Below.refl w.heap.size w)
  have H : ((words_Put.f k a2 a3 a4).bind fun bt112 => (if bt112.2 = 0 then (if a1 < 0 then (some ((⟨#[]⟩ : ByteArray), 10)) else (if a1 > (wrap64 ((a0.size : Int) - a3)) then (some ((⟨#[]⟩ : ByteArray), 10)) else (if 0 ≤ a1 then (if a1 ≤ (a0.size : Int) then (if (a0.extract 0 (a1 : Int).toNat).size + bt112.1.size ≤ 9223372036854775807 then (if 0 ≤ (wrap64 (a1 + a3)) then (if (wrap64 (a1 + a3)) ≤ (a0.size : Int) then (if ((a0.extract 0 (a1 : Int).toNat) ++ bt112.1).size + (a0.extract ((wrap64 (a1 + a3)) : Int).toNat a0.size).size ≤ 9223372036854775807 then (some (((a0.extract 0 (a1 : Int).toNat) ++ bt112.1) ++ (a0.extract ((wrap64 (a1 + a3)) : Int).toNat a0.size), 0)) else (none)) else (none)) else (none)) else (none)) else (none)) else (none)))) else (some ((⟨#[]⟩ : ByteArray), bt112.2)))) = some (r1, r2) := h
  clear h
  replace H := Option.bind_eq_some_iff.mp H
  obtain ⟨⟨t112, t113⟩, A60, H⟩ := H
  replace H : (if t113 = 0 then (if a1 < 0 then (some ((⟨#[]⟩ : ByteArray), 10)) else (if a1 > (wrap64 ((a0.size : Int) - a3)) then (some ((⟨#[]⟩ : ByteArray), 10)) else (if 0 ≤ a1 then (if a1 ≤ (a0.size : Int) then (if (a0.extract 0 (a1 : Int).toNat).size + t112.size ≤ 9223372036854775807 then (if 0 ≤ (wrap64 (a1 + a3)) then (if (wrap64 (a1 + a3)) ≤ (a0.size : Int) then (if ((a0.extract 0 (a1 : Int).toNat) ++ t112).size + (a0.extract ((wrap64 (a1 + a3)) : Int).toNat a0.size).size ≤ 9223372036854775807 then (some (((a0.extract 0 (a1 : Int).toNat) ++ t112) ++ (a0.extract ((wrap64 (a1 + a3)) : Int).toNat a0.size), 0)) else (none)) else (none)) else (none)) else (none)) else (none)) else (none)))) else (some ((⟨#[]⟩ : ByteArray), t113))) = some (r1, r2) := H
  have A6 := Aside0.mk A60
  clear A60
  by_cases c7 : t113 = 0
  · rw [if_pos c7] at H
    have c7b0 : (t113 == 0) = true := beq_iff_eq.mpr c7
    have c7b1 : (t113 != 0) = false := bne_eq_false_iff_eq.mpr c7
    clear c7
    by_cases c8 : a1 < 0
    · rw [if_pos c8] at H
      have c8b0 : decide (a1 < 0) = true := decide_eq_true c8
      clear c8
      simp only [Option.some.injEq, Prod.mk.injEq] at H
      obtain ⟨rfl, rfl⟩ := H
      go_enter Try.func14, Try.ntmps14
      go_wp2_with (first | (go_at_call 11; (with_reducible refine (words_Put.calls k a2 a3 a4 t112 t113 _ A6.out).mono ?_); rintro e w9 ⟨rfl, hb⟩; have n0_ := Aside0.mk (below_step (by repeat (first | (with_reducible first | exact HB.out | apply below_alloc | apply pw_below_drewN | apply below_drew1) | exact HB.out)) hb); clear HB; have HB := n0_; clear n0_; (try clear hb); (try clear hb2); (try clear hk); (try clear hi)))
      repeat (go_quiet (first | (go_at_call 11; (with_reducible refine (words_Put.calls k a2 a3 a4 t112 t113 _ A6.out).mono ?_); rintro e w9 ⟨rfl, hb⟩; have n0_ := Aside0.mk (below_step (by repeat (first | (with_reducible first | exact HB.out | apply below_alloc | apply pw_below_drewN | apply below_drew1) | exact HB.out)) hb); clear HB; have HB := n0_; clear n0_; (try clear hb); (try clear hb2); (try clear hk); (try clear hi))); try go_wp2_with (first | (go_at_call 11; (with_reducible refine (words_Put.calls k a2 a3 a4 t112 t113 _ A6.out).mono ?_); rintro e w9 ⟨rfl, hb⟩; have n0_ := Aside0.mk (below_step (by repeat (first | (with_reducible first | exact HB.out | apply below_alloc | apply pw_below_drewN | apply below_drew1) | exact HB.out)) hb); clear HB; have HB := n0_; clear n0_; (try clear hb); (try clear hb2); (try clear hk); (try clear hi))))
      go_ret2
      exact ⟨by first | rfl | (simp [errW_none, errW_some] <;> rfl) | (simp [*, errW_none, errW_some] <;> rfl), by repeat (first | (with_reducible first | exact HB.out | apply below_alloc | apply pw_below_drewN | apply below_drew1) | exact HB.out)⟩
    · rw [if_neg c8] at H
      have c8b0 : decide (a1 < 0) = false := decide_eq_false c8
      clear c8
      by_cases c10 : a1 > (wrap64 ((a0.size : Int) - a3))
      · rw [if_pos c10] at H
        have c10b0 : decide ((wrap64 ((a0.size : Int) - a3)) < a1) = true := decide_eq_true c10
        clear c10
        simp only [Option.some.injEq, Prod.mk.injEq] at H
        obtain ⟨rfl, rfl⟩ := H
        go_enter Try.func14, Try.ntmps14
        go_wp2_with (first | (go_at_call 11; (with_reducible refine (words_Put.calls k a2 a3 a4 t112 t113 _ A6.out).mono ?_); rintro e w11 ⟨rfl, hb⟩; have n0_ := Aside0.mk (below_step (by repeat (first | (with_reducible first | exact HB.out | apply below_alloc | apply pw_below_drewN | apply below_drew1) | exact HB.out)) hb); clear HB; have HB := n0_; clear n0_; (try clear hb); (try clear hb2); (try clear hk); (try clear hi)))
        repeat (go_quiet (first | (go_at_call 11; (with_reducible refine (words_Put.calls k a2 a3 a4 t112 t113 _ A6.out).mono ?_); rintro e w11 ⟨rfl, hb⟩; have n0_ := Aside0.mk (below_step (by repeat (first | (with_reducible first | exact HB.out | apply below_alloc | apply pw_below_drewN | apply below_drew1) | exact HB.out)) hb); clear HB; have HB := n0_; clear n0_; (try clear hb); (try clear hb2); (try clear hk); (try clear hi))); try go_wp2_with (first | (go_at_call 11; (with_reducible refine (words_Put.calls k a2 a3 a4 t112 t113 _ A6.out).mono ?_); rintro e w11 ⟨rfl, hb⟩; have n0_ := Aside0.mk (below_step (by repeat (first | (with_reducible first | exact HB.out | apply below_alloc | apply pw_below_drewN | apply below_drew1) | exact HB.out)) hb); clear HB; have HB := n0_; clear n0_; (try clear hb); (try clear hb2); (try clear hk); (try clear hi))))
        go_ret2
        exact ⟨by first | rfl | (simp [errW_none, errW_some] <;> rfl) | (simp [*, errW_none, errW_some] <;> rfl), by repeat (first | (with_reducible first | exact HB.out | apply below_alloc | apply pw_below_drewN | apply below_drew1) | exact HB.out)⟩
      · rw [if_neg c10] at H
        have c10b0 : decide ((wrap64 ((a0.size : Int) - a3)) < a1) = false := decide_eq_false c10
        clear c10
        by_cases c12 : 0 ≤ a1
        · rw [if_pos c12] at H
          have c12b0 := eq_true c12
          have c12b1 : decide (0 ≤ a1) = true := decide_eq_true c12
          clear c12
          by_cases c13 : a1 ≤ (a0.size : Int)
          · rw [if_pos c13] at H
            have c13b0 := eq_true c13
            have c13b1 : decide (a1 ≤ (a0.size : Int)) = true := decide_eq_true c13
            clear c13
            by_cases c14 : (a0.extract 0 (a1 : Int).toNat).size + t112.size ≤ 9223372036854775807
            · rw [if_pos c14] at H
              have c14b0 := eq_true c14
              have c14b1 : decide ((a0.extract 0 (a1 : Int).toNat).size + t112.size ≤ 9223372036854775807) = true := decide_eq_true c14
              try have c14b2 : (9223372036854775807 < (a0.extract 0 (a1 : Int).toNat).size + t112.size) = False := eq_false (Nat.not_lt.2 c14)
              obtain ⟨ji15, hji15⟩ : ∃ j_ : Int, (wrap64 (a1 + a3)) = j_ := ⟨_, rfl⟩
              replace H : (if 0 ≤ (ji15) then (if (ji15) ≤ (a0.size : Int) then (if ((a0.extract 0 (a1 : Int).toNat) ++ t112).size + (a0.extract ((ji15) : Int).toNat a0.size).size ≤ 9223372036854775807 then (some (((a0.extract 0 (a1 : Int).toNat) ++ t112) ++ (a0.extract ((ji15) : Int).toNat a0.size), 0)) else (none)) else (none)) else (none)) = some (r1, r2) := by first | (rw [hji15] at H; exact H) | (simp only [hji15] at H ⊢; exact H)
              (try rw [hji15] at A6)
              have hji15w : (IntKind.i64.wrap (a1 + a3)) = ji15 := (i64_w _).trans hji15
              by_cases c16 : 0 ≤ (ji15)
              · rw [if_pos c16] at H
                have c16b0 := eq_true c16
                have c16b1 : decide (0 ≤ (ji15)) = true := decide_eq_true c16
                clear c16
                by_cases c17 : (ji15) ≤ (a0.size : Int)
                · rw [if_pos c17] at H
                  have c17b0 := eq_true c17
                  have c17b1 : decide ((ji15) ≤ (a0.size : Int)) = true := decide_eq_true c17
                  clear c17
                  by_cases c18 : ((a0.extract 0 (a1 : Int).toNat) ++ t112).size + (a0.extract ((ji15) : Int).toNat a0.size).size ≤ 9223372036854775807
                  · rw [if_pos c18] at H
                    have c18b0 := eq_true c18
                    have c18b1 : decide (((a0.extract 0 (a1 : Int).toNat) ++ t112).size + (a0.extract ((ji15) : Int).toNat a0.size).size ≤ 9223372036854775807) = true := decide_eq_true c18
                    try have c18b2 : (9223372036854775807 < ((a0.extract 0 (a1 : Int).toNat) ++ t112).size + (a0.extract ((ji15) : Int).toNat a0.size).size) = False := eq_false (Nat.not_lt.2 c18)
                    simp only [Option.some.injEq, Prod.mk.injEq] at H
                    obtain ⟨rfl, rfl⟩ := H
                    go_enter Try.func14, Try.ntmps14
                    go_wp2_with (first | (go_at_call 11; (with_reducible refine (words_Put.calls k a2 a3 a4 t112 t113 _ A6.out).mono ?_); rintro e w19 ⟨rfl, hb⟩; have n0_ := Aside0.mk (below_step (by repeat (first | (with_reducible first | exact HB.out | apply below_alloc | apply pw_below_drewN | apply below_drew1) | exact HB.out)) hb); clear HB; have HB := n0_; clear n0_; (try clear hb); (try clear hb2); (try clear hk); (try clear hi)))
                    repeat (go_quiet (first | (go_at_call 11; (with_reducible refine (words_Put.calls k a2 a3 a4 t112 t113 _ A6.out).mono ?_); rintro e w19 ⟨rfl, hb⟩; have n0_ := Aside0.mk (below_step (by repeat (first | (with_reducible first | exact HB.out | apply below_alloc | apply pw_below_drewN | apply below_drew1) | exact HB.out)) hb); clear HB; have HB := n0_; clear n0_; (try clear hb); (try clear hb2); (try clear hk); (try clear hi))); try go_wp2_with (first | (go_at_call 11; (with_reducible refine (words_Put.calls k a2 a3 a4 t112 t113 _ A6.out).mono ?_); rintro e w19 ⟨rfl, hb⟩; have n0_ := Aside0.mk (below_step (by repeat (first | (with_reducible first | exact HB.out | apply below_alloc | apply pw_below_drewN | apply below_drew1) | exact HB.out)) hb); clear HB; have HB := n0_; clear n0_; (try clear hb); (try clear hb2); (try clear hk); (try clear hi))))
                    go_ret2
                    exact ⟨by first | rfl | (simp [errW_none, errW_some] <;> rfl) | (simp only [← hji15]; first | rfl | (simp [errW_none, errW_some] <;> rfl)) | (simp [*, errW_none, errW_some] <;> rfl), by repeat (first | (with_reducible first | exact HB.out | apply below_alloc | apply pw_below_drewN | apply below_drew1) | exact HB.out)⟩
                  · rw [if_neg c18] at H
                    exact absurd H (by simp)
                · rw [if_neg c17] at H
                  exact absurd H (by simp)
              · rw [if_neg c16] at H
                exact absurd H (by simp)
            · rw [if_neg c14] at H
              exact absurd H (by simp)
          · rw [if_neg c13] at H
            exact absurd H (by simp)
        · rw [if_neg c12] at H
          exact absurd H (by simp)
  · rw [if_neg c7] at H
    have c7b0 : (t113 == 0) = false := beq_eq_false_iff_ne.mpr c7
    have c7b1 : (t113 != 0) = true := bne_iff_ne.mpr c7
    simp only [Option.some.injEq, Prod.mk.injEq] at H
    obtain ⟨rfl, rfl⟩ := H
    go_enter Try.func14, Try.ntmps14
    go_wp2_with (first | (go_at_call 11; (with_reducible refine (words_Put.calls k a2 a3 a4 t112 t113 _ A6.out).mono ?_); rintro e w20 ⟨rfl, hb⟩; have n0_ := Aside0.mk (below_step (by repeat (first | (with_reducible first | exact HB.out | apply below_alloc | apply pw_below_drewN | apply below_drew1) | exact HB.out)) hb); clear HB; have HB := n0_; clear n0_; (try clear hb); (try clear hb2); (try clear hk); (try clear hi)))
    repeat (go_quiet (first | (go_at_call 11; (with_reducible refine (words_Put.calls k a2 a3 a4 t112 t113 _ A6.out).mono ?_); rintro e w20 ⟨rfl, hb⟩; have n0_ := Aside0.mk (below_step (by repeat (first | (with_reducible first | exact HB.out | apply below_alloc | apply pw_below_drewN | apply below_drew1) | exact HB.out)) hb); clear HB; have HB := n0_; clear n0_; (try clear hb); (try clear hb2); (try clear hk); (try clear hi))); try go_wp2_with (first | (go_at_call 11; (with_reducible refine (words_Put.calls k a2 a3 a4 t112 t113 _ A6.out).mono ?_); rintro e w20 ⟨rfl, hb⟩; have n0_ := Aside0.mk (below_step (by repeat (first | (with_reducible first | exact HB.out | apply below_alloc | apply pw_below_drewN | apply below_drew1) | exact HB.out)) hb); clear HB; have HB := n0_; clear n0_; (try clear hb); (try clear hb2); (try clear hk); (try clear hi))))
    go_ret2
    exact ⟨by first | rfl | (simp [errW_none, errW_some] <;> rfl) | (simp [*, errW_none, errW_some] <;> rfl), by repeat (first | (with_reducible first | exact HB.out | apply below_alloc | apply pw_below_drewN | apply below_drew1) | exact HB.out)⟩

end Go.Proofs.Ytamicgnpmhbdbaa.PWordsSets
