/- What functions of the program compute, each with the walk that shows it: by a program (a turned copy of the kit's print; wip/myprint.py). -/
import Derived.Test.YtkgbhlcbjflnlaaZPx0
import Derived.Test.YtkgbhlcbjflnlaaZPx9
import Derived.Test.YtkgbhlcbjflnlaaZBs
namespace Go.Proofs.Ytkgbhlcbjflnlaa.P
open Go.RowKit Go.Proofs.YtkgbhlcbjflnlaaW.PrintWords Go.Proofs.YtkgbhlcbjflnlaaW.PrintLast Go.Proofs.YtkgbhlcbjflnlaaW.PrintMore
attribute [local go_sem] max2_int min2_int max_two min_two max_three min_three max_four min_four   -- for this text's walks alone
set_option linter.unusedVariables false
set_option linter.unusedSimpArgs false

/-! ### aqueductref17_Rules: function 28 -/
def aqueductref17_Rules.l0 : Nat → Int → ByteArray → Int → Int → List Int → ByteArray → Int → Option (ByteArray)
  | 0, _, _, _, _, _, _, _ => none
  | k + 1, x1, x5, x6, x207000, x207001, x207002, x207003 => if x6 < (x207001.length : Int) then (if 0 ≤ x6 then ((aqueductref17_Low.f k (rd x207001 x6) 2).bind fun t211 => (if x5.size + t211.size ≤ 9223372036854775807 then (aqueductref17_Rules.l0 k x1 (x5 ++ t211) (wrap64 (x6 + 1)) x207000 x207001 x207002 x207003) else (none))) else (none)) else ((aqueductref17_Low.f k x1 2).bind fun t212 => (if x5.size + t212.size ≤ 9223372036854775807 then ((aqueductref17_Low.f k (x207002.size : Int) 1).bind fun t213 => (if (x5 ++ t212).size + t213.size ≤ 9223372036854775807 then (if ((x5 ++ t212) ++ t213).size + x207002.size ≤ 9223372036854775807 then (some (((x5 ++ t212) ++ t213) ++ x207002)) else (none)) else (none))) else (none)))
def aqueductref17_Rules.f (k : Nat) (a0_0 : Int) (l0_1 : List Int) (a0_2 : ByteArray) (a0_3 : Int) (a1 : Int) : Option (ByteArray) := (aqueductref17_Low.f k a0_0 4).bind fun t207 => (if 2 + t207.size ≤ 9223372036854775807 then ((aqueductref17_Low.f k (wrap64 ((l0_1.length : Int) + 65535)) 2).bind fun t208 => (if ((⟨#[4, 1]⟩ : ByteArray) ++ t207).size + t208.size ≤ 9223372036854775807 then ((aqueductref17_Low.f k a0_3 2).bind fun t209 => (if (((⟨#[4, 1]⟩ : ByteArray) ++ t207) ++ t208).size + t209.size ≤ 9223372036854775807 then (aqueductref17_Rules.l0 k a1 ((((⟨#[4, 1]⟩ : ByteArray) ++ t207) ++ t208) ++ t209) 0 a0_0 l0_1 a0_2 a0_3) else (none))) else (none))) else (none))
theorem aqueductref17_Rules.mono_l : ∀ k, (∀ y0 y1 y2 y3 y4 y5 y6, LeO (aqueductref17_Rules.l0 k y0 y1 y2 y3 y4 y5 y6) (aqueductref17_Rules.l0 (k + 1) y0 y1 y2 y3 y4 y5 y6))
  | 0 => fun _ _ _ _ _ _ _ r h => by simp [aqueductref17_Rules.l0] at h
  | k + 1 => by
    have ih0 := aqueductref17_Rules.mono_l k
    · intro y0 y1 y2 y3 y4 y5 y6
      unfold aqueductref17_Rules.l0
      repeat' first
      | (with_reducible exact ih0 _ _ _ _ _ _ _)
      | (with_reducible exact aqueductref17_Low.mono _ _ _)
      | (with_reducible exact LeO.refl _)
      | (with_reducible exact LeO.none _)
      | (with_reducible refine LeO.ite ?_ ?_)
      | (with_reducible refine LeO.bind ?_ (fun _ => ?_))
      | exact ih0 _ _ _ _ _ _ _
      | exact aqueductref17_Low.mono _ _ _
      | exact LeO.none _
      | refine LeO.ite ?_ ?_
      | refine LeO.bind ?_ (fun _ => ?_)
theorem aqueductref17_Rules.mono : ∀ a0 a1 a2 a3 a4 k, LeO (aqueductref17_Rules.f k a0 a1 a2 a3 a4) (aqueductref17_Rules.f (k + 1) a0 a1 a2 a3 a4) := by
  intro a0 a1 a2 a3 a4 k
  have ih0 := aqueductref17_Rules.mono_l k
  unfold aqueductref17_Rules.f
  repeat' first
      | (with_reducible exact ih0 _ _ _ _ _ _ _)
      | (with_reducible exact aqueductref17_Low.mono _ _ _)
      | (with_reducible exact LeO.refl _)
      | (with_reducible exact LeO.none _)
      | (with_reducible refine LeO.ite ?_ ?_)
      | (with_reducible refine LeO.bind ?_ (fun _ => ?_))
      | exact ih0 _ _ _ _ _ _ _
      | exact aqueductref17_Low.mono _ _ _
      | exact LeO.none _
      | refine LeO.ite ?_ ?_
      | refine LeO.bind ?_ (fun _ => ?_)
def aqueductref17_Rules.T1 : Bool × List (List Nat × List Nat) := (true, [([], []), ([0], [0]), ([1], [1]), ([2], [2]), ([], []), ([4], [4]), ([5], [5]), ([6], [6]), ([7, 2], [7]), ([3, 8], [3, 8]), ([], []), ([10], [10]), ([11, 8], [11]), ([9, 12], [9, 12]), ([13, 12, 0, 1, 2, 3, 4, 5, 6, 7, 8, 9, 10, 11, 12, 13], [13])])
def aqueductref17_Rules.B1 : List Nat := [0, 1, 3, 7, 0, 16, 48, 112, 247, 511, 0, 1024, 3575, 8191, 16383]
theorem aqueductref17_Rules.tab1 : rtab .any (opsOf Try.f28 1) = aqueductref17_Rules.T1 := by kernel_rfl
theorem aqueductref17_Rules.bits1 : waitsOk aqueductref17_Rules.T1.2 aqueductref17_Rules.B1 = true := by kernel_rfl
def aqueductref17_Rules.T6 : Bool × List (List Nat × List Nat) := (true, [([], []), ([], []), ([1], [1]), ([0, 2], [0, 2]), ([], []), ([4], [4]), ([5], [5]), ([6, 2], [6]), ([3, 7], [3, 7]), ([], []), ([9], [9]), ([8, 10], [8, 10]), ([11, 7, 0, 1, 2, 3, 4, 5, 6, 7, 8, 9, 10, 11], [11])])
def aqueductref17_Rules.B6 : List Nat := [0, 0, 2, 7, 0, 16, 48, 118, 255, 0, 512, 2047, 4095]
theorem aqueductref17_Rules.tab6 : rtab .any (opsOf Try.f28 6) = aqueductref17_Rules.T6 := by kernel_rfl
theorem aqueductref17_Rules.bits6 : waitsOk aqueductref17_Rules.T6.2 aqueductref17_Rules.B6 = true := by kernel_rfl
set_option maxHeartbeats 8000000 in
set_option maxRecDepth 100000 in
theorem aqueductref17_Rules.calls (k : Nat) (a0_0 : Int) (A0_1 : Option Addr) (c0_1 : Nat) (l0_1 : List Int) (a0_2 : ByteArray) (a0_3 : Int) (a1 : Int) (r : ByteArray) (w : World) (hr0_1 : Kd.C (Kd.int .i64) w A0_1 l0_1.length l0_1) (hc0_1 : l0_1.length ≤ c0_1) (h : aqueductref17_Rules.f k a0_0 l0_1 a0_2 a0_3 a1 = some r) :
    Calls Try.prog 28 #[.agg #[.int .i64 a0_0, .slice A0_1 l0_1.length c0_1, .string a0_2, .int .i64 a0_3], .int .i64 a1] w fun e w' => e = .returned (.string r) ∧ Below w.heap.size w w' := by
  have hu27 := Try.underlying27
  have HR0_1 := Aside0.mk hr0_1
  have HC0_1 := Aside0.mk hc0_1
  clear hr0_1 hc0_1
  have HB := Aside0.mk (Below.refl w.heap.size w)
  have H : ((aqueductref17_Low.f k a0_0 4).bind fun t207 => (if 2 + t207.size ≤ 9223372036854775807 then ((aqueductref17_Low.f k (wrap64 ((l0_1.length : Int) + 65535)) 2).bind fun t208 => (if ((⟨#[4, 1]⟩ : ByteArray) ++ t207).size + t208.size ≤ 9223372036854775807 then ((aqueductref17_Low.f k a0_3 2).bind fun t209 => (if (((⟨#[4, 1]⟩ : ByteArray) ++ t207) ++ t208).size + t209.size ≤ 9223372036854775807 then (aqueductref17_Rules.l0 k a1 ((((⟨#[4, 1]⟩ : ByteArray) ++ t207) ++ t208) ++ t209) 0 a0_0 l0_1 a0_2 a0_3) else (none))) else (none))) else (none))) = some r := h
  clear h
  replace H := Option.bind_eq_some_iff.mp H
  obtain ⟨t207, A30, H⟩ := H
  replace H : (if 2 + t207.size ≤ 9223372036854775807 then ((aqueductref17_Low.f k (wrap64 ((l0_1.length : Int) + 65535)) 2).bind fun t208 => (if ((⟨#[4, 1]⟩ : ByteArray) ++ t207).size + t208.size ≤ 9223372036854775807 then ((aqueductref17_Low.f k a0_3 2).bind fun t209 => (if (((⟨#[4, 1]⟩ : ByteArray) ++ t207) ++ t208).size + t209.size ≤ 9223372036854775807 then (aqueductref17_Rules.l0 k a1 ((((⟨#[4, 1]⟩ : ByteArray) ++ t207) ++ t208) ++ t209) 0 a0_0 l0_1 a0_2 a0_3) else (none))) else (none))) else (none)) = some r := H
  have A3 := Aside0.mk A30
  clear A30
  by_cases c4 : 2 + t207.size ≤ 9223372036854775807
  · rw [if_pos c4] at H
    have c4b0 := eq_true c4
    have c4b1 : decide (2 + t207.size ≤ 9223372036854775807) = true := decide_eq_true c4
    try have c4b2 : (9223372036854775807 < 2 + t207.size) = False := eq_false (Nat.not_lt.2 c4)
    replace H := Option.bind_eq_some_iff.mp H
    obtain ⟨t208, A50, H⟩ := H
    replace H : (if ((⟨#[4, 1]⟩ : ByteArray) ++ t207).size + t208.size ≤ 9223372036854775807 then ((aqueductref17_Low.f k a0_3 2).bind fun t209 => (if (((⟨#[4, 1]⟩ : ByteArray) ++ t207) ++ t208).size + t209.size ≤ 9223372036854775807 then (aqueductref17_Rules.l0 k a1 ((((⟨#[4, 1]⟩ : ByteArray) ++ t207) ++ t208) ++ t209) 0 a0_0 l0_1 a0_2 a0_3) else (none))) else (none)) = some r := H
    have A5 := Aside0.mk A50
    clear A50
    by_cases c6 : ((⟨#[4, 1]⟩ : ByteArray) ++ t207).size + t208.size ≤ 9223372036854775807
    · rw [if_pos c6] at H
      have c6b0 := eq_true c6
      have c6b1 : decide (((⟨#[4, 1]⟩ : ByteArray) ++ t207).size + t208.size ≤ 9223372036854775807) = true := decide_eq_true c6
      try have c6b2 : (9223372036854775807 < ((⟨#[4, 1]⟩ : ByteArray) ++ t207).size + t208.size) = False := eq_false (Nat.not_lt.2 c6)
      (try (have c6b3 : (9223372036854775807 < (2 + (t207.size)) + t208.size) = False := eq_false (by have h_ := c6; simp only [ByteArray.size_append] at h_; rw [show (⟨#[4, 1]⟩ : ByteArray).size = 2 from rfl] at h_; omega)))
      (try (have c6b4 : ((2 + (t207.size)) + t208.size ≤ 9223372036854775807) = True := eq_true (by have h_ := c6; simp only [ByteArray.size_append] at h_; rw [show (⟨#[4, 1]⟩ : ByteArray).size = 2 from rfl] at h_; omega)))
      replace H := Option.bind_eq_some_iff.mp H
      obtain ⟨t209, A70, H⟩ := H
      replace H : (if (((⟨#[4, 1]⟩ : ByteArray) ++ t207) ++ t208).size + t209.size ≤ 9223372036854775807 then (aqueductref17_Rules.l0 k a1 ((((⟨#[4, 1]⟩ : ByteArray) ++ t207) ++ t208) ++ t209) 0 a0_0 l0_1 a0_2 a0_3) else (none)) = some r := H
      have A7 := Aside0.mk A70
      clear A70
      by_cases c8 : (((⟨#[4, 1]⟩ : ByteArray) ++ t207) ++ t208).size + t209.size ≤ 9223372036854775807
      · rw [if_pos c8] at H
        have c8b0 := eq_true c8
        have c8b1 : decide ((((⟨#[4, 1]⟩ : ByteArray) ++ t207) ++ t208).size + t209.size ≤ 9223372036854775807) = true := decide_eq_true c8
        try have c8b2 : (9223372036854775807 < (((⟨#[4, 1]⟩ : ByteArray) ++ t207) ++ t208).size + t209.size) = False := eq_false (Nat.not_lt.2 c8)
        (try (have c8b3 : (9223372036854775807 < ((2 + (t207.size)) + (t208.size)) + t209.size) = False := eq_false (by have h_ := c8; simp only [ByteArray.size_append] at h_; rw [show (⟨#[4, 1]⟩ : ByteArray).size = 2 from rfl] at h_; omega)))
        (try (have c8b4 : (((2 + (t207.size)) + (t208.size)) + t209.size ≤ 9223372036854775807) = True := eq_true (by have h_ := c8; simp only [ByteArray.size_append] at h_; rw [show (⟨#[4, 1]⟩ : ByteArray).size = 2 from rfl] at h_; omega)))
        have H' := Aside0.mk H
        clear H
        go_enter Try.func28, Try.ntmps28
        try go_wp2_with (first | ((with_reducible refine gate_dst (N := 2) rfl ?_); refine box_event ?hg (N := 2) ?hd (cs := #[.int .i64 a0_0, .slice A0_1 l0_1.length c0_1, .string a0_2, .int .i64 a0_3]) (t := 27) ?hr ?_; (case hd => rfl); (case hg => rfl); (case hr => first | (go_simp; done) | (go_simp; rfl)); intro gb206 hg w9 hbox hb; have n0_ := Aside0.mk (below_step (by repeat (first | (with_reducible first | exact HB.out | apply below_alloc | apply pw_below_drewN | apply below_drew1) | exact HB.out)) hb); have n1_ := Aside0.mk (hbox); have n2_ := Aside0.mk ((by rw [hg]; exact (below_size (by repeat (first | (with_reducible first | exact HB.out | apply below_alloc | apply pw_below_drewN | apply below_drew1) | exact HB.out))) : w.heap.size ≤ gb206)); have n3_ := Aside0.mk ((by rw [hg]; exact (below_size (by repeat (first | (with_reducible first | exact HB.out | apply below_alloc | apply pw_below_drewN | apply below_drew1) | exact HB.out))) : w.heap.size ≤ gb206)); clear HB; have HB := n0_; have BK206 := n1_; have GW206 := n2_; have GE206 := n3_; clear n0_ n1_ n2_ n3_; clear hb hbox hg))
        have n0_ := Aside0.mk (blk_drew BK206.out)
        have n1_ := Aside0.mk (below_drew1 HB.out)
        clear BK206
        clear HB
        have BK206 := n0_
        have HB := n1_
        clear n0_ n1_
        refine start_ (n := 15) (S := fun w' => w'.cell? ⟨gb206, 0, none⟩ = some (.int .i64 a0_0) ∧ w'.cell? ⟨gb206, 1, none⟩ = some (.slice A0_1 l0_1.length c0_1) ∧ w'.cell? ⟨gb206, 2, none⟩ = some (.string a0_2) ∧ w'.cell? ⟨gb206, 3, none⟩ = some (.int .i64 a0_3)) (ds := []) (bsq 15 0) (by kernel_rfl) rfl rfl ⟨(blk_cell BK206.out 0).trans rfl, (blk_cell BK206.out 1).trans rfl, (blk_cell BK206.out 2).trans rfl, (blk_cell BK206.out 3).trans rfl⟩ (fun hHeld => ?_); refine with_tabW aqueductref17_Rules.tab1 aqueductref17_Rules.bits1 (fun HT_ HW_ => ?_)
        generalize w9.drew = w10 at BK206 HB hHeld ⊢
        refine pure_ (i := 0) (N := some 7) (v := ?_) (a' := ?_) (bsq 15 1) rfl rfl (any_of HT_.out (by kernel_rfl)) (fun _ _ _ h => h) (Or.inl ⟨by rfl, ?_⟩) ?_ ?_
        rotate_left
        · intro w'
          go_simp
          with_reducible rfl
        rotate_left
        · simp only [Act.put, bq1, bq2, bq3, i64_w, i32_w]
          rfl
        refine pure_ (i := 4) (N := some 11) (v := ?_) (a' := ?_) (bsq 15 17) rfl rfl (any_of HT_.out (by kernel_rfl)) (fun _ _ _ h => h) (Or.inl ⟨by rfl, ?_⟩) ?_ ?_
        rotate_left
        · intro w'
          go_simp
          with_reducible rfl
        rotate_left
        · simp only [Act.put, bq1, bq2, bq3, i64_w, i32_w]
          rfl
        refine pure_ (i := 10) (N := some 17) (v := ?_) (a' := ?_) (bsq 15 1041) rfl rfl (any_of HT_.out (by kernel_rfl)) (fun _ _ _ h => h) (Or.inl ⟨by rfl, ?_⟩) ?_ ?_
        rotate_left
        · intro w'
          go_simp
          with_reducible rfl
        rotate_left
        · simp only [Act.put, bq1, bq2, bq3, i64_w, i32_w]
          rfl
        refine take_ (i := 1) (N := some 8) (v := ?_) (a' := ?_) (bsq 15 1043) rfl rfl (take_ofW HT_.out HW_.out (by kernel_rfl)) (fun _ _ _ h => h) (Or.inl ⟨by rfl, ?_⟩) hHeld ?_ ?_
        rotate_left
        · rintro w' ⟨s0, s1, s2, s3⟩
          go_simp
          with_reducible rfl
        rotate_left
        · simp only [Act.put, bq1, bq2, bq3, i64_w, i32_w]
          rfl
        refine take_ (i := 5) (N := some 12) (v := ?_) (a' := ?_) (bsq 15 1075) rfl rfl (take_ofW HT_.out HW_.out (by kernel_rfl)) (fun _ _ _ h => h) (Or.inl ⟨by rfl, ?_⟩) hHeld ?_ ?_
        rotate_left
        · rintro w' ⟨s0, s1, s2, s3⟩
          go_simp
          with_reducible rfl
        rotate_left
        · simp only [Act.put, bq1, bq2, bq3, i64_w, i32_w]
          rfl
        refine pure_ (i := 6) (N := some 13) (v := ?_) (a' := ?_) (bsq 15 1139) rfl rfl (any_of HT_.out (by kernel_rfl)) (fun _ _ _ h => h) (Or.inl ⟨by rfl, ?_⟩) ?_ ?_
        rotate_left
        · intro w'
          go_simp
          with_reducible rfl
        rotate_left
        · simp only [Act.put, bq1, bq2, bq3, i64_w, i32_w]
          rfl
        refine pure_ (i := 7) (N := some 14) (v := ?_) (a' := ?_) (bsq 15 1267) rfl rfl (any_of HT_.out (by kernel_rfl)) (fun _ _ _ h => h) (Or.inl ⟨by rfl, ?_⟩) ?_ ?_
        rotate_left
        · intro w'
          go_simp
          with_reducible rfl
        rotate_left
        · simp only [Act.put, bq1, bq2, bq3, i64_w, i32_w]
          rfl
        refine take_ (i := 11) (N := some 18) (v := ?_) (a' := ?_) (bsq 15 3315) rfl rfl (take_ofW HT_.out HW_.out (by kernel_rfl)) (fun _ _ _ h => h) (Or.inl ⟨by rfl, ?_⟩) hHeld ?_ ?_
        rotate_left
        · rintro w' ⟨s0, s1, s2, s3⟩
          go_simp
          with_reducible rfl
        rotate_left
        · simp only [Act.put, bq1, bq2, bq3, i64_w, i32_w]
          rfl
        refine one_ (i := 2) (N := some 9) (bsq 15 3319) rfl rfl (one_of HT_.out (by kernel_rfl)) (by decide) (fun K hK => ?_)
        refine goes_ Try.func26 (by kernel_rfl) rfl #[.int .i64 a0_0, .int .i64 4] (by rfl) rfl rfl (by (try simp only [List.map_toArray, List.map_cons, List.map_nil]); first | done | rfl | (simp only [List.length_drop, List.length_take]; rfl)) ?_
        with_reducible refine (aqueductref17_Low.calls k a0_0 4 t207 _ A3.out).mono ?_
        rintro e w11 ⟨rfl, hb⟩
        refine ⟨_, rfl, ?_⟩
        have n0_ := Aside0.mk (blk_below (g := gb206) (o := .cells #[.int .i64 a0_0, .slice A0_1 l0_1.length c0_1, .string a0_2, .int .i64 a0_3] 27 (0, 0)) (by (with_reducible repeat (first | refine blk_drewN ?_ _ | refine blk_drew ?_ | refine blk_alloc ?_ _)); exact BK206.out) hb)
        have n1_ := Aside0.mk (below_step (by repeat (first | (with_reducible first | exact HB.out | apply below_alloc | apply pw_below_drewN | apply below_drew1 | refine below_set ?_ GE206.out) | exact HB.out)) hb)
        clear BK206
        clear HB
        have BK206 := n0_
        have HB := n1_
        clear n0_ n1_
        (try clear hb)
        (try clear hb2)
        (try clear hk)
        (try clear hi)
        refine hK.out _ _ ⟨(blk_cell BK206.out 0).trans rfl, (blk_cell BK206.out 1).trans rfl, (blk_cell BK206.out 2).trans rfl, (blk_cell BK206.out 3).trans rfl⟩ (fun hHeld => ?_)
        clear hK K
        refine norm_ (a' := ?_) ?_ ?_
        rotate_left
        · show Act.put _ (some 9) _ = _
          simp only [Act.put, bq1, bq2, bq3, i64_w, i32_w]
          rfl
        refine pure_ (i := 3) (N := some 10) (v := ?_) (a' := ?_) (bsq 15 3327) rfl rfl (any_of HT_.out (by kernel_rfl)) (fun _ _ _ h => h) (Or.inl ⟨by rfl, ?_⟩) ?_ ?_
        rotate_left
        · intro w'
          go_simp
          with_reducible rfl
        rotate_left
        · simp only [Act.put, bq1, bq2, bq3, i64_w, i32_w]
          rfl
        refine one_ (i := 8) (N := some 15) (bsq 15 3583) rfl rfl (one_of HT_.out (by kernel_rfl)) (by decide) (fun K hK => ?_)
        refine goes_ Try.func26 (by kernel_rfl) rfl #[.int .i64 (wrap64 ((l0_1.length : Int) + 65535)), .int .i64 2] (by rfl) rfl rfl (by (try simp only [List.map_toArray, List.map_cons, List.map_nil]); first | done | rfl | (simp only [List.length_drop, List.length_take]; rfl)) ?_
        with_reducible refine (aqueductref17_Low.calls k (wrap64 ((l0_1.length : Int) + 65535)) 2 t208 _ A5.out).mono ?_
        rintro e w12 ⟨rfl, hb⟩
        refine ⟨_, rfl, ?_⟩
        have n0_ := Aside0.mk (blk_below (g := gb206) (o := .cells #[.int .i64 a0_0, .slice A0_1 l0_1.length c0_1, .string a0_2, .int .i64 a0_3] 27 (0, 0)) (by (with_reducible repeat (first | refine blk_drewN ?_ _ | refine blk_drew ?_ | refine blk_alloc ?_ _)); exact BK206.out) hb)
        have n1_ := Aside0.mk (below_step (by repeat (first | (with_reducible first | exact HB.out | apply below_alloc | apply pw_below_drewN | apply below_drew1 | refine below_set ?_ GE206.out) | exact HB.out)) hb)
        clear BK206
        clear HB
        have BK206 := n0_
        have HB := n1_
        clear n0_ n1_
        (try clear hb)
        (try clear hb2)
        (try clear hk)
        (try clear hi)
        refine hK.out _ _ ⟨(blk_cell BK206.out 0).trans rfl, (blk_cell BK206.out 1).trans rfl, (blk_cell BK206.out 2).trans rfl, (blk_cell BK206.out 3).trans rfl⟩ (fun hHeld => ?_)
        clear hK K
        refine norm_ (a' := ?_) ?_ ?_
        rotate_left
        · show Act.put _ (some 15) _ = _
          simp only [Act.put, bq1, bq2, bq3, i64_w, i32_w]
          rfl
        refine pure_ (i := 9) (N := some 16) (v := ?_) (a' := ?_) (bsq 15 4095) rfl rfl (any_of HT_.out (by kernel_rfl)) (fun _ _ _ h => h) (Or.inl ⟨by rfl, ?_⟩) ?_ ?_
        rotate_left
        · intro w'
          go_simp
          with_reducible rfl
        rotate_left
        · simp only [Act.put, bq1, bq2, bq3, i64_w, i32_w]
          rfl
        refine one_ (i := 12) (N := some 19) (bsq 15 8191) rfl rfl (one_of HT_.out (by kernel_rfl)) (by decide) (fun K hK => ?_)
        refine goes_ Try.func26 (by kernel_rfl) rfl #[.int .i64 a0_3, .int .i64 2] (by rfl) rfl rfl (by (try simp only [List.map_toArray, List.map_cons, List.map_nil]); first | done | rfl | (simp only [List.length_drop, List.length_take]; rfl)) ?_
        with_reducible refine (aqueductref17_Low.calls k a0_3 2 t209 _ A7.out).mono ?_
        rintro e w13 ⟨rfl, hb⟩
        refine ⟨_, rfl, ?_⟩
        have n0_ := Aside0.mk (blk_below (g := gb206) (o := .cells #[.int .i64 a0_0, .slice A0_1 l0_1.length c0_1, .string a0_2, .int .i64 a0_3] 27 (0, 0)) (by (with_reducible repeat (first | refine blk_drewN ?_ _ | refine blk_drew ?_ | refine blk_alloc ?_ _)); exact BK206.out) hb)
        have n1_ := Aside0.mk (below_step (by repeat (first | (with_reducible first | exact HB.out | apply below_alloc | apply pw_below_drewN | apply below_drew1 | refine below_set ?_ GE206.out) | exact HB.out)) hb)
        clear BK206
        clear HB
        have BK206 := n0_
        have HB := n1_
        clear n0_ n1_
        (try clear hb)
        (try clear hb2)
        (try clear hk)
        (try clear hi)
        refine hK.out _ _ ⟨(blk_cell BK206.out 0).trans rfl, (blk_cell BK206.out 1).trans rfl, (blk_cell BK206.out 2).trans rfl, (blk_cell BK206.out 3).trans rfl⟩ (fun hHeld => ?_)
        clear hK K
        refine norm_ (a' := ?_) ?_ ?_
        rotate_left
        · show Act.put _ (some 19) _ = _
          simp only [Act.put, bq1, bq2, bq3, i64_w, i32_w]
          rfl
        refine pure_ (i := 13) (N := some 20) (v := ?_) (a' := ?_) (bsq 15 16383) rfl rfl (any_of HT_.out (by kernel_rfl)) (fun _ _ _ h => h) (Or.inl ⟨by rfl, ?_⟩) ?_ ?_
        rotate_left
        · intro w'
          go_simp
          with_reducible rfl
        rotate_left
        · simp only [Act.put, bq1, bq2, bq3, i64_w, i32_w]
          rfl
        refine pure_ (i := 14) (N := some 5) (v := ?_) (a' := ?_) (bsq 15 32767) rfl rfl (any_of HT_.out (by kernel_rfl)) (fun _ _ _ h => h) (Or.inl ⟨by rfl, ?_⟩) ?_ ?_
        rotate_left
        · intro w'
          go_simp
          with_reducible rfl
        rotate_left
        · simp only [Act.put, bq1, bq2, bq3, i64_w, i32_w]
          rfl
        refine done_ (done_of HT_.out (by kernel_rfl)) ?_
        try go_wp2
        go_loopg [5, 6] k (fun kq v5 v6 w' => ∃ (x5_1 : ByteArray) (x6_1 : Int), v5 = .string x5_1 ∧ v6 = .int .i64 x6_1 ∧ Aside0 (aqueductref17_Rules.l0 kq a1 x5_1 x6_1 a0_0 l0_1 a0_2 a0_3 = some r) ∧ Aside0 (kq ≤ k) ∧ Aside0 (w'.heap[gb206]? = some (.cells #[.int .i64 a0_0, (.slice A0_1 l0_1.length c0_1), .string a0_2, .int .i64 a0_3] 27 (0, 0))) ∧ Aside0 (Below w.heap.size w w'))
        case atStart => exact ⟨((((⟨#[4, 1]⟩ : ByteArray) ++ t207) ++ t208) ++ t209), (0), (by first | rfl | (simp; done) | (simp [*]; done)), (by first | rfl | (simp; done) | (simp [*]; done)), H', ⟨Nat.le_refl _⟩, ⟨by (with_reducible repeat (first | refine blk_drewN ?_ _ | refine blk_drew ?_ | refine blk_alloc ?_ _)); exact BK206.out⟩, ⟨by repeat (first | (with_reducible first | exact HB.out | apply below_alloc | apply pw_below_drewN | apply below_drew1 | refine below_set ?_ GE206.out) | exact HB.out)⟩⟩
        case round =>
          clear H'
          try clear c2
          try clear p2
          try clear c4
          try clear c4b0
          try clear c4b1
          try clear c4b2
          try clear c6
          try clear c6b0
          try clear c6b1
          try clear c6b2
          try clear p6
          try clear c8
          try clear c8b0
          try clear c8b1
          try clear c8b2
          obtain ⟨x5_1, x6_1, rfl, rfl, HA, HK1, BK206, HB⟩ := hrel
          cases gk with
          | zero => exact absurd HA.out (by simp [aqueductref17_Rules.l0])
          | succ k1 =>
            have H := HA.out
            clear HA
            simp only [aqueductref17_Rules.l0] at H
            by_cases c14 : x6_1 < (l0_1.length : Int)
            · rw [if_pos c14] at H
              have c14b0 : decide (x6_1 < (l0_1.length : Int)) = true := decide_eq_true c14
              clear c14
              by_cases c15 : 0 ≤ x6_1
              · rw [if_pos c15] at H
                have c15b0 : decide (0 ≤ x6_1) = true := decide_eq_true c15
                clear c15
                replace H := Option.bind_eq_some_iff.mp H
                obtain ⟨t211, A160, H⟩ := H
                replace H : (if x5_1.size + t211.size ≤ 9223372036854775807 then (aqueductref17_Rules.l0 k1 a1 (x5_1 ++ t211) (wrap64 (x6_1 + 1)) a0_0 l0_1 a0_2 a0_3) else (none)) = some r := H
                have A16 := Aside0.mk A160
                clear A160
                by_cases c17 : x5_1.size + t211.size ≤ 9223372036854775807
                · rw [if_pos c17] at H
                  have c17b0 := eq_true c17
                  have c17b1 : decide (x5_1.size + t211.size ≤ 9223372036854775807) = true := decide_eq_true c17
                  try have c17b2 : (9223372036854775807 < x5_1.size + t211.size) = False := eq_false (Nat.not_lt.2 c17)
                  have H' := Aside0.mk H
                  clear H
                  have hcz18_0 : wr.cell? ⟨gb206, 0, none⟩ = some (.int .i64 a0_0) := (blk_cell BK206.out 0).trans rfl
                  have hcz18_1 : wr.cell? ⟨gb206, 1, none⟩ = some (.slice A0_1 l0_1.length c0_1) := (blk_cell BK206.out 1).trans rfl
                  have hcz18_2 : wr.cell? ⟨gb206, 2, none⟩ = some (.string a0_2) := (blk_cell BK206.out 2).trans rfl
                  have hcz18_3 : wr.cell? ⟨gb206, 3, none⟩ = some (.int .i64 a0_3) := (blk_cell BK206.out 3).trans rfl
                  have hfz18_0 := blk_frozen BK206.out 0
                  have hfz18_1 := blk_frozen BK206.out 1
                  have hfz18_2 := blk_frozen BK206.out 2
                  have hfz18_3 := blk_frozen BK206.out 3
                  have p210 : 0 ≤ (x6_1 : Int) := of_decide_eq_true (by first | (with_reducible assumption) | assumption)
                  have q210 : x6_1 < (l0_1.length : Int) := of_decide_eq_true (by first | (with_reducible assumption) | assumption)
                  obtain ⟨ad210, e210, hx210_0⟩ := Kd.at_int HR0_1.out x6_1 p210 q210
                  cases e210
                  replace hx210_0 := (HB.out.cell (World.block_lt_of_cell? w _ hx210_0)).trans hx210_0
                  replace p210 := eq_true p210
                  replace q210 := eq_true q210
                  go_wp2_with (first | ((with_reducible refine gate_callee (f := 26) rfl ?_); refine goesL_ (some 34) rfl rfl Try.func26 (by kernel_rfl) rfl #[.int .i64 (rd l0_1 x6_1), .int .i64 2] rfl (by (try simp only [List.map_toArray, List.map_cons, List.map_nil]); first | done | rfl | (simp only [List.length_drop, List.length_take]; rfl)) ?_; (with_reducible refine (aqueductref17_Low.calls k1 (rd l0_1 x6_1) 2 t211 _ A16.out).mono ?_); rintro e w19 ⟨rfl, hb⟩; refine ⟨_, rfl, ?_⟩; have n0_ := Aside0.mk (blk_below (g := gb206) (o := .cells #[.int .i64 a0_0, .slice (some ad210) l0_1.length c0_1, .string a0_2, .int .i64 a0_3] 27 (0, 0)) (by (with_reducible repeat (first | refine blk_drewN ?_ _ | refine blk_drew ?_ | refine blk_alloc ?_ _)); exact BK206.out) hb); have n1_ := Aside0.mk (below_step (by repeat (first | (with_reducible first | exact HB.out | apply below_alloc | apply pw_below_drewN | apply below_drew1 | refine below_set ?_ GE206.out) | exact HB.out)) hb); clear BK206; clear HB; have BK206 := n0_; have HB := n1_; clear n0_ n1_; (try clear hb); (try clear hb2); (try clear hk); (try clear hi)))
                  go_roundg k1
                  case measure => have := HK1.out; omega
                  case rel => exact ⟨(x5_1 ++ t211), (wrap64 (x6_1 + 1)), (by first | rfl | (simp; done) | (simp [*]; done)), (by first | rfl | (simp; done) | (simp [*]; done)), H', ⟨by have := HK1.out; omega⟩, ⟨by (with_reducible repeat (first | refine blk_drewN ?_ _ | refine blk_drew ?_ | refine blk_alloc ?_ _)); exact BK206.out⟩, ⟨by repeat (first | (with_reducible first | exact HB.out | apply below_alloc | apply pw_below_drewN | apply below_drew1 | refine below_set ?_ GE206.out) | exact HB.out)⟩⟩
                · rw [if_neg c17] at H
                  exact absurd H (by simp)
              · rw [if_neg c15] at H
                exact absurd H (by simp)
            · rw [if_neg c14] at H
              have c14b0 : decide (x6_1 < (l0_1.length : Int)) = false := decide_eq_false c14
              clear c14
              replace H := Option.bind_eq_some_iff.mp H
              obtain ⟨t212, A200, H⟩ := H
              replace H : (if x5_1.size + t212.size ≤ 9223372036854775807 then ((aqueductref17_Low.f k1 (a0_2.size : Int) 1).bind fun t213 => (if (x5_1 ++ t212).size + t213.size ≤ 9223372036854775807 then (if ((x5_1 ++ t212) ++ t213).size + a0_2.size ≤ 9223372036854775807 then (some (((x5_1 ++ t212) ++ t213) ++ a0_2)) else (none)) else (none))) else (none)) = some r := H
              have A20 := Aside0.mk A200
              clear A200
              by_cases c21 : x5_1.size + t212.size ≤ 9223372036854775807
              · rw [if_pos c21] at H
                have c21b0 := eq_true c21
                have c21b1 : decide (x5_1.size + t212.size ≤ 9223372036854775807) = true := decide_eq_true c21
                try have c21b2 : (9223372036854775807 < x5_1.size + t212.size) = False := eq_false (Nat.not_lt.2 c21)
                replace H := Option.bind_eq_some_iff.mp H
                obtain ⟨t213, A220, H⟩ := H
                replace H : (if (x5_1 ++ t212).size + t213.size ≤ 9223372036854775807 then (if ((x5_1 ++ t212) ++ t213).size + a0_2.size ≤ 9223372036854775807 then (some (((x5_1 ++ t212) ++ t213) ++ a0_2)) else (none)) else (none)) = some r := H
                have A22 := Aside0.mk A220
                clear A220
                by_cases c23 : (x5_1 ++ t212).size + t213.size ≤ 9223372036854775807
                · rw [if_pos c23] at H
                  have c23b0 := eq_true c23
                  have c23b1 : decide ((x5_1 ++ t212).size + t213.size ≤ 9223372036854775807) = true := decide_eq_true c23
                  try have c23b2 : (9223372036854775807 < (x5_1 ++ t212).size + t213.size) = False := eq_false (Nat.not_lt.2 c23)
                  (try (have c23b3 : (9223372036854775807 < ((x5_1.size) + (t212.size)) + t213.size) = False := eq_false (by have h_ := c23; simp only [ByteArray.size_append] at h_; omega)))
                  (try (have c23b4 : (((x5_1.size) + (t212.size)) + t213.size ≤ 9223372036854775807) = True := eq_true (by have h_ := c23; simp only [ByteArray.size_append] at h_; omega)))
                  by_cases c24 : ((x5_1 ++ t212) ++ t213).size + a0_2.size ≤ 9223372036854775807
                  · rw [if_pos c24] at H
                    have c24b0 := eq_true c24
                    have c24b1 : decide (((x5_1 ++ t212) ++ t213).size + a0_2.size ≤ 9223372036854775807) = true := decide_eq_true c24
                    try have c24b2 : (9223372036854775807 < ((x5_1 ++ t212) ++ t213).size + a0_2.size) = False := eq_false (Nat.not_lt.2 c24)
                    (try (have c24b3 : (9223372036854775807 < (((x5_1.size) + (t212.size)) + (t213.size)) + a0_2.size) = False := eq_false (by have h_ := c24; simp only [ByteArray.size_append] at h_; omega)))
                    (try (have c24b4 : ((((x5_1.size) + (t212.size)) + (t213.size)) + a0_2.size ≤ 9223372036854775807) = True := eq_true (by have h_ := c24; simp only [ByteArray.size_append] at h_; omega)))
                    obtain rfl := Option.some.inj H
                    have hcz25_0 : wr.cell? ⟨gb206, 0, none⟩ = some (.int .i64 a0_0) := (blk_cell BK206.out 0).trans rfl
                    have hcz25_1 : wr.cell? ⟨gb206, 1, none⟩ = some (.slice A0_1 l0_1.length c0_1) := (blk_cell BK206.out 1).trans rfl
                    have hcz25_2 : wr.cell? ⟨gb206, 2, none⟩ = some (.string a0_2) := (blk_cell BK206.out 2).trans rfl
                    have hcz25_3 : wr.cell? ⟨gb206, 3, none⟩ = some (.int .i64 a0_3) := (blk_cell BK206.out 3).trans rfl
                    have hfz25_0 := blk_frozen BK206.out 0
                    have hfz25_1 := blk_frozen BK206.out 1
                    have hfz25_2 := blk_frozen BK206.out 2
                    have hfz25_3 := blk_frozen BK206.out 3
                    try go_wp2
                    have n0_ := Aside0.mk (blk_drew BK206.out)
                    have n1_ := Aside0.mk (below_drew1 HB.out)
                    clear BK206
                    clear HB
                    have BK206 := n0_
                    have HB := n1_
                    clear n0_ n1_
                    refine start_ (n := 13) (S := fun w' => w'.cell? ⟨gb206, 0, none⟩ = some (.int .i64 a0_0) ∧ w'.cell? ⟨gb206, 1, none⟩ = some (.slice A0_1 l0_1.length c0_1) ∧ w'.cell? ⟨gb206, 2, none⟩ = some (.string a0_2) ∧ w'.cell? ⟨gb206, 3, none⟩ = some (.int .i64 a0_3)) (ds := []) (bsq 13 0) (by kernel_rfl) rfl rfl ⟨(blk_cell BK206.out 0).trans rfl, (blk_cell BK206.out 1).trans rfl, (blk_cell BK206.out 2).trans rfl, (blk_cell BK206.out 3).trans rfl⟩ (fun hHeld => ?_); refine with_tabW aqueductref17_Rules.tab6 aqueductref17_Rules.bits6 (fun HT_ HW_ => ?_)
                    generalize wr.drew = w26 at BK206 HB hHeld ⊢
                    refine pure_ (i := 0) (N := some 36) (v := ?_) (a' := ?_) (bsq 13 1) rfl rfl (any_of HT_.out (by kernel_rfl)) (fun _ _ _ h => h) (Or.inl ⟨by rfl, ?_⟩) ?_ ?_
                    rotate_left
                    · intro w'
                      go_simp
                      with_reducible rfl
                    rotate_left
                    · simp only [Act.put, bq1, bq2, bq3, i64_w, i32_w]
                      rfl
                    refine pure_ (i := 1) (N := some 37) (v := ?_) (a' := ?_) (bsq 13 3) rfl rfl (any_of HT_.out (by kernel_rfl)) (fun _ _ _ h => h) (Or.inl ⟨by rfl, ?_⟩) ?_ ?_
                    rotate_left
                    · intro w'
                      go_simp
                      with_reducible rfl
                    rotate_left
                    · simp only [Act.put, bq1, bq2, bq3, i64_w, i32_w]
                      rfl
                    refine pure_ (i := 4) (N := some 40) (v := ?_) (a' := ?_) (bsq 13 19) rfl rfl (any_of HT_.out (by kernel_rfl)) (fun _ _ _ h => h) (Or.inl ⟨by rfl, ?_⟩) ?_ ?_
                    rotate_left
                    · intro w'
                      go_simp
                      with_reducible rfl
                    rotate_left
                    · simp only [Act.put, bq1, bq2, bq3, i64_w, i32_w]
                      rfl
                    refine pure_ (i := 9) (N := some 45) (v := ?_) (a' := ?_) (bsq 13 531) rfl rfl (any_of HT_.out (by kernel_rfl)) (fun _ _ _ h => h) (Or.inl ⟨by rfl, ?_⟩) ?_ ?_
                    rotate_left
                    · intro w'
                      go_simp
                      with_reducible rfl
                    rotate_left
                    · simp only [Act.put, bq1, bq2, bq3, i64_w, i32_w]
                      rfl
                    refine take_ (i := 5) (N := some 41) (v := ?_) (a' := ?_) (bsq 13 563) rfl rfl (take_ofW HT_.out HW_.out (by kernel_rfl)) (fun _ _ _ h => h) (Or.inl ⟨by rfl, ?_⟩) hHeld ?_ ?_
                    rotate_left
                    · rintro w' ⟨s0, s1, s2, s3⟩
                      go_simp
                      with_reducible rfl
                    rotate_left
                    · simp only [Act.put, bq1, bq2, bq3, i64_w, i32_w]
                      rfl
                    refine pure_ (i := 6) (N := some 42) (v := ?_) (a' := ?_) (bsq 13 627) rfl rfl (any_of HT_.out (by kernel_rfl)) (fun _ _ _ h => h) (Or.inl ⟨by rfl, ?_⟩) ?_ ?_
                    rotate_left
                    · intro w'
                      go_simp
                      with_reducible rfl
                    rotate_left
                    · simp only [Act.put, bq1, bq2, bq3, i64_w, i32_w]
                      rfl
                    refine take_ (i := 10) (N := some 46) (v := ?_) (a' := ?_) (bsq 13 1651) rfl rfl (take_ofW HT_.out HW_.out (by kernel_rfl)) (fun _ _ _ h => h) (Or.inl ⟨by rfl, ?_⟩) hHeld ?_ ?_
                    rotate_left
                    · rintro w' ⟨s0, s1, s2, s3⟩
                      go_simp
                      with_reducible rfl
                    rotate_left
                    · simp only [Act.put, bq1, bq2, bq3, i64_w, i32_w]
                      rfl
                    refine one_ (i := 2) (N := some 38) (bsq 13 1655) rfl rfl (one_of HT_.out (by kernel_rfl)) (by decide) (fun K hK => ?_)
                    refine goes_ Try.func26 (by kernel_rfl) rfl #[.int .i64 a1, .int .i64 2] (by rfl) rfl rfl (by (try simp only [List.map_toArray, List.map_cons, List.map_nil]); first | done | rfl | (simp only [List.length_drop, List.length_take]; rfl)) ?_
                    with_reducible refine (aqueductref17_Low.calls k1 a1 2 t212 _ A20.out).mono ?_
                    rintro e w27 ⟨rfl, hb⟩
                    refine ⟨_, rfl, ?_⟩
                    have n0_ := Aside0.mk (blk_below (g := gb206) (o := .cells #[.int .i64 a0_0, .slice A0_1 l0_1.length c0_1, .string a0_2, .int .i64 a0_3] 27 (0, 0)) (by (with_reducible repeat (first | refine blk_drewN ?_ _ | refine blk_drew ?_ | refine blk_alloc ?_ _)); exact BK206.out) hb)
                    have n1_ := Aside0.mk (below_step (by repeat (first | (with_reducible first | exact HB.out | apply below_alloc | apply pw_below_drewN | apply below_drew1 | refine below_set ?_ GE206.out) | exact HB.out)) hb)
                    clear BK206
                    clear HB
                    have BK206 := n0_
                    have HB := n1_
                    clear n0_ n1_
                    (try clear hb)
                    (try clear hb2)
                    (try clear hk)
                    (try clear hi)
                    refine hK.out _ _ ⟨(blk_cell BK206.out 0).trans rfl, (blk_cell BK206.out 1).trans rfl, (blk_cell BK206.out 2).trans rfl, (blk_cell BK206.out 3).trans rfl⟩ (fun hHeld => ?_)
                    clear hK K
                    refine norm_ (a' := ?_) ?_ ?_
                    rotate_left
                    · show Act.put _ (some 38) _ = _
                      simp only [Act.put, bq1, bq2, bq3, i64_w, i32_w]
                      rfl
                    refine pure_ (i := 3) (N := some 39) (v := ?_) (a' := ?_) (bsq 13 1663) rfl rfl (any_of HT_.out (by kernel_rfl)) (fun _ _ _ h => h) (Or.inl ⟨by rfl, ?_⟩) ?_ ?_
                    rotate_left
                    · intro w'
                      go_simp
                      with_reducible rfl
                    rotate_left
                    · simp only [Act.put, bq1, bq2, bq3, i64_w, i32_w]
                      rfl
                    refine one_ (i := 7) (N := some 43) (bsq 13 1791) rfl rfl (one_of HT_.out (by kernel_rfl)) (by decide) (fun K hK => ?_)
                    refine goes_ Try.func26 (by kernel_rfl) rfl #[.int .i64 (a0_2.size : Int), .int .i64 1] (by rfl) rfl rfl (by (try simp only [List.map_toArray, List.map_cons, List.map_nil]); first | done | rfl | (simp only [List.length_drop, List.length_take]; rfl)) ?_
                    with_reducible refine (aqueductref17_Low.calls k1 (a0_2.size : Int) 1 t213 _ A22.out).mono ?_
                    rintro e w28 ⟨rfl, hb⟩
                    refine ⟨_, rfl, ?_⟩
                    have n0_ := Aside0.mk (blk_below (g := gb206) (o := .cells #[.int .i64 a0_0, .slice A0_1 l0_1.length c0_1, .string a0_2, .int .i64 a0_3] 27 (0, 0)) (by (with_reducible repeat (first | refine blk_drewN ?_ _ | refine blk_drew ?_ | refine blk_alloc ?_ _)); exact BK206.out) hb)
                    have n1_ := Aside0.mk (below_step (by repeat (first | (with_reducible first | exact HB.out | apply below_alloc | apply pw_below_drewN | apply below_drew1 | refine below_set ?_ GE206.out) | exact HB.out)) hb)
                    clear BK206
                    clear HB
                    have BK206 := n0_
                    have HB := n1_
                    clear n0_ n1_
                    (try clear hb)
                    (try clear hb2)
                    (try clear hk)
                    (try clear hi)
                    refine hK.out _ _ ⟨(blk_cell BK206.out 0).trans rfl, (blk_cell BK206.out 1).trans rfl, (blk_cell BK206.out 2).trans rfl, (blk_cell BK206.out 3).trans rfl⟩ (fun hHeld => ?_)
                    clear hK K
                    refine norm_ (a' := ?_) ?_ ?_
                    rotate_left
                    · show Act.put _ (some 43) _ = _
                      simp only [Act.put, bq1, bq2, bq3, i64_w, i32_w]
                      rfl
                    refine pure_ (i := 8) (N := some 44) (v := ?_) (a' := ?_) (bsq 13 2047) rfl rfl (any_of HT_.out (by kernel_rfl)) (fun _ _ _ h => h) (Or.inl ⟨by rfl, ?_⟩) ?_ ?_
                    rotate_left
                    · intro w'
                      go_simp
                      with_reducible rfl
                    rotate_left
                    · simp only [Act.put, bq1, bq2, bq3, i64_w, i32_w]
                      rfl
                    refine pure_ (i := 11) (N := some 47) (v := ?_) (a' := ?_) (bsq 13 4095) rfl rfl (any_of HT_.out (by kernel_rfl)) (fun _ _ _ h => h) (Or.inl ⟨by rfl, ?_⟩) ?_ ?_
                    rotate_left
                    · intro w'
                      go_simp
                      with_reducible rfl
                    rotate_left
                    · simp only [Act.put, bq1, bq2, bq3, i64_w, i32_w]
                      rfl
                    refine pure_ (i := 12) (N := some 4) (v := ?_) (a' := ?_) (bsq 13 8191) rfl rfl (any_of HT_.out (by kernel_rfl)) (fun _ _ _ h => h) (Or.inl ⟨by rfl, ?_⟩) ?_ ?_
                    rotate_left
                    · intro w'
                      go_simp
                      with_reducible rfl
                    rotate_left
                    · simp only [Act.put, bq1, bq2, bq3, i64_w, i32_w]
                      rfl
                    refine done_ (done_of HT_.out (by kernel_rfl)) ?_
                    try go_wp2
                    go_ret
                    exact ⟨by first | rfl | (simp [errW_none, errW_some] <;> rfl) | (simp [*, errW_none, errW_some] <;> rfl), by repeat (first | (with_reducible first | exact HB.out | apply below_alloc | apply pw_below_drewN | apply below_drew1 | refine below_set ?_ GE206.out) | exact HB.out)⟩
                  · rw [if_neg c24] at H
                    exact absurd H (by simp)
                · rw [if_neg c23] at H
                  exact absurd H (by simp)
              · rw [if_neg c21] at H
                exact absurd H (by simp)
      · rw [if_neg c8] at H
        exact absurd H (by simp)
    · rw [if_neg c6] at H
      exact absurd H (by simp)
  · rw [if_neg c4] at H
    exact absurd H (by simp)

end Go.Proofs.Ytkgbhlcbjflnlaa.P
