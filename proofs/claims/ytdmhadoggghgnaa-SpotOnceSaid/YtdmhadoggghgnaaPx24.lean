/- What functions of the program compute, each with the walk that shows it: by a program (a turned copy of the kit's print; wip/myprint.py). -/
import Derived.Test.YtdmhadoggghgnaaPx0
import Derived.Test.YtdmhadoggghgnaaPx4
import Derived.Test.YtdmhadoggghgnaaPx14
import Derived.Test.YtdmhadoggghgnaaPx15
namespace Go.Proofs.Ytdmhadoggghgnaa.P
open Go.RowKit Go.Proofs.YtdmhadoggghgnaaW.PrintWords Go.Proofs.YtdmhadoggghgnaaW.PrintLast Go.Proofs.YtdmhadoggghgnaaW.PrintMore
attribute [local go_sem] max2_int min2_int max_two min_two max_three min_three max_four min_four   -- for this text's walks alone
set_option linter.unusedVariables false
set_option linter.unusedSimpArgs false

/-! ### aqueductlaw13_SpotOnce: function 8 -/
mutual
def aqueductlaw13_SpotOnce.l0 : Nat → Int → Int → Int → Int → Bool → Int → Bool → Int → Option (Bool)
  | 0, _, _, _, _, _, _, _, _ => none
  | k + 1, x3, x6, x7, x283000, x283001, x284000, x284001, x284002 => if x7 < (wrap64 (2 * x3)) then ((spot_Next.f k x283000 x283001 1 x3).bind fun bt285 => (if bt285.2.2 = 0 then ((spot_Need.f k x284000 x284001 x284002 x283000 x283001 bt285.1 bt285.2.1 x3).bind fun t289 => (if x283000 = x284000 then (aqueductlaw13_SpotOnce.j1 k x3 x6 x7 t289 (t289 != (x283001 == x284001)) x284000 x284001 x284002 bt285.1 bt285.2.1) else (aqueductlaw13_SpotOnce.j1 k x3 x6 x7 t289 (t289 != false) x284000 x284001 x284002 bt285.1 bt285.2.1))) else (some false))) else (if x6 = 1 then ((aqueductlaw13_fixed.f k).bind fun t284 => (some t284)) else (some false))
def aqueductlaw13_SpotOnce.j1 : Nat → Int → Int → Int → Bool → Bool → Int → Bool → Int → Int → Bool → Option (Bool)
  | 0, _, _, _, _, _, _, _, _, _, _ => none
  | k + 1, x3, x6, x7, x10, x68, x284000, x284001, x284002, x289000, x289001 => if x68 = true then (some false) else (if x10 = true then (aqueductlaw13_SpotOnce.l0 k x3 (wrap64 (x6 + 1)) (wrap64 (x7 + 1)) x289000 x289001 x284000 x284001 x284002) else (aqueductlaw13_SpotOnce.l0 k x3 x6 (wrap64 (x7 + 1)) x289000 x289001 x284000 x284001 x284002))
end
def aqueductlaw13_SpotOnce.f (k : Nat) (a0_0 : Int) (a0_1 : Bool) (a0_2 : Int) (a0_3 : Int) (a0_4 : Bool) (a0_5 : Int) (a0_6 : Bool) (a0_7 : Int) (a0_8 : Int) : Option (Bool) := if (wrap64 (1 + (Int.tmod (Go.bits .and .i64 a0_8 65535) 200))) = 0 then (none) else (aqueductlaw13_SpotOnce.l0 k (wrap64 (1 + (Int.tmod (Go.bits .and .i64 a0_8 65535) 200))) 0 0 (Int.tmod (Go.bits .and .i64 a0_3 65535) (wrap64 (1 + (Int.tmod (Go.bits .and .i64 a0_8 65535) 200)))) a0_4 (Int.tmod (Go.bits .and .i64 a0_0 65535) (wrap64 (1 + (Int.tmod (Go.bits .and .i64 a0_8 65535) 200)))) a0_1 2)
theorem aqueductlaw13_SpotOnce.mono_l : ∀ k, (∀ y0 y1 y2 y3 y4 y5 y6 y7, LeO (aqueductlaw13_SpotOnce.l0 k y0 y1 y2 y3 y4 y5 y6 y7) (aqueductlaw13_SpotOnce.l0 (k + 1) y0 y1 y2 y3 y4 y5 y6 y7)) ∧ (∀ y0 y1 y2 y3 y4 y5 y6 y7 y8 y9, LeO (aqueductlaw13_SpotOnce.j1 k y0 y1 y2 y3 y4 y5 y6 y7 y8 y9) (aqueductlaw13_SpotOnce.j1 (k + 1) y0 y1 y2 y3 y4 y5 y6 y7 y8 y9))
  | 0 => ⟨fun _ _ _ _ _ _ _ _ r h => by simp [aqueductlaw13_SpotOnce.l0] at h, fun _ _ _ _ _ _ _ _ _ _ r h => by simp [aqueductlaw13_SpotOnce.j1] at h⟩
  | k + 1 => by
    obtain ⟨ih0, ih1⟩ := aqueductlaw13_SpotOnce.mono_l k
    refine ⟨?_, ?_⟩
    · intro y0 y1 y2 y3 y4 y5 y6 y7
      unfold aqueductlaw13_SpotOnce.l0
      repeat' first
      | (with_reducible exact ih0 _ _ _ _ _ _ _ _)
      | (with_reducible exact ih1 _ _ _ _ _ _ _ _ _ _)
      | (with_reducible exact aqueductlaw13_fixed.mono _)
      | (with_reducible exact spot_Need.mono _ _ _ _ _ _ _ _ _)
      | (with_reducible exact spot_Next.mono _ _ _ _ _)
      | (with_reducible exact LeO.refl _)
      | (with_reducible exact LeO.none _)
      | (with_reducible refine LeO.ite ?_ ?_)
      | (with_reducible refine LeO.bind ?_ (fun _ => ?_))
      | exact ih0 _ _ _ _ _ _ _ _
      | exact ih1 _ _ _ _ _ _ _ _ _ _
      | exact aqueductlaw13_fixed.mono _
      | exact spot_Need.mono _ _ _ _ _ _ _ _ _
      | exact spot_Next.mono _ _ _ _ _
      | exact LeO.none _
      | refine LeO.ite ?_ ?_
      | refine LeO.bind ?_ (fun _ => ?_)
    · intro y0 y1 y2 y3 y4 y5 y6 y7 y8 y9
      unfold aqueductlaw13_SpotOnce.j1
      repeat' first
      | (with_reducible exact ih0 _ _ _ _ _ _ _ _)
      | (with_reducible exact ih1 _ _ _ _ _ _ _ _ _ _)
      | (with_reducible exact aqueductlaw13_fixed.mono _)
      | (with_reducible exact spot_Need.mono _ _ _ _ _ _ _ _ _)
      | (with_reducible exact spot_Next.mono _ _ _ _ _)
      | (with_reducible exact LeO.refl _)
      | (with_reducible exact LeO.none _)
      | (with_reducible refine LeO.ite ?_ ?_)
      | (with_reducible refine LeO.bind ?_ (fun _ => ?_))
      | exact ih0 _ _ _ _ _ _ _ _
      | exact ih1 _ _ _ _ _ _ _ _ _ _
      | exact aqueductlaw13_fixed.mono _
      | exact spot_Need.mono _ _ _ _ _ _ _ _ _
      | exact spot_Next.mono _ _ _ _ _
      | exact LeO.none _
      | refine LeO.ite ?_ ?_
      | refine LeO.bind ?_ (fun _ => ?_)
theorem aqueductlaw13_SpotOnce.mono : ∀ a0 a1 a2 a3 a4 a5 a6 a7 a8 k, LeO (aqueductlaw13_SpotOnce.f k a0 a1 a2 a3 a4 a5 a6 a7 a8) (aqueductlaw13_SpotOnce.f (k + 1) a0 a1 a2 a3 a4 a5 a6 a7 a8) := by
  intro a0 a1 a2 a3 a4 a5 a6 a7 a8 k
  obtain ⟨ih0, ih1⟩ := aqueductlaw13_SpotOnce.mono_l k
  unfold aqueductlaw13_SpotOnce.f
  repeat' first
      | (with_reducible exact ih0 _ _ _ _ _ _ _ _)
      | (with_reducible exact ih1 _ _ _ _ _ _ _ _ _ _)
      | (with_reducible exact aqueductlaw13_fixed.mono _)
      | (with_reducible exact spot_Need.mono _ _ _ _ _ _ _ _ _)
      | (with_reducible exact spot_Next.mono _ _ _ _ _)
      | (with_reducible exact LeO.refl _)
      | (with_reducible exact LeO.none _)
      | (with_reducible refine LeO.ite ?_ ?_)
      | (with_reducible refine LeO.bind ?_ (fun _ => ?_))
      | exact ih0 _ _ _ _ _ _ _ _
      | exact ih1 _ _ _ _ _ _ _ _ _ _
      | exact aqueductlaw13_fixed.mono _
      | exact spot_Need.mono _ _ _ _ _ _ _ _ _
      | exact spot_Next.mono _ _ _ _ _
      | exact LeO.none _
      | refine LeO.ite ?_ ?_
      | refine LeO.bind ?_ (fun _ => ?_)
def aqueductlaw13_SpotOnce.T2 : Bool × List (List Nat × List Nat) := (true, [([], []), ([0], [0]), ([1], [1]), ([2], [2]), ([], []), ([3, 4], [3, 4]), ([], []), ([6], [6]), ([7], [7]), ([5, 8], [5, 8]), ([], []), ([10, 9, 0, 1, 2, 3, 4, 5, 6, 7, 8, 9, 10], [9, 10])])
def aqueductlaw13_SpotOnce.B2 : List Nat := [0, 1, 3, 7, 0, 31, 0, 64, 192, 511, 0, 2047]
theorem aqueductlaw13_SpotOnce.tab2 : rtab .any (opsOf Try.f8 2) = aqueductlaw13_SpotOnce.T2 := by kernel_rfl
theorem aqueductlaw13_SpotOnce.bits2 : waitsOk aqueductlaw13_SpotOnce.T2.2 aqueductlaw13_SpotOnce.B2 = true := by kernel_rfl
def aqueductlaw13_SpotOnce.T3 : Bool × List (List Nat × List Nat) := (true, [([], []), ([0], [0]), ([1], [1]), ([2], [2]), ([], []), ([3, 4], [3, 4]), ([], []), ([6], [6]), ([7], [7]), ([5, 8], [5, 8]), ([], []), ([10, 9, 0, 1, 2, 3, 4, 5, 6, 7, 8, 9, 10], [9, 10])])
def aqueductlaw13_SpotOnce.B3 : List Nat := [0, 1, 3, 7, 0, 31, 0, 64, 192, 511, 0, 2047]
theorem aqueductlaw13_SpotOnce.tab3 : rtab .any (opsOf Try.f8 3) = aqueductlaw13_SpotOnce.T3 := by kernel_rfl
theorem aqueductlaw13_SpotOnce.bits3 : waitsOk aqueductlaw13_SpotOnce.T3.2 aqueductlaw13_SpotOnce.B3 = true := by kernel_rfl
set_option maxHeartbeats 8000000 in
set_option maxRecDepth 100000 in
theorem aqueductlaw13_SpotOnce.calls (k : Nat) (a0_0 : Int) (a0_1 : Bool) (a0_2 : Int) (a0_3 : Int) (a0_4 : Bool) (a0_5 : Int) (a0_6 : Bool) (a0_7 : Int) (a0_8 : Int) (r : Bool) (w : World) (h : aqueductlaw13_SpotOnce.f k a0_0 a0_1 a0_2 a0_3 a0_4 a0_5 a0_6 a0_7 a0_8 = some r) (hr_ : r = true) :
    Calls Try.prog 8 #[.agg #[.int .i64 a0_0, .bool a0_1, .int .i64 a0_2, .int .i64 a0_3, .bool a0_4, .int .i64 a0_5, .bool a0_6, .int .i64 a0_7, .int .i64 a0_8]] w fun e w' => e = .returned (.bool r) ∧ Below w.heap.size w w' := by
  have hu27 := Try.underlying27
  have hu25 := Try.underlying25
  have hu23 := Try.underlying23
  have HB := Aside0.mk (Below.refl w.heap.size w)
  have H : (if (wrap64 (1 + (Int.tmod (Go.bits .and .i64 a0_8 65535) 200))) = 0 then (none) else (aqueductlaw13_SpotOnce.l0 k (wrap64 (1 + (Int.tmod (Go.bits .and .i64 a0_8 65535) 200))) 0 0 (Int.tmod (Go.bits .and .i64 a0_3 65535) (wrap64 (1 + (Int.tmod (Go.bits .and .i64 a0_8 65535) 200)))) a0_4 (Int.tmod (Go.bits .and .i64 a0_0 65535) (wrap64 (1 + (Int.tmod (Go.bits .and .i64 a0_8 65535) 200)))) a0_1 2)) = some r := h
  clear h
  have HR_ := Aside0.mk hr_
  clear hr_
  by_cases c2 : (wrap64 (1 + (Int.tmod (Go.bits .and .i64 a0_8 65535) 200))) = 0
  · rw [if_pos c2] at H
    exact absurd H (by simp)
  · rw [if_neg c2] at H
    have c2b0 : ((wrap64 (1 + (Int.tmod (Go.bits .and .i64 a0_8 65535) 200))) == 0) = false := beq_eq_false_iff_ne.mpr c2
    have c2b1 : ((wrap64 (1 + (Int.tmod (Go.bits .and .i64 a0_8 65535) 200))) != 0) = true := bne_iff_ne.mpr c2
    have H' := Aside0.mk H
    clear H
    go_enter Try.func8, Try.ntmps8
    try go_wp2_with (first | ((with_reducible refine gate_dst (N := 1) rfl ?_); refine box_event ?hg (N := 1) ?hd (cs := #[.int .i64 a0_0, .bool a0_1, .int .i64 a0_2, .int .i64 a0_3, .bool a0_4, .int .i64 a0_5, .bool a0_6, .int .i64 a0_7, .int .i64 a0_8]) (t := 27) ?hr ?_; (case hd => rfl); (case hg => rfl); (case hr => first | (go_simp; done) | (go_simp; rfl)); intro gb281 hg w3 hbox hb; have n0_ := Aside0.mk (below_step (by repeat (first | (with_reducible first | exact HB.out | apply below_alloc | apply pw_below_drewN | apply below_drew1) | exact HB.out)) hb); have n1_ := Aside0.mk (hbox); have n2_ := Aside0.mk ((by rw [hg]; exact (below_size (by repeat (first | (with_reducible first | exact HB.out | apply below_alloc | apply pw_below_drewN | apply below_drew1) | exact HB.out))) : w.heap.size ≤ gb281)); have n3_ := Aside0.mk ((by rw [hg]; exact (below_size (by repeat (first | (with_reducible first | exact HB.out | apply below_alloc | apply pw_below_drewN | apply below_drew1) | exact HB.out))) : w.heap.size ≤ gb281)); clear HB; have HB := n0_; have BK281 := n1_; have GW281 := n2_; have GE281 := n3_; clear n0_ n1_ n2_ n3_; clear hb hbox hg; have hcz4_0 : w3.cell? ⟨gb281, 0, none⟩ = some (.int .i64 a0_0) := (blk_cell BK281.out 0).trans rfl; have hcz4_1 : w3.cell? ⟨gb281, 1, none⟩ = some (.bool a0_1) := (blk_cell BK281.out 1).trans rfl; have hcz4_2 : w3.cell? ⟨gb281, 2, none⟩ = some (.int .i64 a0_2) := (blk_cell BK281.out 2).trans rfl; have hcz4_3 : w3.cell? ⟨gb281, 3, none⟩ = some (.int .i64 a0_3) := (blk_cell BK281.out 3).trans rfl; have hcz4_4 : w3.cell? ⟨gb281, 4, none⟩ = some (.bool a0_4) := (blk_cell BK281.out 4).trans rfl; have hcz4_5 : w3.cell? ⟨gb281, 5, none⟩ = some (.int .i64 a0_5) := (blk_cell BK281.out 5).trans rfl; have hcz4_6 : w3.cell? ⟨gb281, 6, none⟩ = some (.bool a0_6) := (blk_cell BK281.out 6).trans rfl; have hcz4_7 : w3.cell? ⟨gb281, 7, none⟩ = some (.int .i64 a0_7) := (blk_cell BK281.out 7).trans rfl; have hcz4_8 : w3.cell? ⟨gb281, 8, none⟩ = some (.int .i64 a0_8) := (blk_cell BK281.out 8).trans rfl; have hfz4_0 := blk_frozen BK281.out 0; have hfz4_1 := blk_frozen BK281.out 1; have hfz4_2 := blk_frozen BK281.out 2; have hfz4_3 := blk_frozen BK281.out 3; have hfz4_4 := blk_frozen BK281.out 4; have hfz4_5 := blk_frozen BK281.out 5; have hfz4_6 := blk_frozen BK281.out 6; have hfz4_7 := blk_frozen BK281.out 7; have hfz4_8 := blk_frozen BK281.out 8))
    have n0_ := Aside0.mk (blk_drew BK281.out)
    have n1_ := Aside0.mk (below_drew1 HB.out)
    clear BK281
    clear HB
    have BK281 := n0_
    have HB := n1_
    clear n0_ n1_
    refine start_ (n := 12) (S := fun w' => w'.cell? ⟨gb281, 0, none⟩ = some (.int .i64 a0_0) ∧ w'.cell? ⟨gb281, 1, none⟩ = some (.bool a0_1) ∧ w'.cell? ⟨gb281, 2, none⟩ = some (.int .i64 a0_2) ∧ w'.cell? ⟨gb281, 3, none⟩ = some (.int .i64 a0_3) ∧ w'.cell? ⟨gb281, 4, none⟩ = some (.bool a0_4) ∧ w'.cell? ⟨gb281, 5, none⟩ = some (.int .i64 a0_5) ∧ w'.cell? ⟨gb281, 6, none⟩ = some (.bool a0_6) ∧ w'.cell? ⟨gb281, 7, none⟩ = some (.int .i64 a0_7) ∧ w'.cell? ⟨gb281, 8, none⟩ = some (.int .i64 a0_8)) (ds := []) #[false, false, false, false, false, false, false, false, false, false, false, false] (by kernel_rfl) rfl rfl ⟨(blk_cell BK281.out 0).trans rfl, (blk_cell BK281.out 1).trans rfl, (blk_cell BK281.out 2).trans rfl, (blk_cell BK281.out 3).trans rfl, (blk_cell BK281.out 4).trans rfl, (blk_cell BK281.out 5).trans rfl, (blk_cell BK281.out 6).trans rfl, (blk_cell BK281.out 7).trans rfl, (blk_cell BK281.out 8).trans rfl⟩ (fun hHeld => ?_); refine with_tabW aqueductlaw13_SpotOnce.tab2 aqueductlaw13_SpotOnce.bits2 (fun HT_ HW_ => ?_)
    generalize w3.drew = w5 at BK281 HB hHeld ⊢
    refine pure_ (i := 0) (N := some 16) (v := ?_) (a' := ?_) #[true, false, false, false, false, false, false, false, false, false, false, false] rfl rfl (any_of HT_.out (by kernel_rfl)) (fun _ _ _ h => h) (Or.inl ⟨by rfl, ?_⟩) ?_ ?_
    rotate_left
    · intro w'
      go_simp
      with_reducible rfl
    rotate_left
    · simp only [Act.put, List.setIfInBounds_toArray, List.set_cons_zero, List.set_cons_succ, i64_w, i32_w]
      rfl
    refine pure_ (i := 1) (N := some 17) (v := ?_) (a' := ?_) #[true, true, false, false, false, false, false, false, false, false, false, false] rfl rfl (any_of HT_.out (by kernel_rfl)) (fun _ _ _ h => h) (Or.inl ⟨by rfl, ?_⟩) ?_ ?_
    rotate_left
    · intro w'
      go_simp
      with_reducible rfl
    rotate_left
    · simp only [Act.put, List.setIfInBounds_toArray, List.set_cons_zero, List.set_cons_succ, i64_w, i32_w]
      rfl
    refine pure_ (i := 4) (N := some 20) (v := ?_) (a' := ?_) #[true, true, false, false, true, false, false, false, false, false, false, false] rfl rfl (any_of HT_.out (by kernel_rfl)) (fun _ _ _ h => h) (Or.inl ⟨by rfl, ?_⟩) ?_ ?_
    rotate_left
    · intro w'
      go_simp
      with_reducible rfl
    rotate_left
    · simp only [Act.put, List.setIfInBounds_toArray, List.set_cons_zero, List.set_cons_succ, i64_w, i32_w]
      rfl
    refine pure_ (i := 6) (N := some 22) (v := ?_) (a' := ?_) #[true, true, false, false, true, false, true, false, false, false, false, false] rfl rfl (any_of HT_.out (by kernel_rfl)) (fun _ _ _ h => h) (Or.inl ⟨by rfl, ?_⟩) ?_ ?_
    rotate_left
    · intro w'
      go_simp
      with_reducible rfl
    rotate_left
    · simp only [Act.put, List.setIfInBounds_toArray, List.set_cons_zero, List.set_cons_succ, i64_w, i32_w]
      rfl
    refine pure_ (i := 7) (N := some 23) (v := ?_) (a' := ?_) #[true, true, false, false, true, false, true, true, false, false, false, false] rfl rfl (any_of HT_.out (by kernel_rfl)) (fun _ _ _ h => h) (Or.inl ⟨by rfl, ?_⟩) ?_ ?_
    rotate_left
    · intro w'
      go_simp
      with_reducible rfl
    rotate_left
    · simp only [Act.put, List.setIfInBounds_toArray, List.set_cons_zero, List.set_cons_succ, i64_w, i32_w]
      rfl
    refine take_ (i := 2) (N := some 18) (v := ?_) (a' := ?_) #[true, true, true, false, true, false, true, true, false, false, false, false] rfl rfl (take_ofW HT_.out HW_.out (by kernel_rfl)) (fun _ _ _ h => h) (Or.inl ⟨by rfl, ?_⟩) hHeld ?_ ?_
    rotate_left
    · rintro w' ⟨s0, s1, s2, s3, s4, s5, s6, s7, s8⟩
      go_simp
      with_reducible rfl
    rotate_left
    · simp only [Act.put, List.setIfInBounds_toArray, List.set_cons_zero, List.set_cons_succ, i64_w, i32_w]
      rfl
    refine pure_ (i := 3) (N := some 19) (v := ?_) (a' := ?_) #[true, true, true, true, true, false, true, true, false, false, false, false] rfl rfl (any_of HT_.out (by kernel_rfl)) (fun _ _ _ h => h) (Or.inl ⟨by rfl, ?_⟩) ?_ ?_
    rotate_left
    · intro w'
      go_simp
      with_reducible rfl
    rotate_left
    · simp only [Act.put, List.setIfInBounds_toArray, List.set_cons_zero, List.set_cons_succ, i64_w, i32_w]
      rfl
    refine pure_ (i := 5) (N := some 21) (v := ?_) (a' := ?_) #[true, true, true, true, true, true, true, true, false, false, false, false] rfl rfl (any_of HT_.out (by kernel_rfl)) (fun _ _ _ h => h) (Or.inl ⟨by rfl, ?_⟩) ?_ ?_
    rotate_left
    · intro w'
      go_simp
      with_reducible rfl
    rotate_left
    · simp only [Act.put, List.setIfInBounds_toArray, List.set_cons_zero, List.set_cons_succ, i64_w, i32_w]
      rfl
    refine take_ (i := 8) (N := some 24) (v := ?_) (a' := ?_) #[true, true, true, true, true, true, true, true, true, false, false, false] rfl rfl (take_ofW HT_.out HW_.out (by kernel_rfl)) (fun _ _ _ h => h) (Or.inl ⟨by rfl, ?_⟩) hHeld ?_ ?_
    rotate_left
    · rintro w' ⟨s0, s1, s2, s3, s4, s5, s6, s7, s8⟩
      go_simp
      with_reducible rfl
    rotate_left
    · simp only [Act.put, List.setIfInBounds_toArray, List.set_cons_zero, List.set_cons_succ, i64_w, i32_w]
      rfl
    refine pure_ (i := 9) (N := some 25) (v := ?_) (a' := ?_) #[true, true, true, true, true, true, true, true, true, true, false, false] rfl rfl (any_of HT_.out (by kernel_rfl)) (fun _ _ _ h => h) (Or.inl ⟨by rfl, ?_⟩) ?_ ?_
    rotate_left
    · intro w'
      go_simp
      with_reducible rfl
    rotate_left
    · simp only [Act.put, List.setIfInBounds_toArray, List.set_cons_zero, List.set_cons_succ, i64_w, i32_w]
      rfl
    refine one_ (i := 10) (N := some 4) #[true, true, true, true, true, true, true, true, true, true, true, false] rfl rfl (one_of HT_.out (by kernel_rfl)) (by decide) (fun K hK => ?_)
    refine box_step ?hg (N := 4) ?hd (cs := #[.int .i64 0, .bool false]) (t := 25) ?hr ?_; (case hd => rfl); (case hg => rfl); (case hr => first | (go_simp; done) | (go_simp; rfl))
    intro gb282 hg w6 hbox hb
    have n0_ := Aside0.mk (blk_below (g := gb281) (o := .cells #[.int .i64 a0_0, .bool a0_1, .int .i64 a0_2, .int .i64 a0_3, .bool a0_4, .int .i64 a0_5, .bool a0_6, .int .i64 a0_7, .int .i64 a0_8] 27 (0, 0)) (by (with_reducible repeat (first | refine blk_drewN ?_ _ | refine blk_drew ?_ | refine blk_alloc ?_ _)); exact BK281.out) hb)
    have n1_ := Aside0.mk (below_step (by repeat (first | (with_reducible first | exact HB.out | apply below_alloc | apply pw_below_drewN | apply below_drew1 | refine below_set ?_ GE281.out) | exact HB.out)) hb)
    have n2_ := Aside0.mk (hbox)
    have n3_ := Aside0.mk ((by rw [hg]; exact (below_size (by repeat (first | (with_reducible first | exact HB.out | apply below_alloc | apply pw_below_drewN | apply below_drew1 | refine below_set ?_ GE281.out) | exact HB.out))) : w.heap.size ≤ gb282))
    have n4_ := Aside0.mk ((by rw [hg]; exact (below_size (by repeat (first | (with_reducible first | exact HB.out | apply below_alloc | apply pw_below_drewN | apply below_drew1 | refine below_set ?_ GE281.out) | exact HB.out))) : w.heap.size ≤ gb282))
    have n5_ := Aside0.mk ((by rw [hg]; exact Nat.ne_of_lt (blk_lt (g := gb281) (o := .cells #[.int .i64 a0_0, .bool a0_1, .int .i64 a0_2, .int .i64 a0_3, .bool a0_4, .int .i64 a0_5, .bool a0_6, .int .i64 a0_7, .int .i64 a0_8] 27 (0, 0)) (by (with_reducible repeat (first | refine blk_drewN ?_ _ | refine blk_drew ?_ | refine blk_alloc ?_ _)); exact BK281.out)) : gb281 ≠ gb282))
    have n6_ := Aside0.mk ((by rw [hg]; exact Nat.ne_of_gt (blk_lt (g := gb281) (o := .cells #[.int .i64 a0_0, .bool a0_1, .int .i64 a0_2, .int .i64 a0_3, .bool a0_4, .int .i64 a0_5, .bool a0_6, .int .i64 a0_7, .int .i64 a0_8] 27 (0, 0)) (by (with_reducible repeat (first | refine blk_drewN ?_ _ | refine blk_drew ?_ | refine blk_alloc ?_ _)); exact BK281.out)) : gb282 ≠ gb281))
    clear BK281
    clear HB
    have BK281 := n0_
    have HB := n1_
    have BK282 := n2_
    have GW282 := n3_
    have GE282 := n4_
    have NB281_282 := n5_
    have NB282_281 := n6_
    clear n0_ n1_ n2_ n3_ n4_ n5_ n6_
    clear hb hbox hg
    refine hK.out _ _ ⟨(blk_cell BK281.out 0).trans rfl, (blk_cell BK281.out 1).trans rfl, (blk_cell BK281.out 2).trans rfl, (blk_cell BK281.out 3).trans rfl, (blk_cell BK281.out 4).trans rfl, (blk_cell BK281.out 5).trans rfl, (blk_cell BK281.out 6).trans rfl, (blk_cell BK281.out 7).trans rfl, (blk_cell BK281.out 8).trans rfl⟩ (fun hHeld => ?_)
    clear hK K
    refine norm_ (a' := ?_) ?_ ?_
    rotate_left
    · show Act.put _ (some 4) _ = _
      simp only [Act.put, List.setIfInBounds_toArray, List.set_cons_zero, List.set_cons_succ, i64_w, i32_w]
      rfl
    refine one_ (i := 11) (N := none) #[true, true, true, true, true, true, true, true, true, true, true, true] rfl rfl (one_of HT_.out (by kernel_rfl)) (by decide) (fun K hK => ?_)
    have hs7 : w6.cell? ⟨gb282, 0, none⟩ = some (.int .i64 0) := (blk_cell BK282.out 0).trans rfl
    have hfs7 := blk_frozen BK282.out 0
    have hns7_0 := NB281_282.out
    have hms7_0 := NB282_281.out
    have hs8 : w6.cell? ⟨gb282, 1, none⟩ = some (.bool false) := (blk_cell BK282.out 1).trans rfl
    have hfs8 := blk_frozen BK282.out 1
    have hns8_0 := NB281_282.out
    have hms8_0 := NB282_281.out
    refine skip_ (w1 := ?_) (by rfl) rfl ?_ ?_
    rotate_left
    · go_simp
      rfl
    refine hK.out _ _ ⟨((cell_far (p := ⟨gb282, _, none⟩) NB281_282.out _).trans (((cell_far (p := ⟨gb282, _, none⟩) NB281_282.out _).trans (hHeld.1)))), ((cell_far (p := ⟨gb282, _, none⟩) NB281_282.out _).trans (((cell_far (p := ⟨gb282, _, none⟩) NB281_282.out _).trans (hHeld.2.1)))), ((cell_far (p := ⟨gb282, _, none⟩) NB281_282.out _).trans (((cell_far (p := ⟨gb282, _, none⟩) NB281_282.out _).trans (hHeld.2.2.1)))), ((cell_far (p := ⟨gb282, _, none⟩) NB281_282.out _).trans (((cell_far (p := ⟨gb282, _, none⟩) NB281_282.out _).trans (hHeld.2.2.2.1)))), ((cell_far (p := ⟨gb282, _, none⟩) NB281_282.out _).trans (((cell_far (p := ⟨gb282, _, none⟩) NB281_282.out _).trans (hHeld.2.2.2.2.1)))), ((cell_far (p := ⟨gb282, _, none⟩) NB281_282.out _).trans (((cell_far (p := ⟨gb282, _, none⟩) NB281_282.out _).trans (hHeld.2.2.2.2.2.1)))), ((cell_far (p := ⟨gb282, _, none⟩) NB281_282.out _).trans (((cell_far (p := ⟨gb282, _, none⟩) NB281_282.out _).trans (hHeld.2.2.2.2.2.2.1)))), ((cell_far (p := ⟨gb282, _, none⟩) NB281_282.out _).trans (((cell_far (p := ⟨gb282, _, none⟩) NB281_282.out _).trans (hHeld.2.2.2.2.2.2.2.1)))), ((cell_far (p := ⟨gb282, _, none⟩) NB281_282.out _).trans (((cell_far (p := ⟨gb282, _, none⟩) NB281_282.out _).trans (hHeld.2.2.2.2.2.2.2.2))))⟩ (fun hHeld => ?_)
    clear hK K
    refine done_ (done_of HT_.out (by kernel_rfl)) ?_
    try go_wp2
    have n0_ : Aside0 (((w6.setCell ⟨gb282, 0, none⟩ (.int .i64 (Int.tmod (Go.bits .and .i64 a0_3 65535) (wrap64 (1 + (Int.tmod (Go.bits .and .i64 a0_8 65535) 200)))))).setCell ⟨gb282, 1, none⟩ (.bool a0_4)).heap[gb281]? = some (.cells #[.int .i64 a0_0, .bool a0_1, .int .i64 a0_2, .int .i64 a0_3, .bool a0_4, .int .i64 a0_5, .bool a0_6, .int .i64 a0_7, .int .i64 a0_8] 27 (0, 0))) := ⟨by (with_reducible repeat (first | refine blk_drewN ?_ _ | refine blk_drew ?_ | refine blk_alloc ?_ _)); refine blk_far ?_ NB281_282.out _; (with_reducible repeat (first | refine blk_drewN ?_ _ | refine blk_drew ?_ | refine blk_alloc ?_ _)); refine blk_far ?_ NB281_282.out _; (with_reducible repeat (first | refine blk_drewN ?_ _ | refine blk_drew ?_ | refine blk_alloc ?_ _)); exact BK281.out⟩
    have n1_ : Aside0 (((w6.setCell ⟨gb282, 0, none⟩ (.int .i64 (Int.tmod (Go.bits .and .i64 a0_3 65535) (wrap64 (1 + (Int.tmod (Go.bits .and .i64 a0_8 65535) 200)))))).setCell ⟨gb282, 1, none⟩ (.bool a0_4)).heap[gb282]? = some (.cells #[.int .i64 (Int.tmod (Go.bits .and .i64 a0_3 65535) (wrap64 (1 + (Int.tmod (Go.bits .and .i64 a0_8 65535) 200)))), .bool a0_4] 25 (0, 0))) := ⟨by (with_reducible repeat (first | refine blk_drewN ?_ _ | refine blk_drew ?_ | refine blk_alloc ?_ _)); refine blk_put (cs := #[.int .i64 (Int.tmod (Go.bits .and .i64 a0_3 65535) (wrap64 (1 + (Int.tmod (Go.bits .and .i64 a0_8 65535) 200)))), .bool false]) ?_ 1 _ rfl; (with_reducible repeat (first | refine blk_drewN ?_ _ | refine blk_drew ?_ | refine blk_alloc ?_ _)); refine blk_put (cs := #[.int .i64 0, .bool false]) ?_ 0 _ rfl; (with_reducible repeat (first | refine blk_drewN ?_ _ | refine blk_drew ?_ | refine blk_alloc ?_ _)); exact BK282.out⟩
    have n2_ : Aside0 (Below w.heap.size w ((w6.setCell ⟨gb282, 0, none⟩ (.int .i64 (Int.tmod (Go.bits .and .i64 a0_3 65535) (wrap64 (1 + (Int.tmod (Go.bits .and .i64 a0_8 65535) 200)))))).setCell ⟨gb282, 1, none⟩ (.bool a0_4))) := ⟨by repeat (first | (with_reducible first | exact HB.out | apply below_alloc | apply pw_below_drewN | apply below_drew1 | refine below_set ?_ GE281.out | refine below_set ?_ GE282.out) | exact HB.out)⟩
    (try clear BK281)
    (try clear BK282)
    (try clear HB)
    generalize ((w6.setCell ⟨gb282, 0, none⟩ (.int .i64 (Int.tmod (Go.bits .and .i64 a0_3 65535) (wrap64 (1 + (Int.tmod (Go.bits .and .i64 a0_8 65535) 200)))))).setCell ⟨gb282, 1, none⟩ (.bool a0_4)) = w9 at n0_ n1_ n2_ ⊢
    have BK281 := n0_
    have BK282 := n1_
    have HB := n2_
    clear n0_ n1_ n2_
    have n0_ := Aside0.mk (blk_drew BK281.out)
    have n1_ := Aside0.mk (blk_drew BK282.out)
    have n2_ := Aside0.mk (below_drew1 HB.out)
    clear BK281
    clear BK282
    clear HB
    have BK281 := n0_
    have BK282 := n1_
    have HB := n2_
    clear n0_ n1_ n2_
    refine start_ (n := 12) (S := fun w' => w'.cell? ⟨gb281, 0, none⟩ = some (.int .i64 a0_0) ∧ w'.cell? ⟨gb281, 1, none⟩ = some (.bool a0_1) ∧ w'.cell? ⟨gb281, 2, none⟩ = some (.int .i64 a0_2) ∧ w'.cell? ⟨gb281, 3, none⟩ = some (.int .i64 a0_3) ∧ w'.cell? ⟨gb281, 4, none⟩ = some (.bool a0_4) ∧ w'.cell? ⟨gb281, 5, none⟩ = some (.int .i64 a0_5) ∧ w'.cell? ⟨gb281, 6, none⟩ = some (.bool a0_6) ∧ w'.cell? ⟨gb281, 7, none⟩ = some (.int .i64 a0_7) ∧ w'.cell? ⟨gb281, 8, none⟩ = some (.int .i64 a0_8)) (ds := []) #[false, false, false, false, false, false, false, false, false, false, false, false] (by kernel_rfl) rfl rfl ⟨(blk_cell BK281.out 0).trans rfl, (blk_cell BK281.out 1).trans rfl, (blk_cell BK281.out 2).trans rfl, (blk_cell BK281.out 3).trans rfl, (blk_cell BK281.out 4).trans rfl, (blk_cell BK281.out 5).trans rfl, (blk_cell BK281.out 6).trans rfl, (blk_cell BK281.out 7).trans rfl, (blk_cell BK281.out 8).trans rfl⟩ (fun hHeld => ?_); refine with_tabW aqueductlaw13_SpotOnce.tab3 aqueductlaw13_SpotOnce.bits3 (fun HT_ HW_ => ?_)
    generalize w9.drew = w10 at BK281 BK282 HB hHeld ⊢
    refine pure_ (i := 0) (N := some 26) (v := ?_) (a' := ?_) #[true, false, false, false, false, false, false, false, false, false, false, false] rfl rfl (any_of HT_.out (by kernel_rfl)) (fun _ _ _ h => h) (Or.inl ⟨by rfl, ?_⟩) ?_ ?_
    rotate_left
    · intro w'
      go_simp
      with_reducible rfl
    rotate_left
    · simp only [Act.put, List.setIfInBounds_toArray, List.set_cons_zero, List.set_cons_succ, i64_w, i32_w]
      rfl
    refine pure_ (i := 1) (N := some 27) (v := ?_) (a' := ?_) #[true, true, false, false, false, false, false, false, false, false, false, false] rfl rfl (any_of HT_.out (by kernel_rfl)) (fun _ _ _ h => h) (Or.inl ⟨by rfl, ?_⟩) ?_ ?_
    rotate_left
    · intro w'
      go_simp
      with_reducible rfl
    rotate_left
    · simp only [Act.put, List.setIfInBounds_toArray, List.set_cons_zero, List.set_cons_succ, i64_w, i32_w]
      rfl
    refine pure_ (i := 4) (N := some 30) (v := ?_) (a' := ?_) #[true, true, false, false, true, false, false, false, false, false, false, false] rfl rfl (any_of HT_.out (by kernel_rfl)) (fun _ _ _ h => h) (Or.inl ⟨by rfl, ?_⟩) ?_ ?_
    rotate_left
    · intro w'
      go_simp
      with_reducible rfl
    rotate_left
    · simp only [Act.put, List.setIfInBounds_toArray, List.set_cons_zero, List.set_cons_succ, i64_w, i32_w]
      rfl
    refine pure_ (i := 6) (N := some 32) (v := ?_) (a' := ?_) #[true, true, false, false, true, false, true, false, false, false, false, false] rfl rfl (any_of HT_.out (by kernel_rfl)) (fun _ _ _ h => h) (Or.inl ⟨by rfl, ?_⟩) ?_ ?_
    rotate_left
    · intro w'
      go_simp
      with_reducible rfl
    rotate_left
    · simp only [Act.put, List.setIfInBounds_toArray, List.set_cons_zero, List.set_cons_succ, i64_w, i32_w]
      rfl
    refine pure_ (i := 7) (N := some 33) (v := ?_) (a' := ?_) #[true, true, false, false, true, false, true, true, false, false, false, false] rfl rfl (any_of HT_.out (by kernel_rfl)) (fun _ _ _ h => h) (Or.inl ⟨by rfl, ?_⟩) ?_ ?_
    rotate_left
    · intro w'
      go_simp
      with_reducible rfl
    rotate_left
    · simp only [Act.put, List.setIfInBounds_toArray, List.set_cons_zero, List.set_cons_succ, i64_w, i32_w]
      rfl
    refine take_ (i := 2) (N := some 28) (v := ?_) (a' := ?_) #[true, true, true, false, true, false, true, true, false, false, false, false] rfl rfl (take_ofW HT_.out HW_.out (by kernel_rfl)) (fun _ _ _ h => h) (Or.inl ⟨by rfl, ?_⟩) hHeld ?_ ?_
    rotate_left
    · rintro w' ⟨s0, s1, s2, s3, s4, s5, s6, s7, s8⟩
      go_simp
      with_reducible rfl
    rotate_left
    · simp only [Act.put, List.setIfInBounds_toArray, List.set_cons_zero, List.set_cons_succ, i64_w, i32_w]
      rfl
    refine pure_ (i := 3) (N := some 29) (v := ?_) (a' := ?_) #[true, true, true, true, true, false, true, true, false, false, false, false] rfl rfl (any_of HT_.out (by kernel_rfl)) (fun _ _ _ h => h) (Or.inl ⟨by rfl, ?_⟩) ?_ ?_
    rotate_left
    · intro w'
      go_simp
      with_reducible rfl
    rotate_left
    · simp only [Act.put, List.setIfInBounds_toArray, List.set_cons_zero, List.set_cons_succ, i64_w, i32_w]
      rfl
    refine pure_ (i := 5) (N := some 31) (v := ?_) (a' := ?_) #[true, true, true, true, true, true, true, true, false, false, false, false] rfl rfl (any_of HT_.out (by kernel_rfl)) (fun _ _ _ h => h) (Or.inl ⟨by rfl, ?_⟩) ?_ ?_
    rotate_left
    · intro w'
      go_simp
      with_reducible rfl
    rotate_left
    · simp only [Act.put, List.setIfInBounds_toArray, List.set_cons_zero, List.set_cons_succ, i64_w, i32_w]
      rfl
    refine take_ (i := 8) (N := some 34) (v := ?_) (a' := ?_) #[true, true, true, true, true, true, true, true, true, false, false, false] rfl rfl (take_ofW HT_.out HW_.out (by kernel_rfl)) (fun _ _ _ h => h) (Or.inl ⟨by rfl, ?_⟩) hHeld ?_ ?_
    rotate_left
    · rintro w' ⟨s0, s1, s2, s3, s4, s5, s6, s7, s8⟩
      go_simp
      with_reducible rfl
    rotate_left
    · simp only [Act.put, List.setIfInBounds_toArray, List.set_cons_zero, List.set_cons_succ, i64_w, i32_w]
      rfl
    refine pure_ (i := 9) (N := some 35) (v := ?_) (a' := ?_) #[true, true, true, true, true, true, true, true, true, true, false, false] rfl rfl (any_of HT_.out (by kernel_rfl)) (fun _ _ _ h => h) (Or.inl ⟨by rfl, ?_⟩) ?_ ?_
    rotate_left
    · intro w'
      go_simp
      with_reducible rfl
    rotate_left
    · simp only [Act.put, List.setIfInBounds_toArray, List.set_cons_zero, List.set_cons_succ, i64_w, i32_w]
      rfl
    refine one_ (i := 10) (N := some 5) #[true, true, true, true, true, true, true, true, true, true, true, false] rfl rfl (one_of HT_.out (by kernel_rfl)) (by decide) (fun K hK => ?_)
    refine box_step ?hg (N := 5) ?hd (cs := #[.int .i64 0, .bool false, .int .i64 0]) (t := 23) ?hr ?_; (case hd => rfl); (case hg => rfl); (case hr => first | (go_simp; done) | (go_simp; rfl))
    intro gb283 hg w11 hbox hb
    have n0_ := Aside0.mk (blk_below (g := gb281) (o := .cells #[.int .i64 a0_0, .bool a0_1, .int .i64 a0_2, .int .i64 a0_3, .bool a0_4, .int .i64 a0_5, .bool a0_6, .int .i64 a0_7, .int .i64 a0_8] 27 (0, 0)) (by (with_reducible repeat (first | refine blk_drewN ?_ _ | refine blk_drew ?_ | refine blk_alloc ?_ _)); exact BK281.out) hb)
    have n1_ := Aside0.mk (blk_below (g := gb282) (o := .cells #[.int .i64 (Int.tmod (Go.bits .and .i64 a0_3 65535) (wrap64 (1 + (Int.tmod (Go.bits .and .i64 a0_8 65535) 200)))), .bool a0_4] 25 (0, 0)) (by (with_reducible repeat (first | refine blk_drewN ?_ _ | refine blk_drew ?_ | refine blk_alloc ?_ _)); exact BK282.out) hb)
    have n2_ := Aside0.mk (below_step (by repeat (first | (with_reducible first | exact HB.out | apply below_alloc | apply pw_below_drewN | apply below_drew1 | refine below_set ?_ GE281.out | refine below_set ?_ GE282.out) | exact HB.out)) hb)
    have n3_ := Aside0.mk (hbox)
    have n4_ := Aside0.mk ((by rw [hg]; exact (below_size (by repeat (first | (with_reducible first | exact HB.out | apply below_alloc | apply pw_below_drewN | apply below_drew1 | refine below_set ?_ GE281.out | refine below_set ?_ GE282.out) | exact HB.out))) : w.heap.size ≤ gb283))
    have n5_ := Aside0.mk ((by rw [hg]; exact (below_size (by repeat (first | (with_reducible first | exact HB.out | apply below_alloc | apply pw_below_drewN | apply below_drew1 | refine below_set ?_ GE281.out | refine below_set ?_ GE282.out) | exact HB.out))) : w.heap.size ≤ gb283))
    have n6_ := Aside0.mk ((by rw [hg]; exact Nat.ne_of_lt (blk_lt (g := gb281) (o := .cells #[.int .i64 a0_0, .bool a0_1, .int .i64 a0_2, .int .i64 a0_3, .bool a0_4, .int .i64 a0_5, .bool a0_6, .int .i64 a0_7, .int .i64 a0_8] 27 (0, 0)) (by (with_reducible repeat (first | refine blk_drewN ?_ _ | refine blk_drew ?_ | refine blk_alloc ?_ _)); exact BK281.out)) : gb281 ≠ gb283))
    have n7_ := Aside0.mk ((by rw [hg]; exact Nat.ne_of_gt (blk_lt (g := gb281) (o := .cells #[.int .i64 a0_0, .bool a0_1, .int .i64 a0_2, .int .i64 a0_3, .bool a0_4, .int .i64 a0_5, .bool a0_6, .int .i64 a0_7, .int .i64 a0_8] 27 (0, 0)) (by (with_reducible repeat (first | refine blk_drewN ?_ _ | refine blk_drew ?_ | refine blk_alloc ?_ _)); exact BK281.out)) : gb283 ≠ gb281))
    have n8_ := Aside0.mk ((by rw [hg]; exact Nat.ne_of_lt (blk_lt (g := gb282) (o := .cells #[.int .i64 (Int.tmod (Go.bits .and .i64 a0_3 65535) (wrap64 (1 + (Int.tmod (Go.bits .and .i64 a0_8 65535) 200)))), .bool a0_4] 25 (0, 0)) (by (with_reducible repeat (first | refine blk_drewN ?_ _ | refine blk_drew ?_ | refine blk_alloc ?_ _)); exact BK282.out)) : gb282 ≠ gb283))
    have n9_ := Aside0.mk ((by rw [hg]; exact Nat.ne_of_gt (blk_lt (g := gb282) (o := .cells #[.int .i64 (Int.tmod (Go.bits .and .i64 a0_3 65535) (wrap64 (1 + (Int.tmod (Go.bits .and .i64 a0_8 65535) 200)))), .bool a0_4] 25 (0, 0)) (by (with_reducible repeat (first | refine blk_drewN ?_ _ | refine blk_drew ?_ | refine blk_alloc ?_ _)); exact BK282.out)) : gb283 ≠ gb282))
    clear BK281
    clear BK282
    clear HB
    have BK281 := n0_
    have BK282 := n1_
    have HB := n2_
    have BK283 := n3_
    have GW283 := n4_
    have GE283 := n5_
    have NB281_283 := n6_
    have NB283_281 := n7_
    have NB282_283 := n8_
    have NB283_282 := n9_
    clear n0_ n1_ n2_ n3_ n4_ n5_ n6_ n7_ n8_ n9_
    clear hb hbox hg
    refine hK.out _ _ ⟨(blk_cell BK281.out 0).trans rfl, (blk_cell BK281.out 1).trans rfl, (blk_cell BK281.out 2).trans rfl, (blk_cell BK281.out 3).trans rfl, (blk_cell BK281.out 4).trans rfl, (blk_cell BK281.out 5).trans rfl, (blk_cell BK281.out 6).trans rfl, (blk_cell BK281.out 7).trans rfl, (blk_cell BK281.out 8).trans rfl⟩ (fun hHeld => ?_)
    clear hK K
    refine norm_ (a' := ?_) ?_ ?_
    rotate_left
    · show Act.put _ (some 5) _ = _
      simp only [Act.put, List.setIfInBounds_toArray, List.set_cons_zero, List.set_cons_succ, i64_w, i32_w]
      rfl
    refine one_ (i := 11) (N := none) #[true, true, true, true, true, true, true, true, true, true, true, true] rfl rfl (one_of HT_.out (by kernel_rfl)) (by decide) (fun K hK => ?_)
    have hs12 : w11.cell? ⟨gb283, 0, none⟩ = some (.int .i64 0) := (blk_cell BK283.out 0).trans rfl
    have hfs12 := blk_frozen BK283.out 0
    have hns12_0 := NB281_283.out
    have hns12_1 := NB282_283.out
    have hms12_0 := NB283_281.out
    have hms12_1 := NB283_282.out
    have hs13 : w11.cell? ⟨gb283, 1, none⟩ = some (.bool false) := (blk_cell BK283.out 1).trans rfl
    have hfs13 := blk_frozen BK283.out 1
    have hns13_0 := NB281_283.out
    have hns13_1 := NB282_283.out
    have hms13_0 := NB283_281.out
    have hms13_1 := NB283_282.out
    have hs14 : w11.cell? ⟨gb283, 2, none⟩ = some (.int .i64 0) := (blk_cell BK283.out 2).trans rfl
    have hfs14 := blk_frozen BK283.out 2
    have hns14_0 := NB281_283.out
    have hns14_1 := NB282_283.out
    have hms14_0 := NB283_281.out
    have hms14_1 := NB283_282.out
    refine skip_ (w1 := ?_) (by rfl) rfl ?_ ?_
    rotate_left
    · go_simp
      rfl
    refine hK.out _ _ ⟨((cell_far (p := ⟨gb283, _, none⟩) NB281_283.out _).trans (((cell_far (p := ⟨gb283, _, none⟩) NB281_283.out _).trans (((cell_far (p := ⟨gb283, _, none⟩) NB281_283.out _).trans (hHeld.1)))))), ((cell_far (p := ⟨gb283, _, none⟩) NB281_283.out _).trans (((cell_far (p := ⟨gb283, _, none⟩) NB281_283.out _).trans (((cell_far (p := ⟨gb283, _, none⟩) NB281_283.out _).trans (hHeld.2.1)))))), ((cell_far (p := ⟨gb283, _, none⟩) NB281_283.out _).trans (((cell_far (p := ⟨gb283, _, none⟩) NB281_283.out _).trans (((cell_far (p := ⟨gb283, _, none⟩) NB281_283.out _).trans (hHeld.2.2.1)))))), ((cell_far (p := ⟨gb283, _, none⟩) NB281_283.out _).trans (((cell_far (p := ⟨gb283, _, none⟩) NB281_283.out _).trans (((cell_far (p := ⟨gb283, _, none⟩) NB281_283.out _).trans (hHeld.2.2.2.1)))))), ((cell_far (p := ⟨gb283, _, none⟩) NB281_283.out _).trans (((cell_far (p := ⟨gb283, _, none⟩) NB281_283.out _).trans (((cell_far (p := ⟨gb283, _, none⟩) NB281_283.out _).trans (hHeld.2.2.2.2.1)))))), ((cell_far (p := ⟨gb283, _, none⟩) NB281_283.out _).trans (((cell_far (p := ⟨gb283, _, none⟩) NB281_283.out _).trans (((cell_far (p := ⟨gb283, _, none⟩) NB281_283.out _).trans (hHeld.2.2.2.2.2.1)))))), ((cell_far (p := ⟨gb283, _, none⟩) NB281_283.out _).trans (((cell_far (p := ⟨gb283, _, none⟩) NB281_283.out _).trans (((cell_far (p := ⟨gb283, _, none⟩) NB281_283.out _).trans (hHeld.2.2.2.2.2.2.1)))))), ((cell_far (p := ⟨gb283, _, none⟩) NB281_283.out _).trans (((cell_far (p := ⟨gb283, _, none⟩) NB281_283.out _).trans (((cell_far (p := ⟨gb283, _, none⟩) NB281_283.out _).trans (hHeld.2.2.2.2.2.2.2.1)))))), ((cell_far (p := ⟨gb283, _, none⟩) NB281_283.out _).trans (((cell_far (p := ⟨gb283, _, none⟩) NB281_283.out _).trans (((cell_far (p := ⟨gb283, _, none⟩) NB281_283.out _).trans (hHeld.2.2.2.2.2.2.2.2))))))⟩ (fun hHeld => ?_)
    clear hK K
    refine done_ (done_of HT_.out (by kernel_rfl)) ?_
    try go_wp2
    go_loopg [6, 7] k (fun kq v6 v7 w' => ∃ (x6_1 : Int) (x7_1 : Int) (x283000_1 : Int) (x283001_1 : Bool), v6 = .int .i64 x6_1 ∧ v7 = .int .i64 x7_1 ∧ Aside0 (aqueductlaw13_SpotOnce.l0 kq (wrap64 (1 + (Int.tmod (Go.bits .and .i64 a0_8 65535) 200))) x6_1 x7_1 x283000_1 x283001_1 (Int.tmod (Go.bits .and .i64 a0_0 65535) (wrap64 (1 + (Int.tmod (Go.bits .and .i64 a0_8 65535) 200)))) a0_1 2 = some r) ∧ Aside0 (kq ≤ k) ∧ Aside0 (w'.heap[gb281]? = some (.cells #[.int .i64 a0_0, .bool a0_1, .int .i64 a0_2, .int .i64 a0_3, .bool a0_4, .int .i64 a0_5, .bool a0_6, .int .i64 a0_7, .int .i64 a0_8] 27 (0, 0))) ∧ Aside0 (w'.heap[gb282]? = some (.cells #[.int .i64 x283000_1, .bool x283001_1] 25 (0, 0))) ∧ Aside0 (w'.heap[gb283]? = some (.cells #[.int .i64 (Int.tmod (Go.bits .and .i64 a0_0 65535) (wrap64 (1 + (Int.tmod (Go.bits .and .i64 a0_8 65535) 200)))), .bool a0_1, .int .i64 2] 23 (0, 0))) ∧ Aside0 (Below w.heap.size w w'))
    case atStart => exact ⟨(0), (0), (Int.tmod (Go.bits .and .i64 a0_3 65535) (wrap64 (1 + (Int.tmod (Go.bits .and .i64 a0_8 65535) 200)))), (a0_4), (by first | rfl | (simp; done) | (simp [*]; done)), (by first | rfl | (simp; done) | (simp [*]; done)), H', ⟨Nat.le_refl _⟩, ⟨by (with_reducible repeat (first | refine blk_drewN ?_ _ | refine blk_drew ?_ | refine blk_alloc ?_ _)); refine blk_far ?_ NB281_283.out _; (with_reducible repeat (first | refine blk_drewN ?_ _ | refine blk_drew ?_ | refine blk_alloc ?_ _)); refine blk_far ?_ NB281_283.out _; (with_reducible repeat (first | refine blk_drewN ?_ _ | refine blk_drew ?_ | refine blk_alloc ?_ _)); refine blk_far ?_ NB281_283.out _; (with_reducible repeat (first | refine blk_drewN ?_ _ | refine blk_drew ?_ | refine blk_alloc ?_ _)); exact BK281.out⟩, ⟨by (with_reducible repeat (first | refine blk_drewN ?_ _ | refine blk_drew ?_ | refine blk_alloc ?_ _)); refine blk_far ?_ NB282_283.out _; (with_reducible repeat (first | refine blk_drewN ?_ _ | refine blk_drew ?_ | refine blk_alloc ?_ _)); refine blk_far ?_ NB282_283.out _; (with_reducible repeat (first | refine blk_drewN ?_ _ | refine blk_drew ?_ | refine blk_alloc ?_ _)); refine blk_far ?_ NB282_283.out _; (with_reducible repeat (first | refine blk_drewN ?_ _ | refine blk_drew ?_ | refine blk_alloc ?_ _)); exact BK282.out⟩, ⟨by (with_reducible repeat (first | refine blk_drewN ?_ _ | refine blk_drew ?_ | refine blk_alloc ?_ _)); refine blk_put (cs := #[.int .i64 (Int.tmod (Go.bits .and .i64 a0_0 65535) (wrap64 (1 + (Int.tmod (Go.bits .and .i64 a0_8 65535) 200)))), .bool a0_1, .int .i64 0]) ?_ 2 _ rfl; (with_reducible repeat (first | refine blk_drewN ?_ _ | refine blk_drew ?_ | refine blk_alloc ?_ _)); refine blk_put (cs := #[.int .i64 (Int.tmod (Go.bits .and .i64 a0_0 65535) (wrap64 (1 + (Int.tmod (Go.bits .and .i64 a0_8 65535) 200)))), .bool false, .int .i64 0]) ?_ 1 _ rfl; (with_reducible repeat (first | refine blk_drewN ?_ _ | refine blk_drew ?_ | refine blk_alloc ?_ _)); refine blk_put (cs := #[.int .i64 0, .bool false, .int .i64 0]) ?_ 0 _ rfl; (with_reducible repeat (first | refine blk_drewN ?_ _ | refine blk_drew ?_ | refine blk_alloc ?_ _)); exact BK283.out⟩, ⟨by repeat (first | (with_reducible first | exact HB.out | apply below_alloc | apply pw_below_drewN | apply below_drew1 | refine below_set ?_ GE281.out | refine below_set ?_ GE282.out | refine below_set ?_ GE283.out) | exact HB.out)⟩⟩
    case round =>
      clear H'
      try clear c2
      try clear c2b0
      try clear c2b1
      try clear p2
      try clear p6
      try clear c8
      try clear hcz4_0
      try clear hcz4_1
      try clear hcz4_2
      try clear hcz4_3
      try clear hcz4_4
      try clear hcz4_5
      try clear hcz4_6
      try clear hcz4_7
      try clear hcz4_8
      try clear hfz4_0
      try clear hfz4_1
      try clear hfz4_2
      try clear hfz4_3
      try clear hfz4_4
      try clear hfz4_5
      try clear hfz4_6
      try clear hfz4_7
      try clear hfz4_8
      obtain ⟨x6_1, x7_1, x283000_1, x283001_1, rfl, rfl, HA, HK1, BK281, BK282, BK283, HB⟩ := hrel
      cases gk with
      | zero => exact absurd HA.out (by simp [aqueductlaw13_SpotOnce.l0])
      | succ k1 =>
        have H := HA.out
        clear HA
        simp only [aqueductlaw13_SpotOnce.l0] at H
        by_cases c15 : x7_1 < (wrap64 (2 * (wrap64 (1 + (Int.tmod (Go.bits .and .i64 a0_8 65535) 200)))))
        · rw [if_pos c15] at H
          have c15b0 : decide (x7_1 < (wrap64 (2 * (wrap64 (1 + (Int.tmod (Go.bits .and .i64 a0_8 65535) 200)))))) = true := decide_eq_true c15
          clear c15
          replace H := Option.bind_eq_some_iff.mp H
          obtain ⟨⟨t285, t286, t287⟩, A160, H⟩ := H
          replace H : (if t287 = 0 then ((spot_Need.f k1 (Int.tmod (Go.bits .and .i64 a0_0 65535) (wrap64 (1 + (Int.tmod (Go.bits .and .i64 a0_8 65535) 200)))) a0_1 2 x283000_1 x283001_1 t285 t286 (wrap64 (1 + (Int.tmod (Go.bits .and .i64 a0_8 65535) 200)))).bind fun t289 => (if x283000_1 = (Int.tmod (Go.bits .and .i64 a0_0 65535) (wrap64 (1 + (Int.tmod (Go.bits .and .i64 a0_8 65535) 200)))) then (aqueductlaw13_SpotOnce.j1 k1 (wrap64 (1 + (Int.tmod (Go.bits .and .i64 a0_8 65535) 200))) x6_1 x7_1 t289 (t289 != (x283001_1 == a0_1)) (Int.tmod (Go.bits .and .i64 a0_0 65535) (wrap64 (1 + (Int.tmod (Go.bits .and .i64 a0_8 65535) 200)))) a0_1 2 t285 t286) else (aqueductlaw13_SpotOnce.j1 k1 (wrap64 (1 + (Int.tmod (Go.bits .and .i64 a0_8 65535) 200))) x6_1 x7_1 t289 (t289 != false) (Int.tmod (Go.bits .and .i64 a0_0 65535) (wrap64 (1 + (Int.tmod (Go.bits .and .i64 a0_8 65535) 200)))) a0_1 2 t285 t286))) else (some false)) = some r := H
          have A16 := Aside0.mk A160
          clear A160
          by_cases c17 : t287 = 0
          · rw [if_pos c17] at H
            have c17b0 : (t287 == 0) = true := beq_iff_eq.mpr c17
            have c17b1 : (t287 != 0) = false := bne_eq_false_iff_eq.mpr c17
            clear c17
            replace H := Option.bind_eq_some_iff.mp H
            obtain ⟨t289, A180, H⟩ := H
            replace H : (if x283000_1 = (Int.tmod (Go.bits .and .i64 a0_0 65535) (wrap64 (1 + (Int.tmod (Go.bits .and .i64 a0_8 65535) 200)))) then (aqueductlaw13_SpotOnce.j1 k1 (wrap64 (1 + (Int.tmod (Go.bits .and .i64 a0_8 65535) 200))) x6_1 x7_1 t289 (t289 != (x283001_1 == a0_1)) (Int.tmod (Go.bits .and .i64 a0_0 65535) (wrap64 (1 + (Int.tmod (Go.bits .and .i64 a0_8 65535) 200)))) a0_1 2 t285 t286) else (aqueductlaw13_SpotOnce.j1 k1 (wrap64 (1 + (Int.tmod (Go.bits .and .i64 a0_8 65535) 200))) x6_1 x7_1 t289 (t289 != false) (Int.tmod (Go.bits .and .i64 a0_0 65535) (wrap64 (1 + (Int.tmod (Go.bits .and .i64 a0_8 65535) 200)))) a0_1 2 t285 t286)) = some r := H
            have A18 := Aside0.mk A180
            clear A180
            have HC19 := Aside0.mk H
            clear H
            have hnb20 := NB282_281.out
            have hnc20 := NB281_282.out
            have hnb21 := NB282_283.out
            have hnc21 := NB283_282.out
            have hcz22_0 : wr.cell? ⟨gb282, 0, none⟩ = some (.int .i64 x283000_1) := (blk_cell BK282.out 0).trans rfl
            have hcz22_1 : wr.cell? ⟨gb282, 1, none⟩ = some (.bool x283001_1) := (blk_cell BK282.out 1).trans rfl
            have hfz22_0 := blk_frozen BK282.out 0
            have hfz22_1 := blk_frozen BK282.out 1
            go_upto_region 12 with (first | ((with_reducible refine gate_callee (f := 10) rfl ?_); refine goesL_ (some 45) rfl rfl Try.func10 (by kernel_rfl) rfl #[.agg #[.int .i64 x283000_1, .bool x283001_1], .int .i64 1, .int .i64 (wrap64 (1 + (Int.tmod (Go.bits .and .i64 a0_8 65535) 200)))] rfl (by (try simp only [List.map_toArray, List.map_cons, List.map_nil]); first | done | rfl | (simp only [List.length_drop, List.length_take]; rfl)) ?_; (with_reducible refine (spot_Next.calls k1 x283000_1 x283001_1 1 (wrap64 (1 + (Int.tmod (Go.bits .and .i64 a0_8 65535) 200))) t285 t286 t287 _ A16.out).mono ?_); rintro e w23 ⟨rfl, hb⟩; refine ⟨_, rfl, ?_⟩; have n0_ := Aside0.mk (blk_below (g := gb281) (o := .cells #[.int .i64 a0_0, .bool a0_1, .int .i64 a0_2, .int .i64 a0_3, .bool a0_4, .int .i64 a0_5, .bool a0_6, .int .i64 a0_7, .int .i64 a0_8] 27 (0, 0)) (by (with_reducible repeat (first | refine blk_drewN ?_ _ | refine blk_drew ?_ | refine blk_alloc ?_ _)); exact BK281.out) hb); have n1_ := Aside0.mk (blk_below (g := gb282) (o := .cells #[.int .i64 x283000_1, .bool x283001_1] 25 (0, 0)) (by (with_reducible repeat (first | refine blk_drewN ?_ _ | refine blk_drew ?_ | refine blk_alloc ?_ _)); exact BK282.out) hb); have n2_ := Aside0.mk (blk_below (g := gb283) (o := .cells #[.int .i64 (Int.tmod (Go.bits .and .i64 a0_0 65535) (wrap64 (1 + (Int.tmod (Go.bits .and .i64 a0_8 65535) 200)))), .bool a0_1, .int .i64 2] 23 (0, 0)) (by (with_reducible repeat (first | refine blk_drewN ?_ _ | refine blk_drew ?_ | refine blk_alloc ?_ _)); exact BK283.out) hb); have n3_ := Aside0.mk (below_step (by repeat (first | (with_reducible first | exact HB.out | apply below_alloc | apply pw_below_drewN | apply below_drew1 | refine below_set ?_ GE281.out | refine below_set ?_ GE282.out | refine below_set ?_ GE283.out) | exact HB.out)) hb); clear BK281; clear BK282; clear BK283; clear HB; have BK281 := n0_; have BK282 := n1_; have BK283 := n2_; have HB := n3_; clear n0_ n1_ n2_ n3_; (try clear hb); (try clear hb2); (try clear hk); (try clear hi)) | ((with_reducible refine gate_dst (N := 8) rfl ?_); refine box_event ?hg (N := 8) ?hd (cs := #[.int .i64 0, .bool false]) (t := 25) ?hr ?_; (case hd => rfl); (case hg => rfl); (case hr => first | (go_simp; done) | (go_simp; rfl)); intro gb288 hg w24 hbox hb; have n0_ := Aside0.mk (blk_below (g := gb281) (o := .cells #[.int .i64 a0_0, .bool a0_1, .int .i64 a0_2, .int .i64 a0_3, .bool a0_4, .int .i64 a0_5, .bool a0_6, .int .i64 a0_7, .int .i64 a0_8] 27 (0, 0)) (by (with_reducible repeat (first | refine blk_drewN ?_ _ | refine blk_drew ?_ | refine blk_alloc ?_ _)); exact BK281.out) hb); have n1_ := Aside0.mk (blk_below (g := gb282) (o := .cells #[.int .i64 x283000_1, .bool x283001_1] 25 (0, 0)) (by (with_reducible repeat (first | refine blk_drewN ?_ _ | refine blk_drew ?_ | refine blk_alloc ?_ _)); exact BK282.out) hb); have n2_ := Aside0.mk (blk_below (g := gb283) (o := .cells #[.int .i64 (Int.tmod (Go.bits .and .i64 a0_0 65535) (wrap64 (1 + (Int.tmod (Go.bits .and .i64 a0_8 65535) 200)))), .bool a0_1, .int .i64 2] 23 (0, 0)) (by (with_reducible repeat (first | refine blk_drewN ?_ _ | refine blk_drew ?_ | refine blk_alloc ?_ _)); exact BK283.out) hb); have n3_ := Aside0.mk (below_step (by repeat (first | (with_reducible first | exact HB.out | apply below_alloc | apply pw_below_drewN | apply below_drew1 | refine below_set ?_ GE281.out | refine below_set ?_ GE282.out | refine below_set ?_ GE283.out) | exact HB.out)) hb); have n4_ := Aside0.mk (hbox); have n5_ := Aside0.mk ((by rw [hg]; exact (below_size (by repeat (first | (with_reducible first | exact HB.out | apply below_alloc | apply pw_below_drewN | apply below_drew1 | refine below_set ?_ GE281.out | refine below_set ?_ GE282.out | refine below_set ?_ GE283.out) | exact HB.out))) : w.heap.size ≤ gb288)); have n6_ := Aside0.mk ((by rw [hg]; exact (below_size (by repeat (first | (with_reducible first | exact HB.out | apply below_alloc | apply pw_below_drewN | apply below_drew1 | refine below_set ?_ GE281.out | refine below_set ?_ GE282.out | refine below_set ?_ GE283.out) | exact HB.out))) : w.heap.size ≤ gb288)); have n7_ := Aside0.mk ((by rw [hg]; exact Nat.ne_of_lt (blk_lt (g := gb281) (o := .cells #[.int .i64 a0_0, .bool a0_1, .int .i64 a0_2, .int .i64 a0_3, .bool a0_4, .int .i64 a0_5, .bool a0_6, .int .i64 a0_7, .int .i64 a0_8] 27 (0, 0)) (by (with_reducible repeat (first | refine blk_drewN ?_ _ | refine blk_drew ?_ | refine blk_alloc ?_ _)); exact BK281.out)) : gb281 ≠ gb288)); have n8_ := Aside0.mk ((by rw [hg]; exact Nat.ne_of_gt (blk_lt (g := gb281) (o := .cells #[.int .i64 a0_0, .bool a0_1, .int .i64 a0_2, .int .i64 a0_3, .bool a0_4, .int .i64 a0_5, .bool a0_6, .int .i64 a0_7, .int .i64 a0_8] 27 (0, 0)) (by (with_reducible repeat (first | refine blk_drewN ?_ _ | refine blk_drew ?_ | refine blk_alloc ?_ _)); exact BK281.out)) : gb288 ≠ gb281)); have n9_ := Aside0.mk ((by rw [hg]; exact Nat.ne_of_lt (blk_lt (g := gb282) (o := .cells #[.int .i64 x283000_1, .bool x283001_1] 25 (0, 0)) (by (with_reducible repeat (first | refine blk_drewN ?_ _ | refine blk_drew ?_ | refine blk_alloc ?_ _)); exact BK282.out)) : gb282 ≠ gb288)); have n10_ := Aside0.mk ((by rw [hg]; exact Nat.ne_of_gt (blk_lt (g := gb282) (o := .cells #[.int .i64 x283000_1, .bool x283001_1] 25 (0, 0)) (by (with_reducible repeat (first | refine blk_drewN ?_ _ | refine blk_drew ?_ | refine blk_alloc ?_ _)); exact BK282.out)) : gb288 ≠ gb282)); have n11_ := Aside0.mk ((by rw [hg]; exact Nat.ne_of_lt (blk_lt (g := gb283) (o := .cells #[.int .i64 (Int.tmod (Go.bits .and .i64 a0_0 65535) (wrap64 (1 + (Int.tmod (Go.bits .and .i64 a0_8 65535) 200)))), .bool a0_1, .int .i64 2] 23 (0, 0)) (by (with_reducible repeat (first | refine blk_drewN ?_ _ | refine blk_drew ?_ | refine blk_alloc ?_ _)); exact BK283.out)) : gb283 ≠ gb288)); have n12_ := Aside0.mk ((by rw [hg]; exact Nat.ne_of_gt (blk_lt (g := gb283) (o := .cells #[.int .i64 (Int.tmod (Go.bits .and .i64 a0_0 65535) (wrap64 (1 + (Int.tmod (Go.bits .and .i64 a0_8 65535) 200)))), .bool a0_1, .int .i64 2] 23 (0, 0)) (by (with_reducible repeat (first | refine blk_drewN ?_ _ | refine blk_drew ?_ | refine blk_alloc ?_ _)); exact BK283.out)) : gb288 ≠ gb283)); clear BK281; clear BK282; clear BK283; clear HB; have BK281 := n0_; have BK282 := n1_; have BK283 := n2_; have HB := n3_; have BK288 := n4_; have GW288 := n5_; have GE288 := n6_; have NB281_288 := n7_; have NB288_281 := n8_; have NB282_288 := n9_; have NB288_282 := n10_; have NB283_288 := n11_; have NB288_283 := n12_; clear n0_ n1_ n2_ n3_ n4_ n5_ n6_ n7_ n8_ n9_ n10_ n11_ n12_; clear hb hbox hg; have hnb25 := NB288_281.out; have hnc25 := NB281_288.out; have hnb26 := NB288_282.out; have hnc26 := NB282_288.out; have hnb27 := NB288_283.out; have hnc27 := NB283_288.out; have hcz28_0 : w24.cell? ⟨gb288, 0, none⟩ = some (.int .i64 0) := (blk_cell BK288.out 0).trans rfl; have hcz28_1 : w24.cell? ⟨gb288, 1, none⟩ = some (.bool false) := (blk_cell BK288.out 1).trans rfl; have hfz28_0 := blk_frozen BK288.out 0; have hfz28_1 := blk_frozen BK288.out 1; have hnb29 := NB283_281.out; have hnc29 := NB281_283.out; have hcz30_0 : w24.cell? ⟨gb283, 0, none⟩ = some (.int .i64 (Int.tmod (Go.bits .and .i64 a0_0 65535) (wrap64 (1 + (Int.tmod (Go.bits .and .i64 a0_8 65535) 200))))) := (blk_cell BK283.out 0).trans rfl; have hcz30_1 : w24.cell? ⟨gb283, 1, none⟩ = some (.bool a0_1) := (blk_cell BK283.out 1).trans rfl; have hcz30_2 : w24.cell? ⟨gb283, 2, none⟩ = some (.int .i64 2) := (blk_cell BK283.out 2).trans rfl; have hfz30_0 := blk_frozen BK283.out 0; have hfz30_1 := blk_frozen BK283.out 1; have hfz30_2 := blk_frozen BK283.out 2; have hcz31_0 : w24.cell? ⟨gb282, 0, none⟩ = some (.int .i64 x283000_1) := (blk_cell BK282.out 0).trans rfl; have hcz31_1 : w24.cell? ⟨gb282, 1, none⟩ = some (.bool x283001_1) := (blk_cell BK282.out 1).trans rfl; have hfz31_0 := blk_frozen BK282.out 0; have hfz31_1 := blk_frozen BK282.out 1) | ((with_reducible refine gate_callee (f := 21) rfl ?_); refine goesL_ (some 54) rfl rfl Try.func21 (by kernel_rfl) rfl #[.agg #[.int .i64 (Int.tmod (Go.bits .and .i64 a0_0 65535) (wrap64 (1 + (Int.tmod (Go.bits .and .i64 a0_8 65535) 200)))), .bool a0_1, .int .i64 2], .agg #[.int .i64 x283000_1, .bool x283001_1], .agg #[.int .i64 t285, .bool t286], .int .i64 (wrap64 (1 + (Int.tmod (Go.bits .and .i64 a0_8 65535) 200)))] rfl (by (try simp only [List.map_toArray, List.map_cons, List.map_nil]); first | done | rfl | (simp only [List.length_drop, List.length_take]; rfl)) ?_; (with_reducible refine (spot_Need.calls k1 (Int.tmod (Go.bits .and .i64 a0_0 65535) (wrap64 (1 + (Int.tmod (Go.bits .and .i64 a0_8 65535) 200)))) a0_1 2 x283000_1 x283001_1 t285 t286 (wrap64 (1 + (Int.tmod (Go.bits .and .i64 a0_8 65535) 200))) t289 _ A18.out).mono ?_); rintro e w32 ⟨rfl, hb⟩; refine ⟨_, rfl, ?_⟩; have n0_ := Aside0.mk (blk_below (g := gb281) (o := .cells #[.int .i64 a0_0, .bool a0_1, .int .i64 a0_2, .int .i64 a0_3, .bool a0_4, .int .i64 a0_5, .bool a0_6, .int .i64 a0_7, .int .i64 a0_8] 27 (0, 0)) (by (with_reducible repeat (first | refine blk_drewN ?_ _ | refine blk_drew ?_ | refine blk_alloc ?_ _)); refine blk_far ?_ NB281_288.out _; (with_reducible repeat (first | refine blk_drewN ?_ _ | refine blk_drew ?_ | refine blk_alloc ?_ _)); refine blk_far ?_ NB281_288.out _; (with_reducible repeat (first | refine blk_drewN ?_ _ | refine blk_drew ?_ | refine blk_alloc ?_ _)); exact BK281.out) hb); have n1_ := Aside0.mk (blk_below (g := gb282) (o := .cells #[.int .i64 x283000_1, .bool x283001_1] 25 (0, 0)) (by (with_reducible repeat (first | refine blk_drewN ?_ _ | refine blk_drew ?_ | refine blk_alloc ?_ _)); refine blk_far ?_ NB282_288.out _; (with_reducible repeat (first | refine blk_drewN ?_ _ | refine blk_drew ?_ | refine blk_alloc ?_ _)); refine blk_far ?_ NB282_288.out _; (with_reducible repeat (first | refine blk_drewN ?_ _ | refine blk_drew ?_ | refine blk_alloc ?_ _)); exact BK282.out) hb); have n2_ := Aside0.mk (blk_below (g := gb283) (o := .cells #[.int .i64 (Int.tmod (Go.bits .and .i64 a0_0 65535) (wrap64 (1 + (Int.tmod (Go.bits .and .i64 a0_8 65535) 200)))), .bool a0_1, .int .i64 2] 23 (0, 0)) (by (with_reducible repeat (first | refine blk_drewN ?_ _ | refine blk_drew ?_ | refine blk_alloc ?_ _)); refine blk_far ?_ NB283_288.out _; (with_reducible repeat (first | refine blk_drewN ?_ _ | refine blk_drew ?_ | refine blk_alloc ?_ _)); refine blk_far ?_ NB283_288.out _; (with_reducible repeat (first | refine blk_drewN ?_ _ | refine blk_drew ?_ | refine blk_alloc ?_ _)); exact BK283.out) hb); have n3_ := Aside0.mk (blk_below (g := gb288) (o := .cells #[.int .i64 t285, .bool t286] 25 (0, 0)) (by (with_reducible repeat (first | refine blk_drewN ?_ _ | refine blk_drew ?_ | refine blk_alloc ?_ _)); refine blk_put (cs := #[.int .i64 t285, .bool false]) ?_ 1 _ rfl; (with_reducible repeat (first | refine blk_drewN ?_ _ | refine blk_drew ?_ | refine blk_alloc ?_ _)); refine blk_put (cs := #[.int .i64 0, .bool false]) ?_ 0 _ rfl; (with_reducible repeat (first | refine blk_drewN ?_ _ | refine blk_drew ?_ | refine blk_alloc ?_ _)); exact BK288.out) hb); have n4_ := Aside0.mk (below_step (by repeat (first | (with_reducible first | exact HB.out | apply below_alloc | apply pw_below_drewN | apply below_drew1 | refine below_set ?_ GE281.out | refine below_set ?_ GE282.out | refine below_set ?_ GE283.out | refine below_set ?_ GE288.out) | exact HB.out)) hb); clear BK281; clear BK282; clear BK283; clear BK288; clear HB; have BK281 := n0_; have BK282 := n1_; have BK283 := n2_; have BK288 := n3_; have HB := n4_; clear n0_ n1_ n2_ n3_ n4_; (try clear hb); (try clear hb2); (try clear hk); (try clear hi)))
            (try simp only [Act.put, List.setIfInBounds_toArray, List.set_cons_zero, List.set_cons_succ])
            go_cut [68] (fun v68 wc => ∃ (kq : Nat) (x68_18 : Bool), v68 = .bool x68_18 ∧ Aside0 (aqueductlaw13_SpotOnce.j1 kq (wrap64 (1 + (Int.tmod (Go.bits .and .i64 a0_8 65535) 200))) x6_1 x7_1 t289 x68_18 (Int.tmod (Go.bits .and .i64 a0_0 65535) (wrap64 (1 + (Int.tmod (Go.bits .and .i64 a0_8 65535) 200)))) a0_1 2 t285 t286 = some r) ∧ Aside0 (kq ≤ k1) ∧ Aside0 (wc.heap[gb281]? = some (.cells #[.int .i64 a0_0, .bool a0_1, .int .i64 a0_2, .int .i64 a0_3, .bool a0_4, .int .i64 a0_5, .bool a0_6, .int .i64 a0_7, .int .i64 a0_8] 27 (0, 0))) ∧ Aside0 (wc.heap[gb282]? = some (.cells #[.int .i64 x283000_1, .bool x283001_1] 25 (0, 0))) ∧ Aside0 (wc.heap[gb283]? = some (.cells #[.int .i64 (Int.tmod (Go.bits .and .i64 a0_0 65535) (wrap64 (1 + (Int.tmod (Go.bits .and .i64 a0_8 65535) 200)))), .bool a0_1, .int .i64 2] 23 (0, 0))) ∧ Aside0 (wc.heap[gb288]? = some (.cells #[.int .i64 t285, .bool t286] 25 (0, 0))) ∧ Aside0 (Below w.heap.size w wc))
            case first =>
              have H := HC19.out
              clear HC19
              by_cases c33 : x283000_1 = (Int.tmod (Go.bits .and .i64 a0_0 65535) (wrap64 (1 + (Int.tmod (Go.bits .and .i64 a0_8 65535) 200))))
              · rw [if_pos c33] at H
                have c33b0 : (x283000_1 == (Int.tmod (Go.bits .and .i64 a0_0 65535) (wrap64 (1 + (Int.tmod (Go.bits .and .i64 a0_8 65535) 200))))) = true := beq_iff_eq.mpr c33
                have c33b1 : (x283000_1 != (Int.tmod (Go.bits .and .i64 a0_0 65535) (wrap64 (1 + (Int.tmod (Go.bits .and .i64 a0_8 65535) 200))))) = false := bne_eq_false_iff_eq.mpr c33
                clear c33
                (first | rw [c33b0] | (simp only [i64_w, i32_w]; rw [c33b0]) | skip)
                have H' := Aside0.mk H
                clear H
                have hnb34 := NB282_281.out
                have hnc34 := NB281_282.out
                have hnb35 := NB282_283.out
                have hnc35 := NB283_282.out
                have hnb36 := NB282_288.out
                have hnc36 := NB288_282.out
                have hcz37_0 : w32.cell? ⟨gb282, 0, none⟩ = some (.int .i64 x283000_1) := (blk_cell BK282.out 0).trans rfl
                have hcz37_1 : w32.cell? ⟨gb282, 1, none⟩ = some (.bool x283001_1) := (blk_cell BK282.out 1).trans rfl
                have hfz37_0 := blk_frozen BK282.out 0
                have hfz37_1 := blk_frozen BK282.out 1
                have hnb38 := NB283_281.out
                have hnc38 := NB281_283.out
                have hnb39 := NB283_288.out
                have hnc39 := NB288_283.out
                have hcz40_0 : w32.cell? ⟨gb283, 0, none⟩ = some (.int .i64 (Int.tmod (Go.bits .and .i64 a0_0 65535) (wrap64 (1 + (Int.tmod (Go.bits .and .i64 a0_8 65535) 200))))) := (blk_cell BK283.out 0).trans rfl
                have hcz40_1 : w32.cell? ⟨gb283, 1, none⟩ = some (.bool a0_1) := (blk_cell BK283.out 1).trans rfl
                have hcz40_2 : w32.cell? ⟨gb283, 2, none⟩ = some (.int .i64 2) := (blk_cell BK283.out 2).trans rfl
                have hfz40_0 := blk_frozen BK283.out 0
                have hfz40_1 := blk_frozen BK283.out 1
                have hfz40_2 := blk_frozen BK283.out 2
                go_wp2
                go_meet
                case rel => exact ⟨_, ((t289 != (x283001_1 == a0_1))), (by first | rfl | (simp; done) | (simp [*]; done)), H', ⟨by have := HK1.out; first | omega | exact Nat.le_refl _⟩, ⟨by (with_reducible repeat (first | refine blk_drewN ?_ _ | refine blk_drew ?_ | refine blk_alloc ?_ _)); exact BK281.out⟩, ⟨by (with_reducible repeat (first | refine blk_drewN ?_ _ | refine blk_drew ?_ | refine blk_alloc ?_ _)); exact BK282.out⟩, ⟨by (with_reducible repeat (first | refine blk_drewN ?_ _ | refine blk_drew ?_ | refine blk_alloc ?_ _)); exact BK283.out⟩, ⟨by (with_reducible repeat (first | refine blk_drewN ?_ _ | refine blk_drew ?_ | refine blk_alloc ?_ _)); exact BK288.out⟩, ⟨by repeat (first | (with_reducible first | exact HB.out | apply below_alloc | apply pw_below_drewN | apply below_drew1 | refine below_set ?_ GE281.out | refine below_set ?_ GE282.out | refine below_set ?_ GE283.out | refine below_set ?_ GE288.out) | exact HB.out)⟩⟩
              · rw [if_neg c33] at H
                have c33b0 : (x283000_1 == (Int.tmod (Go.bits .and .i64 a0_0 65535) (wrap64 (1 + (Int.tmod (Go.bits .and .i64 a0_8 65535) 200))))) = false := beq_eq_false_iff_ne.mpr c33
                have c33b1 : (x283000_1 != (Int.tmod (Go.bits .and .i64 a0_0 65535) (wrap64 (1 + (Int.tmod (Go.bits .and .i64 a0_8 65535) 200))))) = true := bne_iff_ne.mpr c33
                (first | rw [c33b0] | (simp only [i64_w, i32_w]; rw [c33b0]) | skip)
                have H' := Aside0.mk H
                clear H
                have hnb41 := NB282_281.out
                have hnc41 := NB281_282.out
                have hnb42 := NB282_283.out
                have hnc42 := NB283_282.out
                have hnb43 := NB282_288.out
                have hnc43 := NB288_282.out
                have hcz44_0 : w32.cell? ⟨gb282, 0, none⟩ = some (.int .i64 x283000_1) := (blk_cell BK282.out 0).trans rfl
                have hcz44_1 : w32.cell? ⟨gb282, 1, none⟩ = some (.bool x283001_1) := (blk_cell BK282.out 1).trans rfl
                have hfz44_0 := blk_frozen BK282.out 0
                have hfz44_1 := blk_frozen BK282.out 1
                have hnb45 := NB283_281.out
                have hnc45 := NB281_283.out
                have hnb46 := NB283_288.out
                have hnc46 := NB288_283.out
                have hcz47_0 : w32.cell? ⟨gb283, 0, none⟩ = some (.int .i64 (Int.tmod (Go.bits .and .i64 a0_0 65535) (wrap64 (1 + (Int.tmod (Go.bits .and .i64 a0_8 65535) 200))))) := (blk_cell BK283.out 0).trans rfl
                have hcz47_1 : w32.cell? ⟨gb283, 1, none⟩ = some (.bool a0_1) := (blk_cell BK283.out 1).trans rfl
                have hcz47_2 : w32.cell? ⟨gb283, 2, none⟩ = some (.int .i64 2) := (blk_cell BK283.out 2).trans rfl
                have hfz47_0 := blk_frozen BK283.out 0
                have hfz47_1 := blk_frozen BK283.out 1
                have hfz47_2 := blk_frozen BK283.out 2
                go_wp2
                go_meet
                case rel => exact ⟨_, ((t289 != false)), (by first | rfl | (simp; done) | (simp [*]; done)), H', ⟨by have := HK1.out; first | omega | exact Nat.le_refl _⟩, ⟨by (with_reducible repeat (first | refine blk_drewN ?_ _ | refine blk_drew ?_ | refine blk_alloc ?_ _)); exact BK281.out⟩, ⟨by (with_reducible repeat (first | refine blk_drewN ?_ _ | refine blk_drew ?_ | refine blk_alloc ?_ _)); exact BK282.out⟩, ⟨by (with_reducible repeat (first | refine blk_drewN ?_ _ | refine blk_drew ?_ | refine blk_alloc ?_ _)); exact BK283.out⟩, ⟨by (with_reducible repeat (first | refine blk_drewN ?_ _ | refine blk_drew ?_ | refine blk_alloc ?_ _)); exact BK288.out⟩, ⟨by repeat (first | (with_reducible first | exact HB.out | apply below_alloc | apply pw_below_drewN | apply below_drew1 | refine below_set ?_ GE281.out | refine below_set ?_ GE282.out | refine below_set ?_ GE283.out | refine below_set ?_ GE288.out) | exact HB.out)⟩⟩
            case rest =>
              clear HC19
              try clear c1
              try clear c2
              try clear c2b0
              try clear c2b1
              try clear p2
              try clear c3
              try clear c4
              try clear p6
              try clear c8
              try clear c10
              try clear c15
              try clear c15b0
              try clear c17
              try clear c17b0
              try clear c17b1
              try clear c20
              try clear c21
              try clear c25
              try clear c26
              try clear c27
              try clear c29
              try clear c33
              try clear c33b0
              try clear c33b1
              try clear c34
              try clear c35
              try clear c36
              try clear c38
              try clear c39
              try clear c41
              try clear c42
              try clear c43
              try clear c45
              try clear c46
              try clear hcz22_0
              try clear hcz22_1
              try clear hcz28_0
              try clear hcz28_1
              try clear hcz30_0
              try clear hcz30_1
              try clear hcz30_2
              try clear hcz31_0
              try clear hcz31_1
              try clear hcz37_0
              try clear hcz37_1
              try clear hcz40_0
              try clear hcz40_1
              try clear hcz40_2
              try clear hcz44_0
              try clear hcz44_1
              try clear hcz47_0
              try clear hcz47_1
              try clear hcz47_2
              try clear hcz4_0
              try clear hcz4_1
              try clear hcz4_2
              try clear hcz4_3
              try clear hcz4_4
              try clear hcz4_5
              try clear hcz4_6
              try clear hcz4_7
              try clear hcz4_8
              try clear hfz22_0
              try clear hfz22_1
              try clear hfz28_0
              try clear hfz28_1
              try clear hfz30_0
              try clear hfz30_1
              try clear hfz30_2
              try clear hfz31_0
              try clear hfz31_1
              try clear hfz37_0
              try clear hfz37_1
              try clear hfz40_0
              try clear hfz40_1
              try clear hfz40_2
              try clear hfz44_0
              try clear hfz44_1
              try clear hfz47_0
              try clear hfz47_1
              try clear hfz47_2
              try clear hfz4_0
              try clear hfz4_1
              try clear hfz4_2
              try clear hfz4_3
              try clear hfz4_4
              try clear hfz4_5
              try clear hfz4_6
              try clear hfz4_7
              try clear hfz4_8
              try clear p2
              try clear p6
              obtain ⟨kq, x68_18, rfl, HA, HJ18, BK281, BK282, BK283, BK288, HB⟩ := hcut
              cases kq with
              | zero => exact absurd HA.out (by simp [aqueductlaw13_SpotOnce.j1])
              | succ kj18 =>
                have H := HA.out
                clear HA
                simp only [aqueductlaw13_SpotOnce.j1] at H
                by_cases c48 : x68_18 = true
                · subst c48
                  have H1 : (some false) = some r := by rw [if_pos rfl] at H; exact H
                  clear H
                  have H := H1
                  clear H1
                  obtain rfl := Option.some.inj H
                  exact absurd HR_.out (by decide)
                · replace c48 := Bool.eq_false_iff.mpr c48
                  subst c48
                  have H1 : (if t289 = true then (aqueductlaw13_SpotOnce.l0 kj18 (wrap64 (1 + (Int.tmod (Go.bits .and .i64 a0_8 65535) 200))) (wrap64 (x6_1 + 1)) (wrap64 (x7_1 + 1)) t285 t286 (Int.tmod (Go.bits .and .i64 a0_0 65535) (wrap64 (1 + (Int.tmod (Go.bits .and .i64 a0_8 65535) 200)))) a0_1 2) else (aqueductlaw13_SpotOnce.l0 kj18 (wrap64 (1 + (Int.tmod (Go.bits .and .i64 a0_8 65535) 200))) x6_1 (wrap64 (x7_1 + 1)) t285 t286 (Int.tmod (Go.bits .and .i64 a0_0 65535) (wrap64 (1 + (Int.tmod (Go.bits .and .i64 a0_8 65535) 200)))) a0_1 2)) = some r := by rw [if_neg (show ¬ (false = true) by decide)] at H; exact H
                  clear H
                  have H := H1
                  clear H1
                  by_cases c49 : t289 = true
                  · subst c49
                    have H1 : (aqueductlaw13_SpotOnce.l0 kj18 (wrap64 (1 + (Int.tmod (Go.bits .and .i64 a0_8 65535) 200))) (wrap64 (x6_1 + 1)) (wrap64 (x7_1 + 1)) t285 t286 (Int.tmod (Go.bits .and .i64 a0_0 65535) (wrap64 (1 + (Int.tmod (Go.bits .and .i64 a0_8 65535) 200)))) a0_1 2) = some r := by rw [if_pos rfl] at H; exact H
                    clear H
                    have H := H1
                    clear H1
                    have H' := Aside0.mk H
                    clear H
                    have hnb50 := NB288_281.out
                    have hnc50 := NB281_288.out
                    have hnb51 := NB288_282.out
                    have hnc51 := NB282_288.out
                    have hnb52 := NB288_283.out
                    have hnc52 := NB283_288.out
                    have hcz53_0 : wc.cell? ⟨gb288, 0, none⟩ = some (.int .i64 t285) := (blk_cell BK288.out 0).trans rfl
                    have hcz53_1 : wc.cell? ⟨gb288, 1, none⟩ = some (.bool t286) := (blk_cell BK288.out 1).trans rfl
                    have hfz53_0 := blk_frozen BK288.out 0
                    have hfz53_1 := blk_frozen BK288.out 1
                    have hnb54 := NB282_281.out
                    have hnc54 := NB281_282.out
                    have hnb55 := NB282_283.out
                    have hnc55 := NB283_282.out
                    have hcz56_0 : wc.cell? ⟨gb282, 0, none⟩ = some (.int .i64 x283000_1) := (blk_cell BK282.out 0).trans rfl
                    have hcz56_1 : wc.cell? ⟨gb282, 1, none⟩ = some (.bool x283001_1) := (blk_cell BK282.out 1).trans rfl
                    have hfz56_0 := blk_frozen BK282.out 0
                    have hfz56_1 := blk_frozen BK282.out 1
                    go_wp2
                    go_roundg kj18
                    case measure => have := HK1.out; have := HJ18.out; omega
                    case rel => exact ⟨(wrap64 (x6_1 + 1)), (wrap64 (x7_1 + 1)), (t285), (t286), (by first | rfl | (simp; done) | (simp [*]; done)), (by first | rfl | (simp; done) | (simp [*]; done)), H', ⟨by have := HK1.out; have := HJ18.out; omega⟩, ⟨by (with_reducible repeat (first | refine blk_drewN ?_ _ | refine blk_drew ?_ | refine blk_alloc ?_ _)); refine blk_far ?_ NB281_282.out _; (with_reducible repeat (first | refine blk_drewN ?_ _ | refine blk_drew ?_ | refine blk_alloc ?_ _)); refine blk_far ?_ NB281_282.out _; (with_reducible repeat (first | refine blk_drewN ?_ _ | refine blk_drew ?_ | refine blk_alloc ?_ _)); exact BK281.out⟩, ⟨by (with_reducible repeat (first | refine blk_drewN ?_ _ | refine blk_drew ?_ | refine blk_alloc ?_ _)); refine blk_put (cs := #[.int .i64 t285, .bool x283001_1]) ?_ 1 _ rfl; (with_reducible repeat (first | refine blk_drewN ?_ _ | refine blk_drew ?_ | refine blk_alloc ?_ _)); refine blk_put (cs := #[.int .i64 x283000_1, .bool x283001_1]) ?_ 0 _ rfl; (with_reducible repeat (first | refine blk_drewN ?_ _ | refine blk_drew ?_ | refine blk_alloc ?_ _)); exact BK282.out⟩, ⟨by (with_reducible repeat (first | refine blk_drewN ?_ _ | refine blk_drew ?_ | refine blk_alloc ?_ _)); refine blk_far ?_ NB283_282.out _; (with_reducible repeat (first | refine blk_drewN ?_ _ | refine blk_drew ?_ | refine blk_alloc ?_ _)); refine blk_far ?_ NB283_282.out _; (with_reducible repeat (first | refine blk_drewN ?_ _ | refine blk_drew ?_ | refine blk_alloc ?_ _)); exact BK283.out⟩, ⟨by repeat (first | (with_reducible first | exact HB.out | apply below_alloc | apply pw_below_drewN | apply below_drew1 | refine below_set ?_ GE281.out | refine below_set ?_ GE282.out | refine below_set ?_ GE283.out | refine below_set ?_ GE288.out) | exact HB.out)⟩⟩
                  · replace c49 := Bool.eq_false_iff.mpr c49
                    subst c49
                    have H1 : (aqueductlaw13_SpotOnce.l0 kj18 (wrap64 (1 + (Int.tmod (Go.bits .and .i64 a0_8 65535) 200))) x6_1 (wrap64 (x7_1 + 1)) t285 t286 (Int.tmod (Go.bits .and .i64 a0_0 65535) (wrap64 (1 + (Int.tmod (Go.bits .and .i64 a0_8 65535) 200)))) a0_1 2) = some r := by rw [if_neg (show ¬ (false = true) by decide)] at H; exact H
                    clear H
                    have H := H1
                    clear H1
                    have H' := Aside0.mk H
                    clear H
                    have hnb57 := NB288_281.out
                    have hnc57 := NB281_288.out
                    have hnb58 := NB288_282.out
                    have hnc58 := NB282_288.out
                    have hnb59 := NB288_283.out
                    have hnc59 := NB283_288.out
                    have hcz60_0 : wc.cell? ⟨gb288, 0, none⟩ = some (.int .i64 t285) := (blk_cell BK288.out 0).trans rfl
                    have hcz60_1 : wc.cell? ⟨gb288, 1, none⟩ = some (.bool t286) := (blk_cell BK288.out 1).trans rfl
                    have hfz60_0 := blk_frozen BK288.out 0
                    have hfz60_1 := blk_frozen BK288.out 1
                    have hnb61 := NB282_281.out
                    have hnc61 := NB281_282.out
                    have hnb62 := NB282_283.out
                    have hnc62 := NB283_282.out
                    have hcz63_0 : wc.cell? ⟨gb282, 0, none⟩ = some (.int .i64 x283000_1) := (blk_cell BK282.out 0).trans rfl
                    have hcz63_1 : wc.cell? ⟨gb282, 1, none⟩ = some (.bool x283001_1) := (blk_cell BK282.out 1).trans rfl
                    have hfz63_0 := blk_frozen BK282.out 0
                    have hfz63_1 := blk_frozen BK282.out 1
                    go_wp2
                    go_roundg kj18
                    case measure => have := HK1.out; have := HJ18.out; omega
                    case rel => exact ⟨(x6_1), (wrap64 (x7_1 + 1)), (t285), (t286), (by first | rfl | (simp; done) | (simp [*]; done)), (by first | rfl | (simp; done) | (simp [*]; done)), H', ⟨by have := HK1.out; have := HJ18.out; omega⟩, ⟨by (with_reducible repeat (first | refine blk_drewN ?_ _ | refine blk_drew ?_ | refine blk_alloc ?_ _)); refine blk_far ?_ NB281_282.out _; (with_reducible repeat (first | refine blk_drewN ?_ _ | refine blk_drew ?_ | refine blk_alloc ?_ _)); refine blk_far ?_ NB281_282.out _; (with_reducible repeat (first | refine blk_drewN ?_ _ | refine blk_drew ?_ | refine blk_alloc ?_ _)); exact BK281.out⟩, ⟨by (with_reducible repeat (first | refine blk_drewN ?_ _ | refine blk_drew ?_ | refine blk_alloc ?_ _)); refine blk_put (cs := #[.int .i64 t285, .bool x283001_1]) ?_ 1 _ rfl; (with_reducible repeat (first | refine blk_drewN ?_ _ | refine blk_drew ?_ | refine blk_alloc ?_ _)); refine blk_put (cs := #[.int .i64 x283000_1, .bool x283001_1]) ?_ 0 _ rfl; (with_reducible repeat (first | refine blk_drewN ?_ _ | refine blk_drew ?_ | refine blk_alloc ?_ _)); exact BK282.out⟩, ⟨by (with_reducible repeat (first | refine blk_drewN ?_ _ | refine blk_drew ?_ | refine blk_alloc ?_ _)); refine blk_far ?_ NB283_282.out _; (with_reducible repeat (first | refine blk_drewN ?_ _ | refine blk_drew ?_ | refine blk_alloc ?_ _)); refine blk_far ?_ NB283_282.out _; (with_reducible repeat (first | refine blk_drewN ?_ _ | refine blk_drew ?_ | refine blk_alloc ?_ _)); exact BK283.out⟩, ⟨by repeat (first | (with_reducible first | exact HB.out | apply below_alloc | apply pw_below_drewN | apply below_drew1 | refine below_set ?_ GE281.out | refine below_set ?_ GE282.out | refine below_set ?_ GE283.out | refine below_set ?_ GE288.out) | exact HB.out)⟩⟩
          · rw [if_neg c17] at H
            have c17b0 : (t287 == 0) = false := beq_eq_false_iff_ne.mpr c17
            have c17b1 : (t287 != 0) = true := bne_iff_ne.mpr c17
            obtain rfl := Option.some.inj H
            exact absurd HR_.out (by decide)
        · rw [if_neg c15] at H
          have c15b0 : decide (x7_1 < (wrap64 (2 * (wrap64 (1 + (Int.tmod (Go.bits .and .i64 a0_8 65535) 200)))))) = false := decide_eq_false c15
          clear c15
          by_cases c64 : x6_1 = 1
          · rw [if_pos c64] at H
            have c64b0 : (x6_1 == 1) = true := beq_iff_eq.mpr c64
            have c64b1 : (x6_1 != 1) = false := bne_eq_false_iff_eq.mpr c64
            clear c64
            replace H := Option.bind_eq_some_iff.mp H
            obtain ⟨t284, A650, H⟩ := H
            replace H : (some t284) = some r := H
            have A65 := Aside0.mk A650
            clear A650
            obtain rfl := Option.some.inj H
            go_wp2_with (first | (go_at_call 14; (with_reducible refine (aqueductlaw13_fixed.calls k1  t284 _ A65.out).mono ?_); rintro e w66 ⟨rfl, hb⟩; have n0_ := Aside0.mk (blk_below (g := gb281) (o := .cells #[.int .i64 a0_0, .bool a0_1, .int .i64 a0_2, .int .i64 a0_3, .bool a0_4, .int .i64 a0_5, .bool a0_6, .int .i64 a0_7, .int .i64 a0_8] 27 (0, 0)) (by (with_reducible repeat (first | refine blk_drewN ?_ _ | refine blk_drew ?_ | refine blk_alloc ?_ _)); exact BK281.out) hb); have n1_ := Aside0.mk (blk_below (g := gb282) (o := .cells #[.int .i64 x283000_1, .bool x283001_1] 25 (0, 0)) (by (with_reducible repeat (first | refine blk_drewN ?_ _ | refine blk_drew ?_ | refine blk_alloc ?_ _)); exact BK282.out) hb); have n2_ := Aside0.mk (blk_below (g := gb283) (o := .cells #[.int .i64 (Int.tmod (Go.bits .and .i64 a0_0 65535) (wrap64 (1 + (Int.tmod (Go.bits .and .i64 a0_8 65535) 200)))), .bool a0_1, .int .i64 2] 23 (0, 0)) (by (with_reducible repeat (first | refine blk_drewN ?_ _ | refine blk_drew ?_ | refine blk_alloc ?_ _)); exact BK283.out) hb); have n3_ := Aside0.mk (below_step (by repeat (first | (with_reducible first | exact HB.out | apply below_alloc | apply pw_below_drewN | apply below_drew1 | refine below_set ?_ GE281.out | refine below_set ?_ GE282.out | refine below_set ?_ GE283.out) | exact HB.out)) hb); clear BK281; clear BK282; clear BK283; clear HB; have BK281 := n0_; have BK282 := n1_; have BK283 := n2_; have HB := n3_; clear n0_ n1_ n2_ n3_; (try clear hb); (try clear hb2); (try clear hk); (try clear hi)))
            go_ret
            exact ⟨by first | rfl | (simp [errW_none, errW_some] <;> rfl) | (simp [*, errW_none, errW_some] <;> rfl), by repeat (first | (with_reducible first | exact HB.out | apply below_alloc | apply pw_below_drewN | apply below_drew1 | refine below_set ?_ GE281.out | refine below_set ?_ GE282.out | refine below_set ?_ GE283.out) | exact HB.out)⟩
          · rw [if_neg c64] at H
            have c64b0 : (x6_1 == 1) = false := beq_eq_false_iff_ne.mpr c64
            have c64b1 : (x6_1 != 1) = true := bne_iff_ne.mpr c64
            obtain rfl := Option.some.inj H
            exact absurd HR_.out (by decide)

end Go.Proofs.Ytdmhadoggghgnaa.P
