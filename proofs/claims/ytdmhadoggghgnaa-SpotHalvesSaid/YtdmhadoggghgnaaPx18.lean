/- What functions of the program compute, each with the walk that shows it: by a program (a turned copy of the kit's print; wip/myprint.py). -/
import Derived.Test.YtdmhadoggghgnaaPx0
namespace Go.Proofs.Ytdmhadoggghgnaa.P
open Go.RowKit Go.Proofs.YtdmhadoggghgnaaW.PrintWords Go.Proofs.YtdmhadoggghgnaaW.PrintLast Go.Proofs.YtdmhadoggghgnaaW.PrintMore
attribute [local go_sem] max2_int min2_int max_two min_two max_three min_three max_four min_four   -- for this text's walks alone
set_option linter.unusedVariables false
set_option linter.unusedSimpArgs false

/-! ### aqueductref13_Build: function 20 -/
def aqueductref13_Build.j0 : Nat → Bool → Int → Bool → Int → Option (ByteArray × Int)
  | 0, _, _, _, _ => none
  | k + 1, x22, x198000, x198001, x198002 => if x22 = true then (some ((⟨#[]⟩ : ByteArray), 1)) else (if x198001 = true then (some (strOfNums (([(Int.tmod (wrap64 (x198000 + 32768)) 256) % 256, (wrap64 (Int.tdiv (wrap64 (x198000 + 32768)) 256)) % 256, (Int.tmod x198002 256) % 256, (wrap64 (Int.tdiv x198002 256)) % 256] : List Int)), 0)) else (some (strOfNums (([(Int.tmod x198000 256) % 256, (wrap64 (Int.tdiv x198000 256)) % 256, (Int.tmod x198002 256) % 256, (wrap64 (Int.tdiv x198002 256)) % 256] : List Int)), 0)))
def aqueductref13_Build.f (k : Nat) (a0_0 : Int) (a0_1 : Bool) (a0_2 : Int) : Option (ByteArray × Int) := if a0_0 < 0 then (aqueductref13_Build.j0 k true a0_0 a0_1 a0_2) else (if a0_0 > 32767 then (aqueductref13_Build.j0 k true a0_0 a0_1 a0_2) else (if a0_2 < 0 then (aqueductref13_Build.j0 k true a0_0 a0_1 a0_2) else (aqueductref13_Build.j0 k (decide (a0_2 > 65535)) a0_0 a0_1 a0_2)))
theorem aqueductref13_Build.mono_l : ∀ k, (∀ y0 y1 y2 y3, LeO (aqueductref13_Build.j0 k y0 y1 y2 y3) (aqueductref13_Build.j0 (k + 1) y0 y1 y2 y3))
  | 0 => fun _ _ _ _ r h => by simp [aqueductref13_Build.j0] at h
  | k + 1 => by
    have ih0 := aqueductref13_Build.mono_l k
    · intro y0 y1 y2 y3
      unfold aqueductref13_Build.j0
      repeat' first
      | (with_reducible exact ih0 _ _ _ _)
      | (with_reducible exact LeO.refl _)
      | (with_reducible exact LeO.none _)
      | (with_reducible refine LeO.ite ?_ ?_)
      | (with_reducible refine LeO.bind ?_ (fun _ => ?_))
      | exact ih0 _ _ _ _
      | exact LeO.none _
      | refine LeO.ite ?_ ?_
      | refine LeO.bind ?_ (fun _ => ?_)
theorem aqueductref13_Build.mono : ∀ a0 a1 a2 k, LeO (aqueductref13_Build.f k a0 a1 a2) (aqueductref13_Build.f (k + 1) a0 a1 a2) := by
  intro a0 a1 a2 k
  have ih0 := aqueductref13_Build.mono_l k
  unfold aqueductref13_Build.f
  repeat' first
      | (with_reducible exact ih0 _ _ _ _)
      | (with_reducible exact LeO.refl _)
      | (with_reducible exact LeO.none _)
      | (with_reducible refine LeO.ite ?_ ?_)
      | (with_reducible refine LeO.bind ?_ (fun _ => ?_))
      | exact ih0 _ _ _ _
      | exact LeO.none _
      | refine LeO.ite ?_ ?_
      | refine LeO.bind ?_ (fun _ => ?_)
set_option maxHeartbeats 8000000 in
set_option maxRecDepth 100000 in
theorem aqueductref13_Build.calls (k : Nat) (a0_0 : Int) (a0_1 : Bool) (a0_2 : Int) (r1 : ByteArray) (r2 : Int) (w : World) (h : aqueductref13_Build.f k a0_0 a0_1 a0_2 = some (r1, r2)) :
    Calls Try.prog 20 #[.agg #[.int .i64 a0_0, .bool a0_1, .int .i64 a0_2]] w fun e w' => e = .returned (.tuple #[.string r1, .int .i64 r2]) ∧ Below w.heap.size w w' := by
  have hu23 := Try.underlying23
  have HB := Aside0.mk (Below.refl w.heap.size w)
  have H : (if a0_0 < 0 then (aqueductref13_Build.j0 k true a0_0 a0_1 a0_2) else (if a0_0 > 32767 then (aqueductref13_Build.j0 k true a0_0 a0_1 a0_2) else (if a0_2 < 0 then (aqueductref13_Build.j0 k true a0_0 a0_1 a0_2) else (aqueductref13_Build.j0 k (decide (a0_2 > 65535)) a0_0 a0_1 a0_2)))) = some (r1, r2) := h
  clear h
  have HC2 := Aside0.mk H
  clear H
  go_enter Try.func20, Try.ntmps20
  go_upto_region 1 with (first | ((with_reducible refine gate_dst (N := 1) rfl ?_); refine box_event ?hg (N := 1) ?hd (cs := #[.int .i64 a0_0, .bool a0_1, .int .i64 a0_2]) (t := 23) ?hr ?_; (case hd => rfl); (case hg => rfl); (case hr => first | (go_simp; done) | (go_simp; rfl)); intro gb197 hg w3 hbox hb; have n0_ := Aside0.mk (below_step (by repeat (first | (with_reducible first | exact HB.out | apply below_alloc | apply pw_below_drewN | apply below_drew1) | exact HB.out)) hb); have n1_ := Aside0.mk (hbox); have n2_ := Aside0.mk ((by rw [hg]; exact (below_size (by repeat (first | (with_reducible first | exact HB.out | apply below_alloc | apply pw_below_drewN | apply below_drew1) | exact HB.out))) : w.heap.size ≤ gb197)); have n3_ := Aside0.mk ((by rw [hg]; exact (below_size (by repeat (first | (with_reducible first | exact HB.out | apply below_alloc | apply pw_below_drewN | apply below_drew1) | exact HB.out))) : w.heap.size ≤ gb197)); clear HB; have HB := n0_; have BK197 := n1_; have GW197 := n2_; have GE197 := n3_; clear n0_ n1_ n2_ n3_; clear hb hbox hg))
  (try simp only [Act.put, List.setIfInBounds_toArray, List.set_cons_zero, List.set_cons_succ])
  go_cut [22] (fun v22 wc => ∃ (kq : Nat) (x22_1 : Bool), v22 = .bool x22_1 ∧ Aside0 (aqueductref13_Build.j0 kq x22_1 a0_0 a0_1 a0_2 = some (r1, r2)) ∧ Aside0 (kq ≤ k) ∧ Aside0 (wc.heap[gb197]? = some (.cells #[.int .i64 a0_0, .bool a0_1, .int .i64 a0_2] 23 (0, 0))) ∧ Aside0 (Below w.heap.size w wc))
  case first =>
    have H := HC2.out
    clear HC2
    by_cases c4 : a0_0 < 0
    · rw [if_pos c4] at H
      have c4b0 : decide (a0_0 < 0) = true := decide_eq_true c4
      clear c4
      (first | rw [c4b0] | (simp only [i64_w, i32_w]; rw [c4b0]) | skip)
      have H' := Aside0.mk H
      clear H
      have hcz5_0 : w3.cell? ⟨gb197, 0, none⟩ = some (.int .i64 a0_0) := (blk_cell BK197.out 0).trans rfl
      have hcz5_1 : w3.cell? ⟨gb197, 1, none⟩ = some (.bool a0_1) := (blk_cell BK197.out 1).trans rfl
      have hcz5_2 : w3.cell? ⟨gb197, 2, none⟩ = some (.int .i64 a0_2) := (blk_cell BK197.out 2).trans rfl
      have hfz5_0 := blk_frozen BK197.out 0
      have hfz5_1 := blk_frozen BK197.out 1
      have hfz5_2 := blk_frozen BK197.out 2
      go_wp2
      go_meet
      case rel => exact ⟨_, (true), (by first | rfl | (simp; done) | (simp [*]; done)), H', ⟨by first | omega | exact Nat.le_refl _⟩, ⟨by (with_reducible repeat (first | refine blk_drewN ?_ _ | refine blk_drew ?_ | refine blk_alloc ?_ _)); exact BK197.out⟩, ⟨by repeat (first | (with_reducible first | exact HB.out | apply below_alloc | apply pw_below_drewN | apply below_drew1 | refine below_set ?_ GE197.out) | exact HB.out)⟩⟩
    · rw [if_neg c4] at H
      have c4b0 : decide (a0_0 < 0) = false := decide_eq_false c4
      clear c4
      (first | rw [c4b0] | (simp only [i64_w, i32_w]; rw [c4b0]) | skip)
      by_cases c6 : a0_0 > 32767
      · rw [if_pos c6] at H
        have c6b0 : decide (32767 < a0_0) = true := decide_eq_true c6
        clear c6
        have H' := Aside0.mk H
        clear H
        have hcz7_0 : w3.cell? ⟨gb197, 0, none⟩ = some (.int .i64 a0_0) := (blk_cell BK197.out 0).trans rfl
        have hcz7_1 : w3.cell? ⟨gb197, 1, none⟩ = some (.bool a0_1) := (blk_cell BK197.out 1).trans rfl
        have hcz7_2 : w3.cell? ⟨gb197, 2, none⟩ = some (.int .i64 a0_2) := (blk_cell BK197.out 2).trans rfl
        have hfz7_0 := blk_frozen BK197.out 0
        have hfz7_1 := blk_frozen BK197.out 1
        have hfz7_2 := blk_frozen BK197.out 2
        go_wp2
        go_meet
        case rel => exact ⟨_, (true), (by first | rfl | (simp; done) | (simp [*]; done)), H', ⟨by first | omega | exact Nat.le_refl _⟩, ⟨by (with_reducible repeat (first | refine blk_drewN ?_ _ | refine blk_drew ?_ | refine blk_alloc ?_ _)); exact BK197.out⟩, ⟨by repeat (first | (with_reducible first | exact HB.out | apply below_alloc | apply pw_below_drewN | apply below_drew1 | refine below_set ?_ GE197.out) | exact HB.out)⟩⟩
      · rw [if_neg c6] at H
        have c6b0 : decide (32767 < a0_0) = false := decide_eq_false c6
        clear c6
        by_cases c8 : a0_2 < 0
        · rw [if_pos c8] at H
          have c8b0 : decide (a0_2 < 0) = true := decide_eq_true c8
          clear c8
          have H' := Aside0.mk H
          clear H
          have hcz9_0 : w3.cell? ⟨gb197, 0, none⟩ = some (.int .i64 a0_0) := (blk_cell BK197.out 0).trans rfl
          have hcz9_1 : w3.cell? ⟨gb197, 1, none⟩ = some (.bool a0_1) := (blk_cell BK197.out 1).trans rfl
          have hcz9_2 : w3.cell? ⟨gb197, 2, none⟩ = some (.int .i64 a0_2) := (blk_cell BK197.out 2).trans rfl
          have hfz9_0 := blk_frozen BK197.out 0
          have hfz9_1 := blk_frozen BK197.out 1
          have hfz9_2 := blk_frozen BK197.out 2
          go_wp2
          go_meet
          case rel => exact ⟨_, (true), (by first | rfl | (simp; done) | (simp [*]; done)), H', ⟨by first | omega | exact Nat.le_refl _⟩, ⟨by (with_reducible repeat (first | refine blk_drewN ?_ _ | refine blk_drew ?_ | refine blk_alloc ?_ _)); exact BK197.out⟩, ⟨by repeat (first | (with_reducible first | exact HB.out | apply below_alloc | apply pw_below_drewN | apply below_drew1 | refine below_set ?_ GE197.out) | exact HB.out)⟩⟩
        · rw [if_neg c8] at H
          have c8b0 : decide (a0_2 < 0) = false := decide_eq_false c8
          clear c8
          have H' := Aside0.mk H
          clear H
          have hcz10_0 : w3.cell? ⟨gb197, 0, none⟩ = some (.int .i64 a0_0) := (blk_cell BK197.out 0).trans rfl
          have hcz10_1 : w3.cell? ⟨gb197, 1, none⟩ = some (.bool a0_1) := (blk_cell BK197.out 1).trans rfl
          have hcz10_2 : w3.cell? ⟨gb197, 2, none⟩ = some (.int .i64 a0_2) := (blk_cell BK197.out 2).trans rfl
          have hfz10_0 := blk_frozen BK197.out 0
          have hfz10_1 := blk_frozen BK197.out 1
          have hfz10_2 := blk_frozen BK197.out 2
          go_wp2
          go_meet
          case rel => exact ⟨_, (decide (a0_2 > 65535)), (by first | rfl | (simp; done) | (simp [*]; done)), H', ⟨by first | omega | exact Nat.le_refl _⟩, ⟨by (with_reducible repeat (first | refine blk_drewN ?_ _ | refine blk_drew ?_ | refine blk_alloc ?_ _)); exact BK197.out⟩, ⟨by repeat (first | (with_reducible first | exact HB.out | apply below_alloc | apply pw_below_drewN | apply below_drew1 | refine below_set ?_ GE197.out) | exact HB.out)⟩⟩
  case rest =>
    clear HC2
    try clear c2
    try clear p2
    try clear c4
    try clear c4b0
    try clear c6
    try clear c6b0
    try clear c8
    try clear c8b0
    try clear hcz10_0
    try clear hcz10_1
    try clear hcz10_2
    try clear hcz5_0
    try clear hcz5_1
    try clear hcz5_2
    try clear hcz7_0
    try clear hcz7_1
    try clear hcz7_2
    try clear hcz9_0
    try clear hcz9_1
    try clear hcz9_2
    try clear hfz10_0
    try clear hfz10_1
    try clear hfz10_2
    try clear hfz5_0
    try clear hfz5_1
    try clear hfz5_2
    try clear hfz7_0
    try clear hfz7_1
    try clear hfz7_2
    try clear hfz9_0
    try clear hfz9_1
    try clear hfz9_2
    obtain ⟨kq, x22_1, rfl, HA, HJ1, BK197, HB⟩ := hcut
    cases kq with
    | zero => exact absurd HA.out (by simp [aqueductref13_Build.j0])
    | succ kj1 =>
      have H := HA.out
      clear HA
      simp only [aqueductref13_Build.j0] at H
      by_cases c11 : x22_1 = true
      · subst c11
        have H1 : (some ((⟨#[]⟩ : ByteArray), 1)) = some (r1, r2) := by rw [if_pos rfl] at H; exact H
        clear H
        have H := H1
        clear H1
        simp only [Option.some.injEq, Prod.mk.injEq] at H
        obtain ⟨rfl, rfl⟩ := H
        go_wp2
        go_ret2
        exact ⟨by first | rfl | (simp [errW_none, errW_some] <;> rfl) | (simp [*, errW_none, errW_some] <;> rfl), by repeat (first | (with_reducible first | exact HB.out | apply below_alloc | apply pw_below_drewN | apply below_drew1 | refine below_set ?_ GE197.out) | exact HB.out)⟩
      · replace c11 := Bool.eq_false_iff.mpr c11
        subst c11
        have H1 : (if a0_1 = true then (some (strOfNums (([(Int.tmod (wrap64 (a0_0 + 32768)) 256) % 256, (wrap64 (Int.tdiv (wrap64 (a0_0 + 32768)) 256)) % 256, (Int.tmod a0_2 256) % 256, (wrap64 (Int.tdiv a0_2 256)) % 256] : List Int)), 0)) else (some (strOfNums (([(Int.tmod a0_0 256) % 256, (wrap64 (Int.tdiv a0_0 256)) % 256, (Int.tmod a0_2 256) % 256, (wrap64 (Int.tdiv a0_2 256)) % 256] : List Int)), 0))) = some (r1, r2) := by rw [if_neg (show ¬ (false = true) by decide)] at H; exact H
        clear H
        have H := H1
        clear H1
        by_cases c12 : a0_1 = true
        · subst c12
          have H1 : (some (strOfNums (([(Int.tmod (wrap64 (a0_0 + 32768)) 256) % 256, (wrap64 (Int.tdiv (wrap64 (a0_0 + 32768)) 256)) % 256, (Int.tmod a0_2 256) % 256, (wrap64 (Int.tdiv a0_2 256)) % 256] : List Int)), 0)) = some (r1, r2) := by rw [if_pos rfl] at H; exact H
          clear H
          have H := H1
          clear H1
          obtain ⟨y198, hy198⟩ : ∃ y_ : List Int, y_ = (([(Int.tmod (wrap64 (a0_0 + 32768)) 256) % 256, (wrap64 (Int.tdiv (wrap64 (a0_0 + 32768)) 256)) % 256, (Int.tmod a0_2 256) % 256, (wrap64 (Int.tdiv a0_2 256)) % 256] : List Int)) := ⟨_, rfl⟩
          replace H : (some (strOfNums y198, 0)) = some (r1, r2) := by first | (rw [hy198]; with_reducible exact H) | (have H2_ := (Option.bind_some _ _).symm.trans H; rw [hy198]; with_reducible exact H2_) | (have H2_ := (Option.bind_some _ _).symm.trans H; with_reducible exact H2_) | with_reducible exact H | (rw [hy198]; exact H) | exact H
          have Ny198 := Aside0.mk hy198
          clear hy198
          simp only [Option.some.injEq, Prod.mk.injEq] at H
          obtain ⟨rfl, rfl⟩ := H
          have hcz13_0 : wc.cell? ⟨gb197, 0, none⟩ = some (.int .i64 a0_0) := (blk_cell BK197.out 0).trans rfl
          have hcz13_1 : wc.cell? ⟨gb197, 1, none⟩ = some (.bool true) := (blk_cell BK197.out 1).trans rfl
          have hcz13_2 : wc.cell? ⟨gb197, 2, none⟩ = some (.int .i64 a0_2) := (blk_cell BK197.out 2).trans rfl
          have hfz13_0 := blk_frozen BK197.out 0
          have hfz13_1 := blk_frozen BK197.out 1
          have hfz13_2 := blk_frozen BK197.out 2
          go_wp2_with (first | ((with_reducible refine gate_dst (N := 43) rfl ?_); refine Kd.R_lit (Kd.int .u8) _ 5 ?hg (N := 43) ?hd (xs := ([(Int.tmod (wrap64 (a0_0 + 32768)) 256) % 256, (wrap64 (Int.tdiv (wrap64 (a0_0 + 32768)) 256)) % 256, (Int.tmod a0_2 256) % 256, (wrap64 (Int.tdiv a0_2 256)) % 256] : List Int)) (inner := [.int .u8 ((Int.tmod (wrap64 (a0_0 + 32768)) 256) % 256), .int .u8 ((wrap64 (Int.tdiv (wrap64 (a0_0 + 32768)) 256)) % 256), .int .u8 ((Int.tmod a0_2 256) % 256), .int .u8 ((wrap64 (Int.tdiv a0_2 256)) % 256)]) (ok := fun _ => True) (okp := fun _ => True) ?hr ?hp (fun _ hk => hk) trivial (Below.refl _ _) (Nat.le_refl _) (by simp) ?_; (case hd => rfl); (case hg => rfl); (case hr => first | (go_simp; done) | (go_simp; rfl)); (case hp => exact (Reps.one (show Kd.M (Kd.int .u8) _ _ _ ((Int.tmod (wrap64 (a0_0 + 32768)) 256) % 256) [.int .u8 ((Int.tmod (wrap64 (a0_0 + 32768)) 256) % 256)] from rfl) (Reps.one (show Kd.M (Kd.int .u8) _ _ _ ((wrap64 (Int.tdiv (wrap64 (a0_0 + 32768)) 256)) % 256) [.int .u8 ((wrap64 (Int.tdiv (wrap64 (a0_0 + 32768)) 256)) % 256)] from rfl) (Reps.one (show Kd.M (Kd.int .u8) _ _ _ ((Int.tmod a0_2 256) % 256) [.int .u8 ((Int.tmod a0_2 256) % 256)] from rfl) (Reps.one (show Kd.M (Kd.int .u8) _ _ _ ((wrap64 (Int.tdiv a0_2 256)) % 256) [.int .u8 ((wrap64 (Int.tdiv a0_2 256)) % 256)] from rfl) (Reps.none _ _)))))); intro v199 w14 ho15 hb hg_ hnew_; clear hg_ hnew_; (first | rw [← Ny198.out] at ho15 | (simp only [Int.reduceToNat] at ho15; rw [← Ny198.out] at ho15)); have n0_ := Aside0.mk (Kd.R_lower ho15 (below_size (by repeat (first | (with_reducible first | exact HB.out | apply below_alloc | apply pw_below_drewN | apply below_drew1 | refine below_set ?_ GE197.out) | exact HB.out)))); have n1_ := Aside0.mk (blk_below (g := gb197) (o := .cells #[.int .i64 a0_0, .bool true, .int .i64 a0_2] 23 (0, 0)) (by (with_reducible repeat (first | refine blk_drewN ?_ _ | refine blk_drew ?_ | refine blk_alloc ?_ _)); exact BK197.out) hb); have n2_ := Aside0.mk (below_step (by repeat (first | (with_reducible first | exact HB.out | apply below_alloc | apply pw_below_drewN | apply below_drew1 | refine below_set ?_ GE197.out) | exact HB.out)) hb); clear BK197; clear HB; have HO200 := n0_; have BK197 := n1_; have HB := n2_; clear n0_ n1_ n2_; clear hb ho15; have hcv16 := own_string (P := Try.prog) Try.underlying48 Try.underlying5 Try.underlying9 (Kd.own_of_R HO200.out)))
          go_ret2
          exact ⟨by first | rfl | (simp [errW_none, errW_some] <;> rfl) | (simp [*, errW_none, errW_some] <;> rfl), by repeat (first | (with_reducible first | exact HB.out | apply below_alloc | apply pw_below_drewN | apply below_drew1 | refine below_set ?_ GE197.out) | exact HB.out)⟩
        · replace c12 := Bool.eq_false_iff.mpr c12
          subst c12
          have H1 : (some (strOfNums (([(Int.tmod a0_0 256) % 256, (wrap64 (Int.tdiv a0_0 256)) % 256, (Int.tmod a0_2 256) % 256, (wrap64 (Int.tdiv a0_2 256)) % 256] : List Int)), 0)) = some (r1, r2) := by rw [if_neg (show ¬ (false = true) by decide)] at H; exact H
          clear H
          have H := H1
          clear H1
          obtain ⟨y201, hy201⟩ : ∃ y_ : List Int, y_ = (([(Int.tmod a0_0 256) % 256, (wrap64 (Int.tdiv a0_0 256)) % 256, (Int.tmod a0_2 256) % 256, (wrap64 (Int.tdiv a0_2 256)) % 256] : List Int)) := ⟨_, rfl⟩
          replace H : (some (strOfNums y201, 0)) = some (r1, r2) := by first | (rw [hy201]; with_reducible exact H) | (have H2_ := (Option.bind_some _ _).symm.trans H; rw [hy201]; with_reducible exact H2_) | (have H2_ := (Option.bind_some _ _).symm.trans H; with_reducible exact H2_) | with_reducible exact H | (rw [hy201]; exact H) | exact H
          have Ny201 := Aside0.mk hy201
          clear hy201
          simp only [Option.some.injEq, Prod.mk.injEq] at H
          obtain ⟨rfl, rfl⟩ := H
          have hcz17_0 : wc.cell? ⟨gb197, 0, none⟩ = some (.int .i64 a0_0) := (blk_cell BK197.out 0).trans rfl
          have hcz17_1 : wc.cell? ⟨gb197, 1, none⟩ = some (.bool false) := (blk_cell BK197.out 1).trans rfl
          have hcz17_2 : wc.cell? ⟨gb197, 2, none⟩ = some (.int .i64 a0_2) := (blk_cell BK197.out 2).trans rfl
          have hfz17_0 := blk_frozen BK197.out 0
          have hfz17_1 := blk_frozen BK197.out 1
          have hfz17_2 := blk_frozen BK197.out 2
          go_wp2_with (first | ((with_reducible refine gate_dst (N := 43) rfl ?_); refine Kd.R_lit (Kd.int .u8) _ 5 ?hg (N := 43) ?hd (xs := ([(Int.tmod a0_0 256) % 256, (wrap64 (Int.tdiv a0_0 256)) % 256, (Int.tmod a0_2 256) % 256, (wrap64 (Int.tdiv a0_2 256)) % 256] : List Int)) (inner := [.int .u8 ((Int.tmod a0_0 256) % 256), .int .u8 ((wrap64 (Int.tdiv a0_0 256)) % 256), .int .u8 ((Int.tmod a0_2 256) % 256), .int .u8 ((wrap64 (Int.tdiv a0_2 256)) % 256)]) (ok := fun _ => True) (okp := fun _ => True) ?hr ?hp (fun _ hk => hk) trivial (Below.refl _ _) (Nat.le_refl _) (by simp) ?_; (case hd => rfl); (case hg => rfl); (case hr => first | (go_simp; done) | (go_simp; rfl)); (case hp => exact (Reps.one (show Kd.M (Kd.int .u8) _ _ _ ((Int.tmod a0_0 256) % 256) [.int .u8 ((Int.tmod a0_0 256) % 256)] from rfl) (Reps.one (show Kd.M (Kd.int .u8) _ _ _ ((wrap64 (Int.tdiv a0_0 256)) % 256) [.int .u8 ((wrap64 (Int.tdiv a0_0 256)) % 256)] from rfl) (Reps.one (show Kd.M (Kd.int .u8) _ _ _ ((Int.tmod a0_2 256) % 256) [.int .u8 ((Int.tmod a0_2 256) % 256)] from rfl) (Reps.one (show Kd.M (Kd.int .u8) _ _ _ ((wrap64 (Int.tdiv a0_2 256)) % 256) [.int .u8 ((wrap64 (Int.tdiv a0_2 256)) % 256)] from rfl) (Reps.none _ _)))))); intro v202 w18 ho19 hb hg_ hnew_; clear hg_ hnew_; (first | rw [← Ny201.out] at ho19 | (simp only [Int.reduceToNat] at ho19; rw [← Ny201.out] at ho19)); have n0_ := Aside0.mk (Kd.R_lower ho19 (below_size (by repeat (first | (with_reducible first | exact HB.out | apply below_alloc | apply pw_below_drewN | apply below_drew1 | refine below_set ?_ GE197.out) | exact HB.out)))); have n1_ := Aside0.mk (blk_below (g := gb197) (o := .cells #[.int .i64 a0_0, .bool false, .int .i64 a0_2] 23 (0, 0)) (by (with_reducible repeat (first | refine blk_drewN ?_ _ | refine blk_drew ?_ | refine blk_alloc ?_ _)); exact BK197.out) hb); have n2_ := Aside0.mk (below_step (by repeat (first | (with_reducible first | exact HB.out | apply below_alloc | apply pw_below_drewN | apply below_drew1 | refine below_set ?_ GE197.out) | exact HB.out)) hb); clear BK197; clear HB; have HO203 := n0_; have BK197 := n1_; have HB := n2_; clear n0_ n1_ n2_; clear hb ho19; have hcv20 := own_string (P := Try.prog) Try.underlying48 Try.underlying5 Try.underlying9 (Kd.own_of_R HO203.out)))
          go_ret2
          exact ⟨by first | rfl | (simp [errW_none, errW_some] <;> rfl) | (simp [*, errW_none, errW_some] <;> rfl), by repeat (first | (with_reducible first | exact HB.out | apply below_alloc | apply pw_below_drewN | apply below_drew1 | refine below_set ?_ GE197.out) | exact HB.out)⟩

end Go.Proofs.Ytdmhadoggghgnaa.P
