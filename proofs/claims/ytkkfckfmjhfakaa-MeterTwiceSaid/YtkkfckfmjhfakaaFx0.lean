/- Floats and the meter: contracts by hand, and the laws over them. -/
import Derived.Test.YtkkfckfmjhfakaaOwn
import Derived.Test.YtkkfckfmjhfakaaSrt2
namespace Go.Proofs.Ytkkfckfmjhfakaa.Mt
open Go Go.RowKit Go.Proofs.YtkkfckfmjhfakaaW.PrintWords Go.Proofs.YtkkfckfmjhfakaaW.PrintLast Go.Proofs.YtkkfckfmjhfakaaW.PrintMore Go.Proofs.Ytkkfckfmjhfakaa.Mth Go.Proofs.Ytkkfckfmjhfakaa.Own Go.Proofs
set_option linter.unusedVariables false
set_option linter.unusedSimpArgs false
/-! ### The fixed answers -/
theorem up_bits : floatBits .quo .f64 (floatOfInt .f64 5) (floatOfInt .f64 0) = some 9218868437227405312 := by decide +kernel
theorem down_bits : floatBits .quo .f64 (floatOfInt .f64 (-5)) (floatOfInt .f64 0) = some 18442240474082181120 := by decide +kernel
theorem none_bits : floatBits .quo .f64 (floatOfInt .f64 0) (floatOfInt .f64 0) = none := by decide +kernel
theorem half_bits : floatBits .quo .f64 (floatOfInt .f64 3) (floatOfInt .f64 2) = some 4609434218613702656 := by decide +kernel
theorem mean_bits : floatBits .quo .f64 (sumS [4607182418800017408, 4611686018427387904, 9218868437227405312]) (floatOfInt .f64 (cntS [4607182418800017408, 4611686018427387904, 9218868437227405312])) = some 4609434218613702656 := by decide +kernel
theorem mean_cnt : cntS [4607182418800017408, 4611686018427387904, 9218868437227405312] = 2 := by decide +kernel
theorem back_bits : floatBits .quo .f64 4607182418800017408 18442240474082181120 = some 9223372036854775808 := by decide +kernel
theorem more_bits : floatBits .add .f64 9218868437227405312 4607182418800017408 = some 9218868437227405312 := by decide +kernel
theorem kd_up : kd 9218868437227405312 = 5 := by decide +kernel
theorem kd_down : kd 18442240474082181120 = 0 := by decide +kernel
theorem kd_back : kd 9223372036854775808 = 2 := by decide +kernel
theorem kd_one : kd 4607182418800017408 = 4 := by decide +kernel
theorem kd_nil : kd 0 = 3 := by decide +kernel
theorem nan_kd {r : Nat} (h : (rd r).isNaN = true) : kd r = 6 := by rw [kd_nan] at h; exact of_decide_eq_true h
abbrev oneF64 : F64 := ⟨4607182418800017408, by decide⟩
abbrev zeroF64 : F64 := ⟨0, by decide⟩
abbrev downF64 : F64 := ⟨18442240474082181120, by decide⟩
abbrev threeF64 : F64 := ⟨4613937818241073152, by decide⟩
theorem top3 : topN [oneF64, threeF64, threeF64] 3 = 1 := by decide +kernel
theorem head_min {a m : F64} {r t : List F64} (hp : (a :: r).Perm (m :: t)) (hs : (a :: r).Pairwise (fun x y => ltF y x = false)) (hm : ∀ y ∈ t, ltF m y = true) : a = m ∧ r.Perm t := by
  have ha : a ∈ m :: t := hp.mem_iff.1 List.mem_cons_self
  rcases List.mem_cons.1 ha with rfl | h
  · exact ⟨rfl, hp.cons_inv⟩
  · exfalso
    have hm' : m ∈ a :: r := hp.mem_iff.2 List.mem_cons_self
    rcases List.mem_cons.1 hm' with rfl | h2
    · have := hm _ h; rw [ltF_irr] at this; cases this
    · have := (List.pairwise_cons.1 hs).1 _ h2; rw [hm _ h] at this; cases this
theorem lt_kd {x y : F64} (h : kd x.1 < kd y.1) : ltF x y = true := (less_iff _ _).2 (.inl h)
/-- Four numbers of four kinds, in order. -/
theorem sorted4 {x : F64} (hx : kd x.1 = 6) {l' : List F64} (hp : l'.Perm [oneF64, x, zeroF64, downF64]) (hs : l'.Pairwise (fun x y => ltF y x = false)) : l' = [downF64, zeroF64, oneF64, x] := by
  have hl : l'.length = 4 := hp.length_eq
  have hp2 : l'.Perm [downF64, zeroF64, oneF64, x] := hp.trans (by
    have e1 : [oneF64, x, zeroF64, downF64].Perm ([zeroF64, downF64] ++ [oneF64, x]) := List.perm_append_comm (l₁ := [oneF64, x]) (l₂ := [zeroF64, downF64])
    exact e1.trans (List.Perm.swap _ _ _))
  match l', hl with
  | [a, b, c, d], _ =>
    obtain ⟨rfl, p1⟩ := head_min hp2 hs (by
      intro y hy
      simp only [List.mem_cons, List.not_mem_nil, or_false] at hy
      rcases hy with rfl | rfl | rfl <;> refine lt_kd ?_
      · show kd 18442240474082181120 < kd 0; rw [kd_down, kd_nil]; decide
      · show kd 18442240474082181120 < kd 4607182418800017408; rw [kd_down, kd_one]; decide
      · rw [hx]; show kd 18442240474082181120 < 6; rw [kd_down]; decide)
    obtain ⟨rfl, p2⟩ := head_min p1 (List.pairwise_cons.1 hs).2 (by
      intro y hy
      simp only [List.mem_cons, List.not_mem_nil, or_false] at hy
      rcases hy with rfl | rfl <;> refine lt_kd ?_
      · show kd 0 < kd 4607182418800017408; rw [kd_nil, kd_one]; decide
      · rw [hx]; show kd 0 < 6; rw [kd_nil]; decide)
    obtain ⟨rfl, p3⟩ := head_min p2 (List.pairwise_cons.1 (List.pairwise_cons.1 hs).2).2 (by
      intro y hy
      simp only [List.mem_cons, List.not_mem_nil, or_false] at hy
      rcases hy with rfl
      refine lt_kd ?_
      rw [hx]; show kd 4607182418800017408 < 6; rw [kd_one]; decide)
    rw [List.singleton_perm_singleton.1 p3]
theorem reads_block {w : World} {g : Nat} {l : List F64} {cs : Array Value} (h : w.heap[g]? = some (.cells cs 22 (0, 0))) (hc : cs = (l.map encF).toArray) (hb : l.length ≤ 100000) : ReadsOf encF default w (some ⟨g, 0, none⟩) l.length l := by
  refine ⟨rfl, by omega, fun _ => ⟨_, rfl, fun j hj => ?_⟩⟩
  have := blk_cell h j
  rw [addj, Nat.zero_add, this, hc]
  rw [List.getElem?_toArray, List.getElem?_map, List.getD_eq_getElem?_getD, List.getElem?_eq_getElem hj]
  rfl
theorem reads_vals {w : World} {A : Option Addr} {l : List F64} (h : ReadsOf encF default w A l.length l) : ReadsOf (Value.float .f64) 0 w A (l.map Subtype.val).length (l.map Subtype.val) := by
  refine ⟨rfl, by rw [List.length_map]; exact h.2.1, fun hn => ?_⟩
  rw [List.length_map] at hn
  obtain ⟨ad, hA, hc⟩ := h.2.2 hn
  refine ⟨ad, hA, fun j hj => ?_⟩
  rw [List.length_map] at hj
  rw [hc j hj, List.getD_eq_getElem?_getD, List.getD_eq_getElem?_getD, List.getElem?_map, List.getElem?_eq_getElem hj]
  rfl
theorem Mean_F (A : Option Addr) (c : Nat) (l : List F64) (w : World) (hr : ReadsOf encF default w A l.length l) (hc : l.length ≤ c) (hb : l.length ≤ 100000) :
    Calls Try.prog 22 #[.slice A l.length c] w fun e w' => ∃ r, e = .returned (.tuple #[.float .f64 r, .int .i64 (cntS (l.map Subtype.val))]) ∧ MeanP (l.map Subtype.val) r ∧ Below w.heap.size w w' := by
  have := Mean_calls A c (l.map Subtype.val) w (reads_vals hr) (by rw [List.length_map]; exact hc) (by rw [List.length_map]; exact hb) (fun x hx => by obtain ⟨y, _, rfl⟩ := List.mem_map.1 hx; exact y.2)
  rwa [List.length_map] at this
theorem mean3 (g c : Nat) (w : World) (h : w.heap[g]? = some (.cells #[.float .f64 4607182418800017408, .float .f64 4611686018427387904, .float .f64 9218868437227405312] 22 (0, 0))) (hc : 3 ≤ c) :
    Calls Try.prog 22 #[.slice (some ⟨g, 0, none⟩) 3 c] w fun e w' => e = .returned (.tuple #[.float .f64 4609434218613702656, .int .i64 2]) ∧ Below w.heap.size w w' := by
  refine (Mean_F (some ⟨g, 0, none⟩) c [oneF64, ⟨4611686018427387904, by decide⟩, ⟨9218868437227405312, by decide⟩] w (reads_block h rfl (by show 3 ≤ 100000; decide)) hc (by show 3 ≤ 100000; decide)).mono ?_
  rintro e w' ⟨r, rfl, hm, hb⟩
  have e1 : r = 4609434218613702656 := res_some hm mean_bits
  have e2 : cntS ([oneF64, ⟨4611686018427387904, by decide⟩, ⟨9218868437227405312, by decide⟩].map Subtype.val) = 2 := mean_cnt
  rw [e1, e2]
  exact ⟨rfl, hb⟩
theorem mean0 (w : World) : Calls Try.prog 22 #[.slice none 0 0] w fun e w' => ∃ r, e = .returned (.tuple #[.float .f64 r, .int .i64 0]) ∧ Below w.heap.size w w' :=
  (Mean_F none 0 [] w ⟨rfl, by decide, fun h => absurd h (Nat.lt_irrefl _)⟩ (Nat.le_refl _) (by show 0 ≤ 100000; decide)).mono fun e w' ⟨r, h1, _, h2⟩ => ⟨r, h1, h2⟩
theorem rate_half (w : World) : Calls Try.prog 12 #[.int .i64 3, .int .i64 2] w fun e w' => e = .returned (.float .f64 4609434218613702656) ∧ Below w.heap.size w w' := by
  refine (Rate_calls 3 2 w).mono ?_
  rintro e w' ⟨r, rfl, h, hb⟩
  rw [res_some h half_bits]
  exact ⟨rfl, hb⟩
theorem kind_at {b : Nat} {k : Int} (w : World) (hk : kd b = k) (hb : b < 2 ^ 64) : Calls Try.prog 13 #[.float .f64 b] w fun e w' => e = .returned (.int .i64 k) ∧ Below w.heap.size w w' :=
  (Kind_calls b w hb).mono fun e w' h => ⟨by rw [h.1, hk], by rw [h.2]; exact Below.refl _ _⟩
theorem top_three (g c : Nat) (w : World) (h : w.heap[g]? = some (.cells #[.float .f64 4607182418800017408, .float .f64 4613937818241073152, .float .f64 4613937818241073152] 22 (0, 0))) :
    Calls Try.prog 20 #[.slice (some ⟨g, 0, none⟩) 3 c] w fun e w' => e = .returned (.int .i64 1) ∧ Below w.heap.size w w' :=
  (Top_calls (some ⟨g, 0, none⟩) c [oneF64, threeF64, threeF64] w (reads_block h rfl (by show 3 ≤ 100000; decide)) (by show 3 ≤ 100000; decide)).mono fun e w' h => ⟨by rw [h.1]; show Ending.returned (.int .i64 (topN [oneF64, threeF64, threeF64] 3)) = _; rw [top3], by rw [h.2]; exact Below.refl _ _⟩
theorem top_none (w : World) : Calls Try.prog 20 #[.slice none 0 0] w fun e w' => e = .returned (.int .i64 (-1)) ∧ Below w.heap.size w w' :=
  (Top_calls none 0 [] w ⟨rfl, by decide, fun h => absurd h (Nat.lt_irrefl _)⟩ (by show 0 ≤ 100000; decide)).mono fun e w' h => ⟨h.1, by rw [h.2]; exact Below.refl _ _⟩
theorem oHalf : (FloatKind.f64.format.order 4609434218613702656 4609434218613702656 == some .eq) = true := by decide +kernel
theorem oUp0 : (FloatKind.f64.format.order 9218868437227405312 0 == some .gt) = true := by decide +kernel
theorem oUp : (FloatKind.f64.format.order 9218868437227405312 9218868437227405312 == some .eq) = true := by decide +kernel
theorem oDown0 : (FloatKind.f64.format.order 18442240474082181120 0 == some .lt) = true := by decide +kernel
theorem oDown : (FloatKind.f64.format.order 18442240474082181120 18442240474082181120 == some .eq) = true := by decide +kernel
theorem oNil : (FloatKind.f64.format.order 0 0 == some .eq) = true := by decide +kernel
theorem oOne : (FloatKind.f64.format.order 4607182418800017408 4607182418800017408 == some .eq) = true := by decide +kernel
end Go.Proofs.Ytkkfckfmjhfakaa.Mt
