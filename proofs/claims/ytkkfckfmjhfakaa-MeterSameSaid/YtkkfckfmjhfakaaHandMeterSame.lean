/- Floats and the meter: contracts by hand, and the laws over them. -/
import Derived.Test.YtkkfckfmjhfakaaOwn
import Derived.Test.YtkkfckfmjhfakaaFx
import Derived.Test.YtkkfckfmjhfakaaWri
namespace Go.Proofs.Ytkkfckfmjhfakaa.Hand
open Go Go.RowKit Go.Proofs.YtkkfckfmjhfakaaW.PrintWords Go.Proofs.YtkkfckfmjhfakaaW.PrintLast Go.Proofs.YtkkfckfmjhfakaaW.PrintMore Go.Proofs.Ytkkfckfmjhfakaa.Mth Go.Proofs.Ytkkfckfmjhfakaa.Own Go.Proofs Go.Proofs.Ytkkfckfmjhfakaa.Mt
set_option linter.unusedVariables false
set_option linter.unusedSimpArgs false
theorem take_min {α : Type} (l : List α) (k : Nat) : l.take (min (l.length : Int) (k : Int)).toNat = l.take k := by rw [List.take_eq_take_iff]; omega
theorem take_len {α : Type} {enc : α → Value} {d : α} {w : World} {A : Option Addr} {l : List α} (h : ReadsOf enc d w A l.length l) (k : Nat) : ReadsOf enc d w A (l.take k).length (l.take k) := by
  have q := h.take_ (min k l.length) (by omega)
  have e : l.take (min k l.length) = l.take k := by rw [List.take_eq_take_iff]; omega
  rw [e] at q
  rw [List.length_take]
  exact q
theorem eq_self {r : Nat} (h : kd r ≠ 6) : (FloatKind.f64.format.order r r == some .eq) = true := by
  have q := ord_self r
  rw [kd_nan, decide_eq_false h] at q
  have e : (ord r r != some .eq) = !(ord r r == some .eq) := rfl
  rw [e] at q
  have q2 : (ord r r == some .eq) = true := by
    cases h2 : (ord r r == some .eq) with
    | true => rfl
    | false => rw [h2] at q; cases q
  exact q2
theorem nan_all {r : Nat} (h : kd r = 6) (s : Nat) : (FloatKind.f64.format.order r s != some .eq) = true ∧ (FloatKind.f64.format.order r s == some .eq) = false := by
  have : ord r s = none := nan_ord s (by rw [kd_nan]; exact decide_eq_true h)
  rw [show FloatKind.f64.format.order r s = ord r s from rfl, this]
  exact ⟨rfl, rfl⟩
/-- Two results of one operation: the same, or both none. -/
theorem two_res {op : BinOp} {x y m k : Nat} (h1 : Res op x y m) (h2 : Res op x y k) : (FloatKind.f64.format.order m k != some .eq) = false ∨ ((FloatKind.f64.format.order m k != some .eq) = true ∧ (FloatKind.f64.format.order m m == some .eq) = false ∧ (FloatKind.f64.format.order k k == some .eq) = false) := by
  have nn : kd m = 6 → kd k = 6 → ((FloatKind.f64.format.order m k != some .eq) = true ∧ (FloatKind.f64.format.order m m == some .eq) = false ∧ (FloatKind.f64.format.order k k == some .eq) = false) := fun a b => ⟨(nan_all a k).1, (nan_all a m).2, (nan_all b k).2⟩
  cases h : floatBits op .f64 x y with
  | some q =>
    have e1 := res_some h1 h
    have e2 := res_some h2 h
    subst e1
    by_cases n : kd m = 6
    · exact .inr (nn n (by rw [e2]; exact n))
    · rw [e2]
      have := eq_self n
      have e : (FloatKind.f64.format.order m m != some .eq) = !(FloatKind.f64.format.order m m == some .eq) := rfl
      rw [e, this]
      exact .inl rfl
  | none => exact .inr (nn (nan_kd (res_none h1 h)) (nan_kd (res_none h2 h)))
theorem isNum_no {x : Nat} (h : kd x = 6 ∨ kd x = 5 ∨ kd x = 0) : isNum x = false := decide_eq_false (by omega)
theorem more_same (l : List Nat) (r : Nat) (h : kd r = 6) : sumS (l ++ [9218868437227405312, r, 18442240474082181120]) = sumS l ∧ cntS (l ++ [9218868437227405312, r, 18442240474082181120]) = cntS l := by
  have a := isNum_no (.inr (.inl kd_up))
  have b := isNum_no (.inl h)
  have c := isNum_no (.inr (.inr kd_down))
  rw [show l ++ [9218868437227405312, r, 18442240474082181120] = ((l ++ [9218868437227405312]) ++ [r]) ++ [18442240474082181120] by simp]
  refine ⟨?_, ?_⟩
  · rw [sum_snoc, c, sum_snoc, b, sum_snoc, a]; rfl
  · rw [cnt_snoc, c, cnt_snoc, b, cnt_snoc, a]; rfl
theorem rd_finite {x : Nat} (h : 1 ≤ kd x ∧ kd x ≤ 4) : ∃ s m i, rd x = .number s m i := by
  unfold kd kdD at h
  cases e : rd x with
  | nan s f => rw [e] at h; simp at h
  | infinity s => rw [e] at h; cases s <;> simp at h
  | number s m i => exact ⟨s, m, i, rfl⟩
/-- The mean of one finite number is it. -/
theorem mean_one {x a : Nat} (hx : 1 ≤ kd x ∧ kd x ≤ 4) (hb : x < 2 ^ 64) (h : MeanP [x] a) : cntS [x] = 1 ∧ (FloatKind.f64.format.order a x == some .eq) = true := by
  have hn : isNum x = true := decide_eq_true hx
  have hc : cntS [x] = 1 := by rw [show [x] = ([] : List Nat) ++ [x] from rfl, cnt_snoc, if_pos hn]; rfl
  refine ⟨hc, ?_⟩
  obtain ⟨s, m, i, e⟩ := rd_finite hx
  have hs : sumS [x] = if m = 0 then 0 else x := by
    rw [show [x] = ([] : List Nat) ++ [x] from rfl, sum_snoc, if_pos hn]
    show addF 0 x = _
    unfold addF
    rw [zero_add_num e hb]
    rfl
  have n6 : kd x ≠ 6 := by omega
  unfold MeanP at h
  rw [hc, hs] at h
  have h' : Res .quo (if m = 0 then 0 else x) 4607182418800017408 a := h
  by_cases hm : m = 0
  · rw [if_pos hm] at h'
    have q := quo_nil (x := 0) rd0 rd1 (by decide)
    have r0 : a = 0 := res_some h' q
    subst r0 hm
    have k : ky x = 0 := by
      unfold ky
      rw [e]
      show sgn s 0 * _ = 0
      have : sgn s 0 = 0 := by cases s <;> rfl
      rw [this, Int.zero_mul]
    have o := ord_number rd0 e
    rw [k, ky0] at o
    rw [show FloatKind.f64.format.order 0 x = ord 0 x from rfl, o]
    decide
  · rw [if_neg hm] at h'
    rw [res_some h' (quo_one e hb hm)]
    exact eq_self n6
/-- Of none there is none. -/
theorem mean_no {x a : Nat} (hx : kd x = 6 ∨ kd x = 5 ∨ kd x = 0) (h : MeanP [x] a) : cntS [x] = 0 ∧ (FloatKind.f64.format.order a a != some .eq) = true := by
  have hn := isNum_no hx
  have hc : cntS [x] = 0 := by rw [show [x] = ([] : List Nat) ++ [x] from rfl, cnt_snoc, hn]; rfl
  have hs : sumS [x] = 0 := by rw [show [x] = ([] : List Nat) ++ [x] from rfl, sum_snoc, hn]; rfl
  refine ⟨hc, ?_⟩
  unfold MeanP at h
  rw [hc, hs] at h
  exact (nan_all (nan_kd (res_none (x := 0) (y := floatOfInt .f64 0) h none_bits)) a).1
theorem one_up : floatBits .quo .f64 (floatOfInt .f64 1) (floatOfInt .f64 0) = some 9218868437227405312 := by decide +kernel
theorem one_down : floatBits .quo .f64 (floatOfInt .f64 (-1)) (floatOfInt .f64 0) = some 18442240474082181120 := by decide +kernel
theorem own_emptyN (w : World) (b : Nat) (hb : b ≤ w.heap.size) : (w.alloc (.cells #[] 22)).ownsRow b 22 1 (.slice (some ⟨w.heap.size, 0, none⟩) 0 0) ([] : List Nat).length (encs (Value.float .f64) []) :=
  own_lit_of (enc := Value.float .f64) w b 22 [] hb (by decide)
theorem reads_new {w : World} {g : Nat} {l : List Nat} {cs : Array Value} (h : w.heap[g]? = some (.cells cs 22 (0, 0))) (hc : cs = (l.map (Value.float .f64)).toArray) (hb : l.length ≤ 100000) : ReadsOf (Value.float .f64) 0 w (some ⟨g, 0, none⟩) l.length l := by
  refine ⟨rfl, by omega, fun _ => ⟨_, rfl, fun j hj => ?_⟩⟩
  have := blk_cell h j
  rw [addj, Nat.zero_add, this, hc]
  rw [List.getElem?_toArray, List.getElem?_map, List.getD_eq_getElem?_getD, List.getElem?_eq_getElem hj]
  rfl
set_option maxHeartbeats 8000000 in
theorem MeterSame (A : Option Addr) (c : Nat) (l : List Nat) (x : Nat) (w : World) (hle : l.length ≤ c) (hmx : c ≤ 9223372036854775807) (hgd : ∀ a ∈ l, (Lit.float .f64 a).wf = true) (hr : ReadsOf (Value.float .f64) 0 w A l.length l) (wx : (Lit.float .f64 x).wf = true) :
    Calls Try.prog 9 #[.slice A l.length c, .float .f64 x] w fun e w' => e = .returned (.bool true) ∧ Below w.heap.size w w' := by
  have hx : x < 2 ^ 64 := by simpa [Lit.wf] using wx
  have HX := Aside0.mk hx
  have HR := Aside0.mk (take_len hr 60)
  have HL := Aside0.mk (show ∀ x ∈ l.take 60, x < 2 ^ 64 from fun x hx => by simpa [Lit.wf] using hgd x (List.mem_of_mem_take hx))
  have tl : (l.take 60).length ≤ 60 := by rw [List.length_take]; omega
  have tc : (l.take 60).length ≤ c := by rw [List.length_take]; omega
  have te : (min (l.length : Int) 60).toNat = (l.take 60).length := by rw [List.length_take]; omega
  clear hgd hr hx wx
  go_enter Try.func9, Try.ntmps9
  go_wp2_with fail
  rw [show min 60 l.length = (l.take 60).length by rw [List.length_take]]
  obtain ⟨t, ht⟩ : ∃ t, l.take 60 = t := ⟨_, rfl⟩
  rw [ht] at HR HL tl tc
  rw [ht]
  clear te ht
  refine (Mean_calls A c t w HR.out tc (by omega) HL.out).mono ?_
  rintro e w1 ⟨m, rfl, h1, b1⟩
  have B1 := Aside0.mk b1
  have M1 := Aside0.mk h1
  have R1 := Aside0.mk (HR.out.below b1)
  clear b1 h1
  go_wp2_with (at_builtin; go_loud (refine print_append_row_of (w0 := w1) (Value.float .f64) 0 w1.heap.size rfl (.tmp 23) (.tmp 24) 28 22 (.float .f64 0) 8 rfl Try.underlying28 infoF rfl (by decide) (fun _ => rfl) (.slice (some ⟨w1.heap.size, 0, none⟩) 0 0) [] t A t.length c rfl rfl ?c1 ?c2 ?c3 ?c4 ?c5 ?_; (case c1 => exact own_emptyN w1 w1.heap.size (Nat.le_refl _)); (case c2 => exact R1.out.below (below_alloc (Below.refl _ _) _)); (case c3 => exact below_alloc (Below.refl _ _) _); (case c4 => simp); (case c5 => simp only [List.length_nil]; omega); intro v1 w2 ho1 hb1 hg1 hf1; have HO2 := Aside0.mk ho1; have B2 := Aside0.mk (below_step B1.out hb1); obtain ⟨A1, c1_, rfl⟩ := own_slice ho1; simp only [List.nil_append] at HO2; clear ho1 hb1 hg1 hf1))
  clear R1
  refine (Rate_calls 1 0 w2).mono ?_
  rintro e w3 ⟨r, rfl, h0, b1⟩
  obtain rfl := res_some h0 one_up
  have B3 := Aside0.mk (below_step B2.out b1)
  have HO3 := Aside0.mk (pw_own_below HO2.out b1)
  clear h0 b1 HO2
  go_wp2_with fail
  refine (Rate_calls 0 0 w3).mono ?_
  rintro e w4 ⟨r0, rfl, h0, b1⟩
  have N0 := Aside0.mk (nan_kd (res_none h0 none_bits))
  have L0 := Aside0.mk h0.1
  have B4 := Aside0.mk (below_step B3.out b1)
  have HO4 := Aside0.mk (pw_own_below HO3.out b1)
  clear h0 b1 HO3
  go_wp2_with fail
  refine (Rate_calls (-1) 0 w4).mono ?_
  rintro e w5 ⟨r, rfl, h0, b1⟩
  obtain rfl := res_some h0 one_down
  have B5 := Aside0.mk (below_step B4.out b1)
  have HO5 := Aside0.mk (pw_own_below HO4.out b1)
  clear h0 b1 HO4
  have HO5' := Aside0.mk (own_weaken HO5.out B1.out.size)
  clear HO5
  go_wp2_with (at_builtin; go_loud (refine print_append_row_of (w0 := w) (Value.float .f64) 0 w.heap.size rfl (.tmp 26) (.tmp 30) 28 22 (.float .f64 0) 8 rfl Try.underlying28 infoF rfl (by decide) (fun _ => rfl) (.slice A1 t.length c1_) t [9218868437227405312, r0, 18442240474082181120] (some ⟨w5.heap.size, 0, none⟩) 3 3 rfl rfl ?c1 ?c2 ?c3 ?c4 ?c5 ?_; (case c1 => exact own_alloc HO5'.out _); (case c2 => exact reads_new (l := [9218868437227405312, r0, 18442240474082181120]) (blk_new w5 _) rfl (by show 3 ≤ 100000; decide)); (case c3 => exact below_alloc B5.out _); (case c4 => have := B5.out.size; simp; omega); (case c5 => omega); intro v2 w6 ho1 hb1 hg1 hf1; obtain ⟨u, hu⟩ : ∃ u, t ++ [9218868437227405312, r0, 18442240474082181120] = u := ⟨_, rfl⟩; rw [hu] at ho1; have HU := Aside0.mk hu; have HO6 := Aside0.mk ho1; have B6 := Aside0.mk hb1; obtain ⟨A2, c2_, rfl⟩ := own_slice ho1; clear ho1 hb1 hg1 hf1 hu))
  have UL : u.length ≤ 100000 := by rw [← HU.out]; simp; omega
  have UB : ∀ x ∈ u, x < 2 ^ 64 := by
    rw [← HU.out]
    intro y hy
    rcases List.mem_append.1 hy with h | h
    · exact HL.out y h
    · simp only [List.mem_cons, List.not_mem_nil, or_false] at h
      rcases h with rfl | rfl | rfl
      · decide
      · exact L0.out
      · decide
  have MS := more_same t r0 N0.out
  rw [HU.out] at MS
  refine (Mean_calls A2 c2_ u w6 (own_reads_of' HO6.out) (own_cap HO6.out) UL UB).mono ?_
  rintro e w7 ⟨k, rfl, h2, b2⟩
  have B7 := Aside0.mk (below_step B6.out b2)
  have M2 : Aside0 (MeanP t k) := ⟨by unfold MeanP at h2 ⊢; rw [MS.1, MS.2] at h2; exact h2⟩
  rw [MS.2]
  clear b2 h2 MS UL UB HO6
  have e0 : ((cntS t : Int) != (cntS t : Int)) = false := by simp
  rcases two_res M1.out M2.out with q | ⟨q1, q2, q3⟩
  all_goals
    go_wp2_with fail
    have hb8 : Below w7.heap.size w7 (w7.alloc (.cells #[.float .f64 x] 22)) := below_alloc (Below.refl _ _) _
    have K8 := Aside0.mk (blk_new w7 (.cells #[.float .f64 x] 22))
    generalize w7.alloc (.cells #[.float .f64 x] 22) = w8 at hb8 K8 ⊢
    have B8 := Aside0.mk (below_step B7.out hb8)
    clear hb8
    generalize w7.heap.size = g8 at K8 ⊢
    refine (Mean_calls (some ⟨g8, 0, none⟩) 1 [x] w8 (reads_new (l := [x]) K8.out rfl (by show 1 ≤ 100000; decide)) (Nat.le_refl _) (by show 1 ≤ 100000; decide) (fun y hy => by rw [List.mem_singleton.1 hy]; exact HX.out)).mono ?_
    rintro e w9 ⟨a, rfl, h3, b3⟩
    have B9 := Aside0.mk (below_step B8.out b3)
    have M3 := Aside0.mk h3
    clear b3 h3 K8
    have KR := Aside0.mk (kd_range x)
    by_cases fin : 1 ≤ kd x ∧ kd x ≤ 4
    · have MO := mean_one fin HX.out M3.out
      rw [MO.1]
      have o := MO.2
      have k6 : (kd x == 6) = false := beq_eq_false_iff_ne.2 (by omega)
      have k5 : (kd x == 5) = false := beq_eq_false_iff_ne.2 (by omega)
      have k0 : (kd x == 0) = false := beq_eq_false_iff_ne.2 (by omega)
      clear MO fin
      go_wp2_with fail
      refine (Kind_calls x w9 HX.out).mono ?_
      rintro e w_ ⟨rfl, hw_⟩
      rw [hw_]
      clear hw_ w_
      go_wp2_with fail
      refine (fixed_calls w9).mono ?_
      rintro e w10 ⟨rfl, b4⟩
      have B10 := Aside0.mk (below_step B9.out b4)
      clear b4
      go_wp2
      go_ret
      exact ⟨rfl, B10.out⟩
    · have three : kd x = 6 ∨ kd x = 5 ∨ kd x = 0 := by have := KR.out; omega
      have MO := mean_no three M3.out
      rw [MO.1]
      have o := MO.2
      clear MO fin
      rcases three with k | k | k
      all_goals
        have KK := Aside0.mk k
        clear k
        go_wp2_with fail
        refine (Kind_calls x w9 HX.out).mono ?_
        rintro e w_ ⟨rfl, hw_⟩
        rw [hw_]
        clear hw_ w_
        rw [KK.out]
        go_wp2_with fail
        refine (fixed_calls w9).mono ?_
        rintro e w10 ⟨rfl, b4⟩
        have B10 := Aside0.mk (below_step B9.out b4)
        clear b4
        go_wp2
        go_ret
        exact ⟨rfl, B10.out⟩
end Go.Proofs.Ytkkfckfmjhfakaa.Hand
