/- Floats and the meter: contracts by hand, and the laws over them. -/
import Derived.Test.YtkkfckfmjhfakaaOwn
import Derived.Test.YtkkfckfmjhfakaaSrt
namespace Go.Proofs.Ytkkfckfmjhfakaa.Mt
open Go Go.RowKit Go.Proofs.YtkkfckfmjhfakaaW.PrintWords Go.Proofs.YtkkfckfmjhfakaaW.PrintLast Go.Proofs.YtkkfckfmjhfakaaW.PrintMore Go.Proofs.Ytkkfckfmjhfakaa.Mth Go.Proofs.Ytkkfckfmjhfakaa.Own Go.Proofs
set_option linter.unusedVariables false
set_option linter.unusedSimpArgs false
set_option maxHeartbeats 8000000 in
theorem ins_empty (v : Value) (w : World) : Calls Try.prog 37 #[v, .int .i64 0, .int .i64 0, .func (.func 30) #[] #[]] w fun e w' => e = .returned (.tuple #[]) ∧ w' = w := by
  go_enter Try.func37, Try.ntmps37
  go_wp2_with fail
  go_loopg [8] 1 (fun gk v8 w' => v8 = .int .i64 1 ∧ w' = w)
  case atStart => exact ⟨rfl, rfl⟩
  case round =>
    obtain ⟨rfl, hw⟩ := hrel
    rw [hw]
    clear hw
    go_wp2
    go_end0
    exact ⟨rfl, rfl⟩
set_option maxHeartbeats 8000000 in
theorem stable_small (v : Value) (n : Nat) (w : World) (hn : n < 20) (R : World → Prop)
    (hi : Calls Try.prog 37 #[v, .int .i64 0, .int .i64 (n : Int), .func (.func 30) #[] #[]] w fun e w' => e = .returned (.tuple #[]) ∧ R w') :
    Calls Try.prog 35 #[v, .int .i64 (n : Int), .func (.func 30) #[] #[]] w fun e w' => e = .returned (.tuple #[]) ∧ R w' := by
  have HI := Aside0.mk hi
  clear hi
  have c1 : decide ((20 : Int) ≤ (n : Int)) = false := decide_eq_false (by omega)
  have c2 : decide ((20 : Int) < (n : Int)) = false := decide_eq_false (by omega)
  go_enter Try.func35, Try.ntmps35
  go_wp2_with fail
  go_loopg [7, 8] 1 (fun gk v7 v8 w' => v7 = .int .i64 0 ∧ v8 = .int .i64 20 ∧ w' = w)
  case atStart => exact ⟨rfl, rfl, rfl⟩
  case round =>
    obtain ⟨rfl, rfl, hw⟩ := hrel
    rw [hw]
    clear hw
    go_wp2_with fail
    refine HI.out.mono ?_
    rintro e w1 ⟨rfl, hr⟩
    have HR := Aside0.mk hr
    clear hr
    go_wp2_with fail
    go_loopg [6] 1 (fun gk v6 w' => v6 = .int .i64 20 ∧ w' = w1)
    case atStart => exact ⟨rfl, rfl⟩
    case round =>
      obtain ⟨rfl, hw⟩ := hrel
      rw [hw]
      clear hw
      go_wp2
      go_end0
      exact ⟨rfl, HR.out⟩
theorem ssf_calls (v : Value) (n : Nat) (w : World) (R : World → Prop) (hv : ∃ A c, v = .slice A n c)
    (hi : Calls Try.prog 35 #[v, .int .i64 (n : Int), .func (.func 30) #[] #[]] w fun e w' => e = .returned (.tuple #[]) ∧ R w') :
    Calls Try.prog 29 #[v, .func (.func 30) #[] #[]] w fun e w' => e = .returned (.tuple #[]) ∧ R w' := by
  obtain ⟨A, c, rfl⟩ := hv
  have HI := Aside0.mk hi
  clear hi
  go_enter Try.func29, Try.ntmps29
  go_wp2_with fail
  refine HI.out.mono ?_
  rintro e w1 ⟨rfl, hr⟩
  have HR := Aside0.mk hr
  clear hr
  go_wp2
  go_end0
  exact ⟨rfl, HR.out⟩
theorem infoF : (Try.prog.info? 22).map (fun i => (i.zero, i.size, i.bytes)) = some (some (.float .f64 0), 1, 8) := by kernel_rfl
/-- A row of numbers of its own. -/
abbrev OwnF (base : Nat) (w : World) (A : Option Addr) (c : Nat) (l : List F64) : Prop := w.ownsRow base 22 1 (.slice A l.length c) l.length (encs encF l)
theorem plain_of_cell {w : World} {ad : Addr} {v : Value} (h : w.cell? ad = some v) : ad = ⟨ad.block, ad.off, none⟩ := by
  have : ad.spot = none := by
    unfold World.cell? at h
    split at h
    · split at h
      · cases h
      · next q => simpa using q
    · cases h
  cases ad
  simp at this
  simp [this]
theorem add0 (b o : Nat) : (⟨b, o, none⟩ : Addr).add 0 = ⟨b, o, none⟩ := rfl
theorem addj (b o j : Nat) : (⟨b, o, none⟩ : Addr).add j = ⟨b, o + j, none⟩ := by
  unfold Addr.add
  by_cases h : j = 0
  · simp [h]
  · simp [h]
/-- The cells of a slice that is not empty, at a plain address. -/
theorem reads_plain {α : Type} {enc : α → Value} {d : α} {w : World} {A : Option Addr} {l : List α} (h : ReadsOf enc d w A l.length l) (h0 : 0 < l.length) : ∃ b o, A = some ⟨b, o, none⟩ ∧ ∀ j, j < l.length → w.cell? ⟨b, o + j, none⟩ = some (enc (l.getD j d)) := by
  obtain ⟨ad, rfl, hc⟩ := h.2.2 h0
  have e := plain_of_cell (by simpa [Addr.add] using hc 0 h0)
  refine ⟨ad.block, ad.off, by rw [← e], fun j hj => ?_⟩
  have := hc j hj
  rw [e, addj] at this
  exact this
theorem own_emptyF (w : World) (b : Nat) (hb : b ≤ w.heap.size) : (w.alloc (.cells #[] 22)).ownsRow b 22 1 (.slice (some ⟨w.heap.size, 0, none⟩) 0 0) ([] : List F64).length (encs encF []) :=
  own_lit_of (enc := encF) w b 22 [] hb (by decide)
set_option maxHeartbeats 8000000 in
theorem clone_zero (ad : Addr) (c : Nat) (w : World) : Calls Try.prog 28 #[.slice (some ad) 0 c] w fun e w' => ∃ A' c', e = .returned (.slice A' 0 c') ∧ OwnF w.heap.size w' A' c' [] ∧ Below w.heap.size w w' := by
  have q28 : ∀ (w : World) (a : Option Addr) (n c n' c' : Nat), (binOp .eql 28 (.slice a n c) (.slice none n' c')).run Try.prog w = .ok (.bool a.isNone) w := fun w a n c n' c' => Lib.run_eql_slice_nil w _ _ a n c n' c' Try.underlying28
  go_enter Try.func28, Try.ntmps28
  go_wp2_with (at_builtin; go_loud (refine print_append_row_of (w0 := w) encF default w.heap.size rfl (.tmp 5) (.tmp 6) 28 22 (.float .f64 0) 8 rfl Try.underlying28 infoF rfl (by decide) (fun _ => rfl) (.slice (some ⟨w.heap.size, 0, none⟩) 0 0) [] [] (some ad) 0 c rfl rfl ?c1 ?c2 ?c3 ?c4 ?c5 ?_; (case c1 => exact own_emptyF w w.heap.size (Nat.le_refl _)); (case c2 => exact ⟨rfl, Nat.zero_le _, fun h => absurd h (Nat.lt_irrefl _)⟩); (case c3 => exact below_alloc (Below.refl _ _) _); (case c4 => simp); (case c5 => simp only [List.length_nil]; omega); intro v1 wy ho1 hb1 hg1 hf1; have HO1 := Aside0.mk ho1; have HB1 := Aside0.mk hb1; obtain ⟨A1, c1_, rfl⟩ := own_slice ho1; simp only [List.nil_append] at HO1; clear ho1 hb1 hg1 hf1))
  go_ret
  exact ⟨A1, c1_, rfl, HO1.out, HB1.out⟩
theorem clone_calls (A : Option Addr) (c : Nat) (l : List F64) (w : World) (hr : ReadsOf encF default w A l.length l) (hb : l.length ≤ 1000000) :
    Calls Try.prog 28 #[.slice A l.length c] w fun e w' => ∃ A' c', e = .returned (.slice A' l.length c') ∧ OwnF w.heap.size w' A' c' l ∧ Below w.heap.size w w' := by
  obtain ⟨i0, hi, hz⟩ := Option.map_eq_some_iff.1 infoF
  simp only [Prod.mk.injEq] at hz
  obtain ⟨z0, z1, z2⟩ := hz
  cases A with
  | none =>
    have h0 : l.length = 0 := by
      rcases Nat.eq_zero_or_pos l.length with h | h
      · exact h
      · obtain ⟨_, h, _⟩ := hr.2.2 h; cases h
    obtain rfl := List.eq_nil_of_length_eq_zero h0
    refine (Try.slices_Clone_nil 0 c w).mono ?_
    rintro e w' ⟨rfl, rfl⟩
    exact ⟨none, 0, rfl, own_nil _ _ _ _, Below.refl _ _⟩
  | some ad =>
    have hne : ∀ b off, ad = ⟨b, off, none⟩ → Calls Try.prog 28 #[.slice (some ad) l.length c] w fun e w' => ∃ A' c', e = .returned (.slice A' l.length c') ∧ OwnF w.heap.size w' A' c' l ∧ Below w.heap.size w w' := by
      intro b off e
      subst e
      refine (Try.slices_Clone i0 (.float .f64 0) 1 8 hi z0 z1 z2 rfl (by decide) Try.sizeOf22 b off l.length c (l.map encF) w (by rw [List.length_map]; omega) (by unfold maxLen; omega) (by omega) ?_ ?_).mono ?_
      · intro j u hj
        rw [List.getElem?_map] at hj
        obtain ⟨x, hx, rfl⟩ := Option.map_eq_some_iff.1 hj
        have hjl := (List.getElem?_eq_some_iff.1 hx).1
        obtain ⟨ad2, h2, hc⟩ := hr.2.2 (by omega)
        have := hc j hjl
        injection h2 with h2
        subst h2
        rw [show (⟨b, off, none⟩ : Addr).add j = ⟨b, off + j, none⟩ by simp [Addr.add]] at this
        rw [this, List.getD_eq_getElem?_getD, hx]; rfl
      · intro u hu
        obtain ⟨x, _, rfl⟩ := List.mem_map.1 hu
        rfl
      · rintro e w' ⟨v', rfl, ho, -, hb'⟩
        obtain ⟨A', c', rfl⟩ := own_slice ho
        exact ⟨A', c', rfl, ho, hb'⟩
    rcases Nat.eq_zero_or_pos l.length with h0 | h0
    · obtain rfl := List.eq_nil_of_length_eq_zero h0
      exact clone_zero ad c w
    · obtain ⟨b, o, e, hc⟩ := reads_plain hr h0
      exact hne b o (by injection e)
theorem sorted_list {l l' : List F64} (hp : Go.Sort.PermIn 0 l.length l.toArray l'.toArray) (hs : Go.Sort.SortedIn ltF 0 l.length l'.toArray) : l'.length = l.length ∧ l'.Perm l ∧ l'.Pairwise (fun x y => ltF y x = false) := by
  have h1 : l'.length = l.length := by simpa using hp.1
  refine ⟨h1, ?_, ?_⟩
  · have := hp.2.2
    rw [Array.extract_eq_self_of_le (by rw [List.size_toArray]; omega), Array.extract_eq_self_of_le (by rw [List.size_toArray]; omega)] at this
    simpa using this
  · rw [List.pairwise_iff_getElem]
    intro i j hi hj hij
    have := hs i j (Nat.zero_le _) hij (by omega)
    simpa [getElem!_pos, hi, hj] using this
theorem Sort_calls (A : Option Addr) (c : Nat) (l : List F64) (w : World) (hr : ReadsOf encF default w A l.length l) (hb : l.length < 20) :
    Calls Try.prog 15 #[.slice A l.length c] w fun e w' => ∃ A' c' l', e = .returned (.slice A' l.length c') ∧ l'.length = l.length ∧ OwnF w.heap.size w' A' c' l' ∧ l'.Perm l ∧ l'.Pairwise (fun x y => ltF y x = false) ∧ Below w.heap.size w w' := by
  have HR := Aside0.mk hr
  clear hr
  go_enter Try.func15, Try.ntmps15
  go_wp2_with fail
  refine (clone_calls A c l w HR.out (by omega)).mono ?_
  rintro e w1 ⟨A1, c1, rfl, ho, hb1⟩
  have HO := Aside0.mk ho
  have B1 := Aside0.mk hb1
  clear ho hb1
  go_wp2_with fail
  have key : Calls Try.prog 37 #[.slice A1 l.length c1, .int .i64 0, .int .i64 (l.length : Int), .func (.func 30) #[] #[]] w1 fun e w' => e = .returned (.tuple #[]) ∧ ∃ l' : List F64, l'.length = l.length ∧ OwnF w.heap.size w' A1 c1 l' ∧ l'.Perm l ∧ l'.Pairwise (fun x y => ltF y x = false) ∧ Below w.heap.size w w' := by
    rcases Nat.eq_zero_or_pos l.length with h0 | h0
    · obtain rfl := List.eq_nil_of_length_eq_zero h0
      refine (ins_empty _ w1).mono ?_
      rintro e w' ⟨rfl, rfl⟩
      exact ⟨rfl, [], rfl, HO.out, List.Perm.refl _, List.Pairwise.nil, B1.out⟩
    · obtain ⟨g, cap, hv, hg, hlt, hn, hm, -, hH⟩ := Go.Lib.holds_of_ownsRow (zs := l) HO.out (by
        rcases HO.out.2 with ⟨_, h⟩ | ⟨g, _, _, h, _⟩
        · omega
        · rw [h]; intro q; cases q)
      injection hv with hA _ hc
      subst hA hc
      have C := ins_calls g 0 c1 0 l.length l.toArray w1 hH (Nat.zero_le _) (by simp) (by simp; omega)
      simp only [List.size_toArray] at C
      refine C.mono ?_
      rintro e w' ⟨rfl, q, rfl⟩
      have S := Go.Sort.insertionSort_holds ltF_swo l.toArray 0 l.length (Nat.zero_le _) (by simp)
      obtain ⟨l', hl'⟩ : ∃ l' : List F64, Go.Sort.insertionSort ltF l.toArray 0 l.length = l'.toArray := ⟨(Go.Sort.insertionSort ltF l.toArray 0 l.length).toList, by simp⟩
      rw [hl'] at S
      rw [hl']
      obtain ⟨e1, e2, e3⟩ := sorted_list S.1 S.2
      have o := Go.Lib.ownsRow_putRow (q := 0) (k := l.length) (ys := l') HO.out e1 (Nat.le_refl _)
      rw [List.take_of_length_le (by omega)] at o
      refine ⟨rfl, l', e1, ?_, e2, e3, ?_⟩
      · show World.ownsRow _ _ _ _ (.slice _ l'.length _) l'.length _
        rw [e1]
        exact pw_own_drewN o q
      · exact pw_below_drewN (Go.Lib.below_putRow (q := 0) B1.out hg) q
  refine (ssf_calls _ l.length w1 _ ⟨_, _, rfl⟩ (stable_small _ l.length w1 hb _ key)).mono ?_
  rintro e w2 ⟨rfl, l', h1, h2, h3, h4, h5⟩
  have K := Aside0.mk (And.intro h1 (And.intro h2 (And.intro h3 (And.intro h4 h5))))
  clear h1 h2 h3 h4 h5
  go_wp2
  go_ret
  exact ⟨A1, c1, l', rfl, K.out⟩
/-! ### Top -/
def topN (l : List F64) : Nat → Int
  | 0 => -1
  | i + 1 => if topN l i < 0 ∨ lessB (l.getD (topN l i).toNat default).1 (l.getD i default).1 = true then (i : Int) else topN l i
theorem topN_lt (l : List F64) : ∀ i, -1 ≤ topN l i ∧ topN l i < i
  | 0 => by unfold topN; omega
  | i + 1 => by
    have := topN_lt l i
    unfold topN
    split <;> omega
theorem better_calls (x y : F64) (w : World) : Calls Try.prog 32 #[encF x, encF y] w fun e w' => e = .returned (.bool (lessB y.1 x.1)) ∧ w' = w := by
  obtain ⟨a, ha⟩ := x
  obtain ⟨b, hb⟩ := y
  have HA := Aside0.mk ha
  have HB := Aside0.mk hb
  show Calls Try.prog 32 #[.float .f64 a, .float .f64 b] w fun e w' => e = .returned (.bool (lessB b a)) ∧ w' = w
  clear ha hb
  go_enter Try.func32, Try.ntmps32
  go_wp2_with fail
  refine (Less_calls b a w HB.out HA.out).mono ?_
  rintro e w_ ⟨rfl, hw_⟩
  rw [hw_]
  clear hw_ w_
  go_wp2
  go_ret
  exact ⟨rfl, rfl⟩
set_option maxHeartbeats 8000000 in
theorem best_calls (A : Option Addr) (c : Nat) (l : List F64) (w : World) (hr : ReadsOf encF default w A l.length l) (hb : l.length ≤ 100000) :
    Calls Try.prog 31 #[.slice A l.length c, .func (.func 32) #[] #[]] w fun e w' => e = .returned (.int .i64 (topN l l.length)) ∧ w' = w := by
  have HRD := Aside0.mk hr
  clear hr
  go_enter Try.func31, Try.ntmps31
  go_wp2_with fail
  go_loopg [5, 10] l.length (fun gk v5 v10 w' => ∃ i : Nat, v10 = .int .i64 (i : Int) ∧ v5 = .int .i64 (topN l i) ∧ Aside0 (i + gk = l.length) ∧ w' = w)
  case atStart => exact ⟨0, rfl, rfl, ⟨by omega⟩, rfl⟩
  case round =>
    obtain ⟨i, rfl, rfl, hk, hw⟩ := hrel
    rw [hw]
    clear hw
    have hkk := hk.out
    have wi : IntKind.i64.wrap ((i : Int) + 1) = ((i + 1 : Nat) : Int) := by rw [IntKind.wrap_i64]; omega
    by_cases hi : i < l.length
    · have c1 : decide ((i : Int) < (l.length : Int)) = true := decide_eq_true (by omega)
      have i0 : decide (0 ≤ (i : Int)) = true := decide_eq_true (by omega)
      obtain ⟨ad, hA, hcell⟩ := HRD.out.2.2 (by omega)
      subst hA
      have HCELL := Aside0.mk hcell
      have hx : w.cell? (ad.add i) = some (encF (l.getD i default)) := hcell i hi
      clear hcell
      have hT : topN l (i + 1) = if topN l i < 0 ∨ lessB (l.getD (topN l i).toNat default).1 (l.getD i default).1 = true then (i : Int) else topN l i := by rw [topN]
      have TB := topN_lt l i
      obtain ⟨x, hxe⟩ : ∃ x, l.getD i default = x := ⟨_, rfl⟩
      obtain ⟨t, hte⟩ : ∃ t, topN l i = t := ⟨_, rfl⟩
      rw [hxe] at hx hT
      rw [hte] at hT TB
      rw [hte]
      have HT := Aside0.mk hT
      clear hT hte hxe
      obtain ⟨ki, rfl⟩ : ∃ m, gk = m + 1 := ⟨gk - 1, by omega⟩
      by_cases ht : t < 0
      · have d1 : decide (t < 0) = true := decide_eq_true ht
        go_wp2_with fail
        try rw [wi]
        go_roundg ki
        case measure => omega
        case rel => exact ⟨i + 1, rfl, by rw [HT.out, if_pos (.inl ht)], ⟨by omega⟩, rfl⟩
      · have d1 : decide (t < 0) = false := decide_eq_false ht
        obtain ⟨j, rfl⟩ : ∃ j : Nat, t = (j : Int) := ⟨t.toNat, by omega⟩
        have hj : j < l.length := by omega
        have hy : w.cell? (ad.add j) = some (encF (l.getD j default)) := HCELL.out j hj
        rw [Int.toNat_natCast] at HT
        obtain ⟨y, hye⟩ : ∃ y, l.getD j default = y := ⟨_, rfl⟩
        rw [hye] at hy HT
        have j0 : decide (0 ≤ (j : Int)) = true := decide_eq_true (by omega)
        have j1 : decide ((j : Int) < (l.length : Int)) = true := decide_eq_true (by omega)
        clear hye
        go_wp2_with fail
        refine (better_calls x y w).mono ?_
        rintro e w_ ⟨rfl, hw_⟩
        rw [hw_]
        clear hw_ w_
        cases hq : lessB y.1 x.1 with
        | true =>
          go_wp2_with fail
          try rw [wi]
          go_roundg ki
          case measure => omega
          case rel => exact ⟨i + 1, rfl, by rw [HT.out, if_pos (.inr hq)], ⟨by omega⟩, rfl⟩
        | false =>
          go_wp2_with fail
          try rw [wi]
          go_roundg ki
          case measure => omega
          case rel => exact ⟨i + 1, rfl, by rw [HT.out, if_neg (by rw [hq]; rintro (h | h); omega; cases h)], ⟨by omega⟩, rfl⟩
    · have c1 : decide ((i : Int) < (l.length : Int)) = false := decide_eq_false (by omega)
      have hi' : i = l.length := by omega
      rw [hi']
      rw [hi'] at c1
      go_wp2
      go_ret
      exact ⟨rfl, rfl⟩
theorem Top_calls (A : Option Addr) (c : Nat) (l : List F64) (w : World) (hr : ReadsOf encF default w A l.length l) (hb : l.length ≤ 100000) :
    Calls Try.prog 20 #[.slice A l.length c] w fun e w' => e = .returned (.int .i64 (topN l l.length)) ∧ w' = w := by
  have HR := Aside0.mk hr
  clear hr
  go_enter Try.func20, Try.ntmps20
  go_wp2_with fail
  refine (best_calls A c l w HR.out hb).mono ?_
  rintro e w_ ⟨rfl, hw_⟩
  rw [hw_]
  clear hw_ w_
  go_wp2
  go_ret
  exact ⟨rfl, rfl⟩
end Go.Proofs.Ytkkfckfmjhfakaa.Mt
