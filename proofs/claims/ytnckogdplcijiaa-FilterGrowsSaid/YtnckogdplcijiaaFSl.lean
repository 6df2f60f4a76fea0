/- Filters: contracts by hand, and the laws over them. -/
import Derived.Test.YtnckogdplcijiaaOwn
import Derived.Test.YtnckogdplcijiaaFV
namespace Go.Proofs.Ytnckogdplcijiaa.Fl
open Go Go.RowKit Go.Proofs.YtnckogdplcijiaaW.PrintWords Go.Proofs.YtnckogdplcijiaaW.PrintLast Go.Proofs.YtnckogdplcijiaaW.PrintMore Go.Proofs.Ytnckogdplcijiaa.Mth Go.Proofs.Ytnckogdplcijiaa.P Go.Proofs.Ytnckogdplcijiaa.Own Go.Proofs
set_option linter.unusedVariables false
set_option linter.unusedSimpArgs false
/-! ### Networks as the document has them -/
theorem sorted_ext : ∀ {l1 l2 : List Int}, l1.Pairwise (· < ·) → l2.Pairwise (· < ·) → (∀ x, x ∈ l1 ↔ x ∈ l2) → l1 = l2
  | [], [], _, _, _ => rfl
  | [], b :: r, _, _, h => absurd ((h b).2 (by simp)) (by simp)
  | a :: r, [], _, _, h => absurd ((h a).1 (by simp)) (by simp)
  | a :: r, b :: s, h1, h2, h => by
    obtain ⟨k1, k2⟩ := List.pairwise_cons.1 h1
    obtain ⟨m1, m2⟩ := List.pairwise_cons.1 h2
    have e : a = b := by
      rcases List.mem_cons.1 ((h a).1 (by simp)) with q | q
      · exact q
      · rcases List.mem_cons.1 ((h b).2 (by simp)) with p | p
        · exact p.symm
        · have := m1 a q; have := k1 b p; omega
    subst e
    rw [sorted_ext k2 m2 fun x => by
      constructor
      · intro hx
        rcases List.mem_cons.1 ((h x).1 (List.mem_cons_of_mem _ hx)) with q | q
        · have := k1 x hx; omega
        · exact q
      · intro hx
        rcases List.mem_cons.1 ((h x).2 (List.mem_cons_of_mem _ hx)) with q | q
        · have := m1 x hx; omega
        · exact q]
def keepS (vs : List Int) (n : Int) (is : Bool) (i : Nat) : Bool := ((i : Int) == n && is) || (!((i : Int) == n) && vs.contains (i : Int))
def setL (vs : List Int) (n : Int) (is : Bool) (k : Nat) : List Int := ((List.range k).filter (keepS vs n is)).map fun (i : Nat) => (i : Int)
theorem setL_yes {vs : List Int} {n : Int} {is : Bool} {k : Nat} (h : keepS vs n is k = true) : setL vs n is (k + 1) = setL vs n is k ++ [(k : Int)] := by
  unfold setL
  rw [List.range_succ, List.filter_append, List.map_append]
  simp [h]
theorem setL_no {vs : List Int} {n : Int} {is : Bool} {k : Nat} (h : keepS vs n is k = false) : setL vs n is (k + 1) = setL vs n is k := by
  unfold setL
  rw [List.range_succ, List.filter_append, List.map_append]
  simp [h]
theorem setL_len (vs : List Int) (n : Int) (is : Bool) (k : Nat) : (setL vs n is k).length ≤ k := by
  unfold setL
  rw [List.length_map]
  exact Nat.le_trans (List.length_filter_le _ _) (by rw [List.length_range]; exact Nat.le_refl _)
theorem setL_rise (vs : List Int) (n : Int) (is : Bool) : ∀ k, (setL vs n is k).Pairwise (· < ·) ∧ ∀ x ∈ setL vs n is k, x < (k : Int)
  | 0 => ⟨.nil, by simp [setL]⟩
  | k + 1 => by
    obtain ⟨h1, h2⟩ := setL_rise vs n is k
    cases hk : keepS vs n is k with
    | false =>
      rw [setL_no hk]
      exact ⟨h1, fun x hx => by have := h2 x hx; omega⟩
    | true =>
      rw [setL_yes hk]
      refine ⟨List.pairwise_append.2 ⟨h1, by simp, fun a ha b hb => ?_⟩, fun x hx => ?_⟩
      · rw [List.mem_singleton.1 hb]; exact h2 a ha
      · rcases List.mem_append.1 hx with q | q
        · have := h2 x q; omega
        · rw [List.mem_singleton.1 q]; omega
theorem setL_mem {vs : List Int} {n : Int} {is : Bool} {k : Nat} {x : Int} : x ∈ setL vs n is k ↔ 0 ≤ x ∧ x < (k : Int) ∧ keepS vs n is x.toNat = true := by
  unfold setL
  simp only [List.mem_map, List.mem_filter, List.mem_range]
  constructor
  · rintro ⟨i, ⟨h1, h2⟩, rfl⟩
    exact ⟨by omega, by omega, by simpa using h2⟩
  · rintro ⟨h1, h2, h3⟩
    exact ⟨x.toNat, ⟨by omega, h3⟩, by omega⟩
theorem ins_mem {n x : Int} : ∀ {l : List Int}, x ∈ insS n l ↔ x = n ∨ x ∈ l
  | [] => by simp [insS]
  | a :: r => by
    unfold insS
    by_cases h1 : a < n
    · rw [if_pos h1, List.mem_cons, ins_mem (l := r), List.mem_cons]
      constructor
      · rintro (h | h | h)
        · exact .inr (.inl h)
        · exact .inl h
        · exact .inr (.inr h)
      · rintro (h | h | h)
        · exact .inr (.inl h)
        · exact .inl h
        · exact .inr (.inr h)
    · rw [if_neg h1]
      by_cases h2 : a = n
      · rw [if_pos h2, List.mem_cons, h2]
        constructor
        · rintro (h | h)
          · exact .inl h
          · exact .inr (.inr h)
        · rintro (h | h | h)
          · exact .inl h
          · exact .inl h
          · exact .inr h
      · rw [if_neg h2, List.mem_cons]
theorem ins_rise {n : Int} : ∀ {l : List Int}, l.Pairwise (· < ·) → (insS n l).Pairwise (· < ·)
  | [], _ => by simp [insS]
  | a :: r, h => by
    obtain ⟨k1, k2⟩ := List.pairwise_cons.1 h
    unfold insS
    by_cases h1 : a < n
    · rw [if_pos h1]
      refine List.pairwise_cons.2 ⟨fun x hx => ?_, ins_rise k2⟩
      rcases ins_mem.1 hx with q | q
      · omega
      · exact k1 x q
    · rw [if_neg h1]
      by_cases h2 : a = n
      · rw [if_pos h2]; exact h
      · rw [if_neg h2]
        refine List.pairwise_cons.2 ⟨fun x hx => ?_, h⟩
        rcases List.mem_cons.1 hx with q | q
        · omega
        · have := k1 x q; omega
theorem del_mem {n x : Int} {l : List Int} : x ∈ delS n l ↔ x ∈ l ∧ x ≠ n := by
  unfold delS
  rw [List.mem_filter]
  simp
theorem set_ins {vs : List Int} {n : Int} (h : argS vs n = true) : setL vs n true 4095 = insS n vs := by
  unfold argS at h
  simp only [Bool.and_eq_true, decide_eq_true_eq] at h
  obtain ⟨h1, h2⟩ := nets_iff.1 h.2
  refine sorted_ext (setL_rise _ _ _ _).1 (ins_rise h1) fun x => ?_
  rw [setL_mem, ins_mem]
  constructor
  · rintro ⟨a, b, c⟩
    unfold keepS at c
    rw [Int.toNat_of_nonneg a] at c
    by_cases e : x = n
    · exact .inl e
    · rw [show (x == n) = false from beq_eq_false_iff_ne.2 e] at c
      exact .inr (by simpa using c)
  · intro hx
    have hb : 0 ≤ x ∧ x ≤ 4094 := by
      rcases hx with q | q
      · omega
      · exact h2 x q
    refine ⟨hb.1, by omega, ?_⟩
    unfold keepS
    rw [Int.toNat_of_nonneg hb.1]
    by_cases e : x = n
    · rw [show (x == n) = true from beq_iff_eq.2 e]; rfl
    · rw [show (x == n) = false from beq_eq_false_iff_ne.2 e]
      rcases hx with q | q
      · exact absurd q e
      · simpa using q
theorem set_del {vs : List Int} {n : Int} (h : argS vs n = true) : setL vs n false 4095 = delS n vs := by
  unfold argS at h
  simp only [Bool.and_eq_true, decide_eq_true_eq] at h
  obtain ⟨h1, h2⟩ := nets_iff.1 h.2
  refine sorted_ext (setL_rise _ _ _ _).1 (h1.filter _) fun x => ?_
  rw [setL_mem, del_mem]
  constructor
  · rintro ⟨a, b, c⟩
    unfold keepS at c
    rw [Int.toNat_of_nonneg a] at c
    by_cases e : x = n
    · rw [show (x == n) = true from beq_iff_eq.2 e] at c
      simp at c
    · rw [show (x == n) = false from beq_eq_false_iff_ne.2 e] at c
      exact ⟨by simpa using c, e⟩
  · rintro ⟨hx, e⟩
    have hb := h2 x hx
    refine ⟨hb.1, by omega, ?_⟩
    unfold keepS
    rw [Int.toNat_of_nonneg hb.1, show (x == n) = false from beq_eq_false_iff_ne.2 e]
    simpa using hx
end Go.Proofs.Ytnckogdplcijiaa.Fl
