/- The law DescBack: its walk, and its plain law, joined: for every input it returns true and leaves old memory as it was. -/
import Derived.Test.YtehaffldjnmblaaWd
import Derived.Test.YtehaffldjnmblaaPx12
namespace Go.Proofs.Ytehaffldjnmblaa.Hand
open Go Go.RowKit Go.Proofs.Ytehaffldjnmblaa.P Go.Proofs.YtehaffldjnmblaaW.PrintWords Go.Proofs.YtehaffldjnmblaaW.PrintLast Go.Proofs.YtehaffldjnmblaaW.PrintMore Go.Proofs.Ytehaffldjnmblaa.Mth Go.Proofs.Ytehaffldjnmblaa.Wd
set_option linter.unusedVariables false
set_option linter.unusedSimpArgs false
theorem u32_nat {x : Int} (h : (Lit.int .u32 x).wf = true) : ∃ n : Nat, x = (n : Int) ∧ n < 4294967296 := by
  have := bounds_u32 h
  exact ⟨x.toNat, by omega, by omega⟩
theorem u64_nat {x : Int} (h : (Lit.int .u64 x).wf = true) : ∃ n : Nat, x = (n : Int) ∧ n < 18446744073709551616 := by
  have := u64_wf h
  exact ⟨x.toNat, by omega, by omega⟩
theorem back_j0 (s : ByteArray) (hs : s.size ≤ 140737488351232) : ∃ K, ∀ k, K ≤ k → aqueductlaw12_DescBack.j0 k s = some true := by
  obtain ⟨k1, e1⟩ := parse s (by omega)
  simp only at e1
  by_cases c : (parseS (B s)).2.2.2.2 = 0
  · obtain ⟨a, l, i, f, ha, hl, hi0, hi, hf0, hf, hp, hb⟩ := build_parse (B_bt s) c
    obtain ⟨k2, e2⟩ := build a l i f ha hl (by omega) (by omega)
    simp only at e2
    rw [hb] at e2
    rw [hp] at e1
    refine ⟨k1 + k2 + 41, fun k hk => ?_⟩
    obtain ⟨k, rfl⟩ : ∃ m, k = m + 1 := ⟨k - 1, by omega⟩
    simp only [aqueductlaw12_DescBack.j0]
    rw [e1 _ (by omega)]
    simp only [Option.bind_some, if_true]
    rw [e2 _ (by omega)]
    simp only [Option.bind_some, if_true]
    rw [mk_B, if_pos rfl, fixed12 _ (by omega)]; rfl
  · refine ⟨k1 + 41, fun k hk => ?_⟩
    obtain ⟨k, rfl⟩ : ∃ m, k = m + 1 := ⟨k - 1, by omega⟩
    have hn : parseS (B s) = (0, 0, 0, 0, 1) ∧ ¬ s.size = 16 := by
      unfold parseS at c ⊢
      rw [B_length] at c ⊢
      by_cases h : s.size = 16
      · rw [if_pos h] at c; exact absurd rfl c
      · rw [if_neg h]; exact ⟨rfl, h⟩
    have n16 : ¬ (s.size : Int) = 16 := by omega
    rw [hn.1] at e1
    simp only [aqueductlaw12_DescBack.j0]
    rw [e1 _ (by omega), fixed12 _ (by omega)]
    simp [n16]
theorem DescBack (a l i f a' l' i' f' : Int) (s : ByteArray) (w : World) (h0 : (Lit.int .u64 a).wf = true) (h1 : (Lit.int .u32 l).wf = true) (h2 : (Lit.int .i64 i).wf = true) (h3 : (Lit.int .i64 f).wf = true)
    (g0 : (Lit.int .u64 a').wf = true) (g1 : (Lit.int .u32 l').wf = true) (g2 : (Lit.int .i64 i').wf = true) (g3 : (Lit.int .i64 f').wf = true) (hs : s.size ≤ 140737488351232) :
    Calls Try.prog 5 #[.agg #[.int .u64 a, .int .u32 l, .int .i64 i, .int .i64 f], .agg #[.int .u64 a', .int .u32 l', .int .i64 i', .int .i64 f'], .string s] w fun e w' => e = .returned (.bool true) ∧ Below w.heap.size w w' := by
  obtain ⟨a, rfl, ha⟩ := u64_nat h0
  obtain ⟨l, rfl, hl⟩ := u32_nat h1
  obtain ⟨a', rfl, ha'⟩ := u64_nat g0
  obtain ⟨l', rfl, hl'⟩ := u32_nat g1
  have hi := (i64_wf h2).2
  have hf := (i64_wf h3).2
  have hi' := (i64_wf g2).2
  have hf' := (i64_wf g3).2
  clear h0 h1 h2 h3 g0 g1 g2 g3
  obtain ⟨k1, e1⟩ := build a l i f ha hl hi hf
  obtain ⟨k2, e2⟩ := build a' l' i' f' ha' hl' hi' hf'
  obtain ⟨k3, e3⟩ := back_j0 s hs
  have bb := buildS_bt a l i f
  have bb' := buildS_bt a' l' i' f'
  obtain ⟨k4, e4⟩ := parse (mk (buildS a l i f).1) (by
    rw [mk_size]; unfold buildS; split
    · simp [dig_length]
    · simp)
  rw [B_mk bb] at e4
  simp only at e1 e2 e4
  refine aqueductlaw12_DescBack.calls (k1 + k2 + k3 + k4 + 40) (a : Int) (l : Int) i f (a' : Int) (l' : Int) i' f' s true w ?_ rfl
  unfold aqueductlaw12_DescBack.f
  rw [e1 _ (by omega), e2 _ (by omega)]
  simp only [Option.bind_some]
  by_cases c : (buildS a l i f).2 = 0
  · rw [if_pos c, e4 _ (by omega), parse_build ha hl c]
    simp only [Option.bind_some, if_true, beq_self_eq_true, Bool.not_true, Bool.or_false, Bool.false_eq_true, if_false]
    by_cases c' : (buildS a' l' i' f').2 = 0
    · rw [if_pos c']
      have key : (((mk (buildS a l i f).1).toList == (mk (buildS a' l' i' f').1).toList) != ((a : Int) == (a' : Int) && ((l : Int) == (l' : Int) && (i == i' && (f == f'))))) = false := by
        rw [bne_eq_false_iff_eq, Bool.eq_iff_iff]
        simp only [beq_iff_eq, Bool.and_eq_true]
        constructor
        · intro e
          have e := toList_B e
          rw [B_mk bb, B_mk bb'] at e
          have p1 := parse_build ha hl c
          have p2 := parse_build ha' hl' c'
          rw [e, p2] at p1
          simp only [Prod.mk.injEq] at p1
          exact ⟨p1.1.symm, p1.2.1.symm, p1.2.2.1.symm, p1.2.2.2.1.symm⟩
        · rintro ⟨x1, x2, rfl, rfl⟩
          obtain rfl : a = a' := by omega
          obtain rfl : l = l' := by omega
          rfl
      rw [key, if_neg (by decide)]
      exact e3 _ (by omega)
    · rw [if_neg c']
      exact e3 _ (by omega)
  · rw [if_neg c]
    exact e3 _ (by omega)
end Go.Proofs.Ytehaffldjnmblaa.Hand
