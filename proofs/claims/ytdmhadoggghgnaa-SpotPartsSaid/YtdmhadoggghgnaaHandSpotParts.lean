/- The law SpotParts: its walk, and its plain law, joined: for every input it returns true and leaves old memory as it was. -/
import Derived.Test.YtdmhadoggghgnaaWd
import Derived.Test.YtdmhadoggghgnaaPx23
namespace Go.Proofs.Ytdmhadoggghgnaa.Hand
open Go Go.RowKit Go.Proofs.Ytdmhadoggghgnaa.P Go.Proofs.YtdmhadoggghgnaaW.PrintWords Go.Proofs.YtdmhadoggghgnaaW.PrintLast Go.Proofs.YtdmhadoggghgnaaW.PrintMore Go.Proofs.Ytdmhadoggghgnaa.Mth Go.Proofs.Ytdmhadoggghgnaa.Wd
set_option linter.unusedVariables false
set_option linter.unusedSimpArgs false
theorem SpotParts (off : Int) (ew : Bool) (fl a : Int) (w : Bool) (b : Int) (v : Bool) (n size : Int) (W : World) (h0 : (Lit.int .i64 off).wf = true) (h1 : (Lit.int .i64 fl).wf = true) (h2 : (Lit.int .i64 a).wf = true) (h3 : (Lit.int .i64 b).wf = true) (h4 : (Lit.int .i64 n).wf = true) (h5 : (Lit.int .i64 size).wf = true) :
    Calls Try.prog 7 #[.agg #[.int .i64 off, .bool ew, .int .i64 fl, .int .i64 a, .bool w, .int .i64 b, .bool v, .int .i64 n, .int .i64 size]] W fun e w' => e = .returned (.bool true) ∧ Below W.heap.size W w' := by
  clear h0 h1 h2 h3 h4 h5
  obtain ⟨K, hK⟩ : ∃ K : Nat, 80000 ≤ K := ⟨_, Nat.le_refl _⟩
  refine aqueductlaw13_SpotParts.calls K off ew fl a w b v n size true W ?_ rfl
  unfold aqueductlaw13_SpotParts.f
  obtain ⟨S, s1, s2, hS⟩ := size_of size
  rw [hS]
  clear hS
  rw [w64 (S + 1) (S + 1) rfl (by omega) (by omega)]
  obtain ⟨x, x1, x2, hx⟩ := part_of' a S s1 (by omega)
  obtain ⟨z, z1, z2, hz⟩ := part_of' off S s1 (by omega)
  obtain ⟨m, m1, m2, hm⟩ := part_of n (S + 1) (by omega) (by omega)
  rw [hx, hm, hz]
  clear hx hm hz
  rw [w64 (S - m) (S - m) rfl (by omega) (by omega), w64 (S - m + 1) (S - m + 1) rfl (by omega) (by omega)]
  obtain ⟨j, j1, j2, hj⟩ := part_of b (S - m + 1) (by omega) (by omega)
  rw [hj]
  clear hj
  rw [if_neg (by omega), if_neg (by omega), if_neg (by omega)]
  have ox : okS x S := ⟨s1, s2, x1, x2⟩
  have oz : okS z S := ⟨s1, s2, z1, z2⟩
  have oa := step_ok w ox m1 (show m ≤ S by omega)
  have ob := step_ok (stepS x w m S).2 oa j1 (show j ≤ S by omega)
  rw [next _ _ _ _ _ (by omega), nextS_ok w ox m1 (by omega)]
  simp only [Option.bind_some]
  rw [next _ _ _ _ _ (by omega), nextS_ok _ oa j1 (by omega)]
  simp only [Option.bind_some, if_true]
  obtain ⟨K, rfl⟩ : ∃ m, K = m + 1 := ⟨K - 1, by omega⟩
  simp only [aqueductlaw13_SpotParts.j0]
  rw [if_neg (by decide)]
  have ga := gap0_to w ox m1 (show m ≤ S by omega)
  have gab := gap0_to (stepS x w m S).2 oa j1 (show j ≤ S by omega)
  have gb := gap0_to w ox (show 0 ≤ m + j by omega) (show m + j ≤ S by omega)
  rw [← step_add w ox m1 j1 (by omega)] at gb
  have gz := gap0_bd w ew ox oz
  have ge : (m ≤ gap0 x w z ew S ∧ gap0 (stepS x w m S).1 (stepS x w m S).2 z ew S = gap0 x w z ew S - m) ∨ (gap0 x w z ew S < m ∧ gap0 (stepS x w m S).1 (stepS x w m S).2 z ew S = gap0 x w z ew S - m + 2 * S) := by
    by_cases c : m ≤ gap0 x w z ew S
    · exact .inl ⟨c, gap0_step ox oz m1 (by omega) c⟩
    · exact .inr ⟨by omega, gap0_past ox oz m1 (by omega) (by omega)⟩
  have g0 : gap0 x w x w S = 0 := (gap0_zero ox ox).2 ⟨rfl, rfl⟩
  rw [need _ _ _ _ _ _ _ _ _ (by omega), need _ _ _ _ _ _ _ _ _ (by omega), need _ _ _ _ _ _ _ _ _ (by omega), need _ _ _ _ _ _ _ _ _ (by omega), fixed13 _ (by omega)]
  rw [needS_ok ox ob oz (by omega), needS_ok ox oa oz (by omega), needS_ok oa ob oz (by omega), needS_ok ox ox oz (by omega), ga, gab, gb, g0]
  generalize gap0 (stepS x w m S).1 (stepS x w m S).2 z ew S = G at *
  generalize gap0 x w z ew S = H at *
  simp only [Option.bind_some]
  by_cases f0 : fl = 0
  · simp only [if_pos f0]
    rw [decide_eq_false (p := (0 : Int) < 0) (by omega)]
    by_cases c : 0 < m
    · rw [decide_eq_true c, decide_eq_true (p := 0 < m + j) (by omega)]; rfl
    · rw [decide_eq_false c, show decide (0 < m + j) = decide (0 < j) from by rw [decide_eq_decide]; omega]; simp
  · simp only [if_neg f0]
    by_cases f2 : fl = 2
    · simp only [if_pos f2]
      rw [decide_eq_false (p := H < 0) (by omega)]
      by_cases c : H < m
      · rw [decide_eq_true c, decide_eq_true (p := H < m + j) (by omega)]; rfl
      · rw [decide_eq_false c, show decide (H < m + j) = decide (G < j) from by rw [decide_eq_decide]; omega]; simp
    · simp only [if_neg f2]; rfl
end Go.Proofs.Ytdmhadoggghgnaa.Hand
