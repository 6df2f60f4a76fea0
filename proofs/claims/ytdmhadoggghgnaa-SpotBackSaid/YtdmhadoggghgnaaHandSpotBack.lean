/- The law SpotBack: its walk, and its plain law, joined: for every input it returns true and leaves old memory as it was. -/
import Derived.Test.YtdmhadoggghgnaaWd
import Derived.Test.YtdmhadoggghgnaaPx22
namespace Go.Proofs.Ytdmhadoggghgnaa.Hand
open Go Go.RowKit Go.Proofs.Ytdmhadoggghgnaa.P Go.Proofs.YtdmhadoggghgnaaW.PrintWords Go.Proofs.YtdmhadoggghgnaaW.PrintLast Go.Proofs.YtdmhadoggghgnaaW.PrintMore Go.Proofs.Ytdmhadoggghgnaa.Mth Go.Proofs.Ytdmhadoggghgnaa.Wd
set_option linter.unusedVariables false
set_option linter.unusedSimpArgs false
theorem SpotBack (off : Int) (ew : Bool) (fl a : Int) (w : Bool) (b : Int) (v : Bool) (n size : Int) (W : World) (h0 : (Lit.int .i64 off).wf = true) (h1 : (Lit.int .i64 fl).wf = true) (h2 : (Lit.int .i64 a).wf = true) (h3 : (Lit.int .i64 b).wf = true) (h4 : (Lit.int .i64 n).wf = true) (h5 : (Lit.int .i64 size).wf = true) :
    Calls Try.prog 6 #[.agg #[.int .i64 off, .bool ew, .int .i64 fl, .int .i64 a, .bool w, .int .i64 b, .bool v, .int .i64 n, .int .i64 size]] W fun e w' => e = .returned (.bool true) ∧ Below W.heap.size W w' := by
  clear h0 h1 h2 h3 h4 h5
  obtain ⟨K, hK⟩ : ∃ K : Nat, 80000 ≤ K := ⟨_, Nat.le_refl _⟩
  refine aqueductlaw13_SpotBack.calls K off ew fl a w b v n size true W ?_ rfl
  unfold aqueductlaw13_SpotBack.f
  obtain ⟨S, s1, s2, hS⟩ := size_of size
  rw [hS]
  clear hS
  rw [w64 (S + 1) (S + 1) rfl (by omega) (by omega)]
  obtain ⟨x, x1, x2, hx⟩ := part_of' a S s1 (by omega)
  obtain ⟨m, m1, m2, hm⟩ := part_of n (S + 1) (by omega) (by omega)
  rw [hx, hm]
  clear hx hm
  rw [w64 (S - m) (S - m) rfl (by omega) (by omega), if_neg (by omega), if_neg (by omega)]
  have ox : okS x S := ⟨s1, s2, x1, x2⟩
  have oa := step_ok w ox m1 (show m ≤ S by omega)
  have ob : stepS (stepS x w m S).1 (stepS x w m S).2 (S - m) S = (x, !w) := by
    rw [step_add w ox m1 (by omega) (by omega), show m + (S - m) = S from by omega, step_size w ox]
  have ox' : okS x S := ox
  rw [next _ _ _ _ _ (by omega), nextS_ok w ox m1 (by omega)]
  simp only [Option.bind_some]
  rw [next _ _ _ _ _ (by omega), nextS_ok _ oa (by omega) (by omega), ob]
  simp only [Option.bind_some]
  rw [next _ _ _ _ _ (by omega), nextS_ok w ox (by omega) (by omega), step_size w ox]
  simp only [Option.bind_some]
  rw [next _ _ _ _ _ (by omega), nextS_ok (!w) ox (by omega) (by omega), step_size (!w) ox]
  simp only [Option.bind_some]
  rw [gap _ _ _ _ _ _ (by omega), gapS_ok _ _ ox oa, gap0_to w ox m1 (by omega), fixed13 _ (by omega)]
  simp
end Go.Proofs.Ytdmhadoggghgnaa.Hand
