/- The law SpotNeeds: its walk, and its plain law, joined: for every input it returns true and leaves old memory as it was. -/
import Derived.Test.YtdmhadoggghgnaaWd
import Derived.Test.YtdmhadoggghgnaaPx21
namespace Go.Proofs.Ytdmhadoggghgnaa.Hand
open Go Go.RowKit Go.Proofs.Ytdmhadoggghgnaa.P Go.Proofs.YtdmhadoggghgnaaW.PrintWords Go.Proofs.YtdmhadoggghgnaaW.PrintLast Go.Proofs.YtdmhadoggghgnaaW.PrintMore Go.Proofs.Ytdmhadoggghgnaa.Mth Go.Proofs.Ytdmhadoggghgnaa.Wd
set_option linter.unusedVariables false
set_option linter.unusedSimpArgs false
theorem SpotNeeds (off : Int) (ew : Bool) (fl a : Int) (w : Bool) (b : Int) (v : Bool) (n size : Int) (W : World) (h0 : (Lit.int .i64 off).wf = true) (h1 : (Lit.int .i64 fl).wf = true) (h2 : (Lit.int .i64 a).wf = true) (h3 : (Lit.int .i64 b).wf = true) (h4 : (Lit.int .i64 n).wf = true) (h5 : (Lit.int .i64 size).wf = true) :
    Calls Try.prog 5 #[.agg #[.int .i64 off, .bool ew, .int .i64 fl, .int .i64 a, .bool w, .int .i64 b, .bool v, .int .i64 n, .int .i64 size]] W fun e w' => e = .returned (.bool true) ∧ Below W.heap.size W w' := by
  clear h0 h1 h2 h3 h4 h5
  obtain ⟨K, hK⟩ : ∃ K : Nat, 80000 ≤ K := ⟨_, Nat.le_refl _⟩
  refine aqueductlaw13_SpotNeeds.calls K off ew fl a w b v n size true W ?_ rfl
  unfold aqueductlaw13_SpotNeeds.f
  rw [fixed13 _ (by omega), need _ _ _ _ _ _ _ _ _ (by omega), rneed _ _ _ _ _ _ _ _ _ (by omega)]
  simp
end Go.Proofs.Ytdmhadoggghgnaa.Hand
