/- The law DescMarks: its walk, and its plain law, joined: for every input it returns true and leaves old memory as it was. -/
import Derived.Test.YtehaffldjnmblaaWd
import Derived.Test.YtehaffldjnmblaaPx11
namespace Go.Proofs.Ytehaffldjnmblaa.Hand
open Go Go.RowKit Go.Proofs.Ytehaffldjnmblaa.P Go.Proofs.YtehaffldjnmblaaW.PrintWords Go.Proofs.YtehaffldjnmblaaW.PrintLast Go.Proofs.YtehaffldjnmblaaW.PrintMore Go.Proofs.Ytehaffldjnmblaa.Mth Go.Proofs.Ytehaffldjnmblaa.Wd
set_option linter.unusedVariables false
set_option linter.unusedSimpArgs false
theorem DescMarks_pure : aqueductlaw12_DescMarks.Pure := by
  intro a w u _
  obtain ⟨m, hm, e⟩ := low16 a
  refine ⟨40, ?_⟩
  unfold aqueductlaw12_DescMarks.f
  rw [e, fixed12 _ (by omega), avail m w hm _ (by omega), ravail m w hm, used m w hm _ (by omega), rused m w hm, markE m w u hm, rmark m w u hm]
  simp
theorem DescMarks (a0 : Int) (a1 a2 : Bool) (w : World) (w0 : (Lit.int .i64 a0).wf = true) :
    Calls Try.prog 4 #[.int .i64 a0, .bool a1, .bool a2] w fun e w' => e = .returned (.bool true) ∧ Below w.heap.size w w' := aqueductlaw12_DescMarks.walk DescMarks_pure a0 a1 a2 w w0
end Go.Proofs.Ytehaffldjnmblaa.Hand
