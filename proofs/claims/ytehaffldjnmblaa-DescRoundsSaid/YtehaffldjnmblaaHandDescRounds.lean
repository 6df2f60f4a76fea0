/- The law DescRounds: its walk, and its plain law, joined: for every input it returns true and leaves old memory as it was. -/
import Derived.Test.YtehaffldjnmblaaWd
import Derived.Test.YtehaffldjnmblaaPx13
namespace Go.Proofs.Ytehaffldjnmblaa.Hand
open Go Go.RowKit Go.Proofs.Ytehaffldjnmblaa.P Go.Proofs.YtehaffldjnmblaaW.PrintWords Go.Proofs.YtehaffldjnmblaaW.PrintLast Go.Proofs.YtehaffldjnmblaaW.PrintMore Go.Proofs.Ytehaffldjnmblaa.Mth Go.Proofs.Ytehaffldjnmblaa.Wd
set_option linter.unusedVariables false
set_option linter.unusedSimpArgs false
theorem DescRounds_pure : aqueductlaw12_DescRounds.Pure := by
  intro a w _
  obtain ⟨m, hm, e⟩ := low16 a
  refine ⟨40, ?_⟩
  unfold aqueductlaw12_DescRounds.f
  obtain ⟨p1, p2, p3, p4⟩ := mark_facts m w false hm
  obtain ⟨q1, q2, q3, q4⟩ := mark_facts m w true hm
  have hM : markS (markS m w false) w true = markS m w true := by
    unfold markS
    rw [show base (base m + (if w = true then 128 else 0) + if (w == false) = true then 32768 else 0) = base m from p4]
  rw [e, markE m w false hm, markE m w true hm, fixed12 _ (by omega)]
  simp only [Option.bind_some, if_true]
  rw [avail _ w p1 _ (by omega), used _ w p1 _ (by omega), used _ w q1 _ (by omega), avail _ w q1 _ (by omega), avail _ (!w) q1 _ (by omega), used _ (!w) p1 _ (by omega), avail _ (!w) p1 _ (by omega), used _ (!w) q1 _ (by omega),
    and_other _ p1, and_other _ q1, and_other _ hm, p4, q4, markE _ w true p1, hM]
  unfold availS usedS
  rw [p2, p3, q2, q3]
  simp only [Option.bind_some, if_true]
  cases w <;> simp
theorem DescRounds (a0 : Int) (a1 : Bool) (w : World) (w0 : (Lit.int .i64 a0).wf = true) :
    Calls Try.prog 6 #[.int .i64 a0, .bool a1] w fun e w' => e = .returned (.bool true) ∧ Below w.heap.size w w' := aqueductlaw12_DescRounds.walk DescRounds_pure a0 a1 w w0
end Go.Proofs.Ytehaffldjnmblaa.Hand
