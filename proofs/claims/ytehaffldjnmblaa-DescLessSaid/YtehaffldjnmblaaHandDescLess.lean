/- The law DescLess: its walk, and its plain law, joined: for every input it returns true and leaves old memory as it was. -/
import Derived.Test.YtehaffldjnmblaaWd
import Derived.Test.YtehaffldjnmblaaPx15
namespace Go.Proofs.Ytehaffldjnmblaa.Hand
open Go Go.RowKit Go.Proofs.Ytehaffldjnmblaa.P Go.Proofs.YtehaffldjnmblaaW.PrintWords Go.Proofs.YtehaffldjnmblaaW.PrintLast Go.Proofs.YtehaffldjnmblaaW.PrintMore Go.Proofs.Ytehaffldjnmblaa.Mth Go.Proofs.Ytehaffldjnmblaa.Wd
set_option linter.unusedVariables false
set_option linter.unusedSimpArgs false
theorem markS_ne {m : Nat} {w u w' u' : Bool} (hm : m < 65536) (h : ¬ (w = w' ∧ (w == u) = (w' == u'))) : markS m w u ≠ markS m w' u' := by
  obtain ⟨p1, p2, p3, p4⟩ := mark_facts m w u hm
  obtain ⟨q1, q2, q3, q4⟩ := mark_facts m w' u' hm
  intro e
  rw [e] at p2 p3
  exact h ⟨p2.symm.trans q2, p3.symm.trans q3⟩
theorem DescLess_pure : aqueductlaw12_DescLess.Pure := by
  intro a w u _
  obtain ⟨m, hm, e⟩ := low16 a
  refine ⟨40, ?_⟩
  unfold aqueductlaw12_DescLess.f
  obtain ⟨p1, p2, p3, p4⟩ := mark_facts m w u hm
  have hM : markS (markS m w u) w u = markS m w u := by
    have : ∀ x, base x = base m → markS x w u = markS m w u := by intro x hx; unfold markS; rw [hx]
    exact this _ p4
  have n1 := markS_ne (m := m) (w := !w) (u := u) (w' := w) (u' := u) hm (by cases w <;> simp)
  have n2 := markS_ne (m := m) (w := w) (u := !u) (w' := w) (u' := u) hm (by cases w <;> cases u <;> simp)
  have i1 : ¬ ((markS m (!w) u : Nat) : Int) = ((markS m w u : Nat) : Int) := by omega
  have i2 : ¬ ((markS m w (!u) : Nat) : Int) = ((markS m w u : Nat) : Int) := by omega
  have i3 : ((markS m w u : Nat) : Int) ≥ 0 := by omega
  have i4 : ((markS m w u : Nat) : Int) ≤ 65535 := by omega
  rw [e, markE m w u hm]
  simp only [Option.bind_some]
  rw [markE _ w u p1, hM, xor_mask m _ hm p1 p4.symm, markE m (!w) u hm, markE m w (!u) hm, fixed12 _ (by omega)]
  simp only [Option.bind_some, if_true, if_neg i1, if_neg i2, if_pos i3, if_pos i4]
theorem DescLess (a0 : Int) (a1 a2 : Bool) (w : World) (w0 : (Lit.int .i64 a0).wf = true) :
    Calls Try.prog 8 #[.int .i64 a0, .bool a1, .bool a2] w fun e w' => e = .returned (.bool true) ∧ Below w.heap.size w w' := aqueductlaw12_DescLess.walk DescLess_pure a0 a1 a2 w w0
end Go.Proofs.Ytehaffldjnmblaa.Hand
