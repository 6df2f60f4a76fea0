/- The law DescParses: its walk, and its plain law, joined: for every input it returns true and leaves old memory as it was. -/
import Derived.Test.YtehaffldjnmblaaWd
import Derived.Test.YtehaffldjnmblaaPx10
namespace Go.Proofs.Ytehaffldjnmblaa.Hand
open Go Go.RowKit Go.Proofs.Ytehaffldjnmblaa.P Go.Proofs.YtehaffldjnmblaaW.PrintWords Go.Proofs.YtehaffldjnmblaaW.PrintLast Go.Proofs.YtehaffldjnmblaaW.PrintMore Go.Proofs.Ytehaffldjnmblaa.Mth Go.Proofs.Ytehaffldjnmblaa.Wd
set_option linter.unusedVariables false
set_option linter.unusedSimpArgs false
theorem u32_nat {x : Int} (h : (Lit.int .u32 x).wf = true) : ∃ n : Nat, x = (n : Int) ∧ n < 4294967296 := by
  have := bounds_u32 h
  exact ⟨x.toNat, by omega, by omega⟩
theorem u64_nat {x : Int} (h : (Lit.int .u64 x).wf = true) : ∃ n : Nat, x = (n : Int) ∧ n < 18446744073709551616 := by
  have := u64_wf h
  exact ⟨x.toNat, by omega, by omega⟩
theorem DescParses (s : ByteArray) (a l i f : Int) (w : World) (hs : s.size ≤ 140737488351232) (h0 : (Lit.int .u64 a).wf = true) (h1 : (Lit.int .u32 l).wf = true) (h2 : (Lit.int .i64 i).wf = true) (h3 : (Lit.int .i64 f).wf = true) :
    Calls Try.prog 3 #[.string s, .agg #[.int .u64 a, .int .u32 l, .int .i64 i, .int .i64 f]] w fun e w' => e = .returned (.bool true) ∧ Below w.heap.size w w' := by
  obtain ⟨a, rfl, ha⟩ := u64_nat h0
  obtain ⟨l, rfl, hl⟩ := u32_nat h1
  have hi := (i64_wf h2).2
  have hf := (i64_wf h3).2
  clear h0 h1 h2 h3
  obtain ⟨k1, e1⟩ := parse s (by omega)
  obtain ⟨k2, e2⟩ := rparse s (by omega)
  obtain ⟨k3, e3⟩ := build a l i f ha hl hi hf
  obtain ⟨k4, e4⟩ := rbuild a l i f ha hl
  simp only at e1 e2 e3 e4
  refine aqueductlaw12_DescParses.calls (k1 + k2 + k3 + k4 + 40) s (a : Int) (l : Int) i f true w ?_ rfl
  unfold aqueductlaw12_DescParses.f
  rw [e1 _ (by omega), e2 _ (by omega), e3 _ (by omega), e4 _ (by omega), fixed12 _ (by omega)]
  simp
end Go.Proofs.Ytehaffldjnmblaa.Hand
