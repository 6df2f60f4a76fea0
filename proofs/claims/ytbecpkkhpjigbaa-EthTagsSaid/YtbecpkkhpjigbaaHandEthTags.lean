/- The law EthTags: its walk, and its plain law, joined: for every input it returns true and leaves old memory as it was. -/
import Derived.Test.YtbecpkkhpjigbaaWd
import Derived.Test.YtbecpkkhpjigbaaPx12
namespace Go.Proofs.Ytbecpkkhpjigbaa.Hand
open Go Go.RowKit Go.Proofs.Ytbecpkkhpjigbaa.P Go.Proofs.YtbecpkkhpjigbaaW.PrintWords Go.Proofs.YtbecpkkhpjigbaaW.PrintLast Go.Proofs.YtbecpkkhpjigbaaW.PrintMore Go.Proofs.Ytbecpkkhpjigbaa.Mth Go.Proofs.Ytbecpkkhpjigbaa.Wd
set_option linter.unusedVariables false
set_option linter.unusedSimpArgs false
theorem EthTags (s : ByteArray) (v : Int) (w : World) (hs : s.size ≤ 140737488351232) (h0 : (Lit.int .i64 v).wf = true) :
    Calls Try.prog 5 #[.string s, .int .i64 v] w fun e w' => e = .returned (.bool true) ∧ Below w.heap.size w w' := by
  obtain ⟨k1, e1⟩ := tagE s v hs
  obtain ⟨k2, e2⟩ := rtagE s v hs
  simp only at e1 e2
  refine aqueductlaw06_EthTags.calls (k1 + k2 + 40) s v true w ?_ rfl
  unfold aqueductlaw06_EthTags.f
  rw [e1 _ (by omega), e2 _ (by omega), fixed06 _ (by omega)]
  simp
end Go.Proofs.Ytbecpkkhpjigbaa.Hand
