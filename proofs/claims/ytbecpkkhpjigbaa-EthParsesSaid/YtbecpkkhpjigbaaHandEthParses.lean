/- The law EthParses: its walk, and its plain law, joined: for every input it returns true and leaves old memory as it was. -/
import Derived.Test.YtbecpkkhpjigbaaWd
import Derived.Test.YtbecpkkhpjigbaaPx9
namespace Go.Proofs.Ytbecpkkhpjigbaa.Hand
open Go Go.RowKit Go.Proofs.Ytbecpkkhpjigbaa.P Go.Proofs.YtbecpkkhpjigbaaW.PrintWords Go.Proofs.YtbecpkkhpjigbaaW.PrintLast Go.Proofs.YtbecpkkhpjigbaaW.PrintMore Go.Proofs.Ytbecpkkhpjigbaa.Mth Go.Proofs.Ytbecpkkhpjigbaa.Wd
set_option linter.unusedVariables false
set_option linter.unusedSimpArgs false
theorem EthParses (s : ByteArray) (w : World) (hs : s.size ≤ 140737488351232) :
    Calls Try.prog 3 #[.string s] w fun e w' => e = .returned (.bool true) ∧ Below w.heap.size w w' := by
  obtain ⟨k1, e1⟩ := rparseE s hs
  simp only at e1
  refine aqueductlaw06_EthParses.calls (k1 + 40) s true w ?_ rfl
  unfold aqueductlaw06_EthParses.f
  rw [parseE, e1 _ (by omega), fixed06 _ (by omega)]
  simp
end Go.Proofs.Ytbecpkkhpjigbaa.Hand
