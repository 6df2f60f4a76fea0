/- The law EthBuilds: its walk, and its plain law, joined: for every input it returns true and leaves old memory as it was. -/
import Derived.Test.YtbecpkkhpjigbaaWd
import Derived.Test.YtbecpkkhpjigbaaPx12
namespace Go.Proofs.Ytbecpkkhpjigbaa.Hand
open Go Go.RowKit Go.Proofs.Ytbecpkkhpjigbaa.P Go.Proofs.YtbecpkkhpjigbaaW.PrintWords Go.Proofs.YtbecpkkhpjigbaaW.PrintLast Go.Proofs.YtbecpkkhpjigbaaW.PrintMore Go.Proofs.Ytbecpkkhpjigbaa.Mth Go.Proofs.Ytbecpkkhpjigbaa.Wd
set_option linter.unusedVariables false
set_option linter.unusedSimpArgs false
theorem EthBuilds (d s : ByteArray) (v p t : Int) (b : ByteArray) (w : World) (hd : d.size ≤ 140737488351232) (hs : s.size ≤ 140737488351232)
    (h0 : (Lit.int .i64 v).wf = true) (h1 : (Lit.int .i64 p).wf = true) (h2 : (Lit.int .i64 t).wf = true) (hb : b.size ≤ 140737488351232) :
    Calls Try.prog 4 #[.agg #[.string d, .string s, .int .i64 v, .int .i64 p, .int .i64 t, .string b]] w fun e w' => e = .returned (.bool true) ∧ Below w.heap.size w w' := by
  obtain ⟨k1, e1⟩ := buildE d s b v p t hd hs hb
  obtain ⟨k2, e2⟩ := rbuildE d s b v p t hd hs hb
  simp only at e1 e2
  refine aqueductlaw06_EthBuilds.calls (k1 + k2 + 40) d s v p t b true w ?_ rfl
  unfold aqueductlaw06_EthBuilds.f
  rw [e1 _ (by omega), e2 _ (by omega), fixed06 _ (by omega)]
  simp
end Go.Proofs.Ytbecpkkhpjigbaa.Hand
