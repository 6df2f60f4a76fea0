/- The law WordsSets: its walk, and its plain law, joined: for every input it returns true and leaves old memory as it was. -/
import Derived.Test.YtamicgnpmhbdbaaWdWordsSets
namespace Go.Proofs.Ytamicgnpmhbdbaa.Hand
open Go Go.RowKit Go.Proofs.Ytamicgnpmhbdbaa.PWordsSets Go.Proofs.YtamicgnpmhbdbaaW.PrintWords Go.Proofs.YtamicgnpmhbdbaaW.PrintLast Go.Proofs.YtamicgnpmhbdbaaW.PrintMore Go.Proofs.Ytamicgnpmhbdbaa.Mth Go.Proofs.Ytamicgnpmhbdbaa.WdWordsSets
set_option linter.unusedVariables false
set_option linter.unusedSimpArgs false
theorem WordsSets (s : ByteArray) (at' n v : Int) (big : Bool) (w : World) (hs : s.size ≤ 140737488351232) (w1 : (Lit.int .i64 at').wf = true) (w2 : (Lit.int .i64 n).wf = true) (w3 : (Lit.int .u64 v).wf = true) :
    Calls Try.prog 4 #[.agg #[.string s, .int .i64 at', .int .i64 n, .int .u64 v, .bool big]] w fun e w' => e = .returned (.bool true) ∧ Below w.heap.size w w' := by
  obtain ⟨h0, h1⟩ := u64_wf w3
  obtain ⟨v, rfl⟩ := Int.eq_ofNat_of_zero_le h0
  have hv : v < 18446744073709551616 := by omega
  obtain ⟨k1, e1⟩ := set s (by omega) at' v hv n big
  obtain ⟨k2, e2⟩ := rset s (by omega) at' v hv n big
  obtain ⟨k3, e3⟩ := turn s (by omega)
  obtain ⟨k4, e4⟩ := rturn s (by omega)
  obtain ⟨k5, e5⟩ := fixed01
  have e1 := e1 (k1 + k2 + k3 + k4 + k5) (by omega)
  have e2 := e2 (k1 + k2 + k3 + k4 + k5) (by omega)
  have e3 := e3 (k1 + k2 + k3 + k4 + k5) (by omega)
  have e4 := e4 (k1 + k2 + k3 + k4 + k5) (by omega)
  have e5 := e5 (k1 + k2 + k3 + k4 + k5) (by omega)
  refine (aqueductlaw01_WordsSets.calls (k1 + k2 + k3 + k4 + k5) s at' n v big true w ?_)
  unfold aqueductlaw01_WordsSets.f
  simp only at e1 e2 e3 e4 e5
  rw [e1, e2, e5, e3, e4]
  simp
end Go.Proofs.Ytamicgnpmhbdbaa.Hand
