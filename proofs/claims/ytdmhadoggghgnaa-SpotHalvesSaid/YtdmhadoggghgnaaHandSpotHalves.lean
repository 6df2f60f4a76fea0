/- The law SpotHalves: its walk, and its plain law, joined: for every input it returns true and leaves old memory as it was. -/
import Derived.Test.YtdmhadoggghgnaaWd
import Derived.Test.YtdmhadoggghgnaaPx25
namespace Go.Proofs.Ytdmhadoggghgnaa.Hand
open Go Go.RowKit Go.Proofs.Ytdmhadoggghgnaa.P Go.Proofs.YtdmhadoggghgnaaW.PrintWords Go.Proofs.YtdmhadoggghgnaaW.PrintLast Go.Proofs.YtdmhadoggghgnaaW.PrintMore Go.Proofs.Ytdmhadoggghgnaa.Mth Go.Proofs.Ytdmhadoggghgnaa.Wd
set_option linter.unusedVariables false
set_option linter.unusedSimpArgs false
theorem SpotHalves (off : Int) (ew : Bool) (fl a : Int) (w : Bool) (b : Int) (v : Bool) (n size : Int) (W : World) (h0 : (Lit.int .i64 off).wf = true) (h1 : (Lit.int .i64 fl).wf = true) (h2 : (Lit.int .i64 a).wf = true) (h3 : (Lit.int .i64 b).wf = true) (h4 : (Lit.int .i64 n).wf = true) (h5 : (Lit.int .i64 size).wf = true) :
    Calls Try.prog 9 #[.agg #[.int .i64 off, .bool ew, .int .i64 fl, .int .i64 a, .bool w, .int .i64 b, .bool v, .int .i64 n, .int .i64 size]] W fun e w' => e = .returned (.bool true) ∧ Below W.heap.size W w' := by
  clear h0 h1 h2 h3 h4 h5
  obtain ⟨K, hK⟩ : ∃ K : Nat, 80000 ≤ K := ⟨_, Nat.le_refl _⟩
  refine aqueductlaw13_SpotHalves.calls K off ew fl a w b v n size true W ?_ rfl
  unfold aqueductlaw13_SpotHalves.f
  obtain ⟨S, s1, s2, hS⟩ := size_of size
  rw [hS]
  clear hS
  obtain ⟨x, x1, x2, hx⟩ := part_of a S s1 (by omega)
  obtain ⟨y, y1, y2, hy⟩ := part_of b S s1 (by omega)
  rw [hx, hy]
  clear hx hy
  have ox : okS x S := ⟨s1, s2, x1, x2⟩
  have oy : okS y S := ⟨s1, s2, y1, y2⟩
  rw [w64 (2 * S) (2 * S) rfl (by omega) (by omega), if_neg (by omega), gap _ _ _ _ _ _ (by omega), gap _ _ _ _ _ _ (by omega), gapS_ok _ _ ox oy, gapS_ok _ _ oy ox, fixed13 _ (by omega)]
  simp only [Option.bind_some, if_true]
  rcases gap0_back (w := w) (v := v) ox oy with ⟨rfl, rfl, g1, g2⟩ | ⟨hne, g1, g2, g3⟩
  · rw [g1]; simp
  · have hb : ¬ (x == y && (w == v)) = true := by simpa using hne
    have hc : (!(x == y) || (!(w == v))) = true := by
      by_cases e : x = y
      · have : ¬ w = v := fun h => hne ⟨e, h⟩
        simp [this]
      · simp [e]
    rw [if_neg hb, if_pos hc, w64 _ (2 * S) g1 (by omega) (by omega), if_pos rfl, if_pos g2, if_pos g3]
end Go.Proofs.Ytdmhadoggghgnaa.Hand
