/- The law SpotEvents: its walk, and its plain law, joined: for every input it returns true and leaves old memory as it was. -/
import Derived.Test.YtdmhadoggghgnaaWd
import Derived.Test.YtdmhadoggghgnaaPx19
namespace Go.Proofs.Ytdmhadoggghgnaa.Hand
open Go Go.RowKit Go.Proofs.Ytdmhadoggghgnaa.P Go.Proofs.YtdmhadoggghgnaaW.PrintWords Go.Proofs.YtdmhadoggghgnaaW.PrintLast Go.Proofs.YtdmhadoggghgnaaW.PrintMore Go.Proofs.Ytdmhadoggghgnaa.Mth Go.Proofs.Ytdmhadoggghgnaa.Wd
set_option linter.unusedVariables false
set_option linter.unusedSimpArgs false
theorem SpotEvents (s : ByteArray) (off : Int) (ew : Bool) (fl : Int) (W : World) (hs : s.size ≤ 140737488351232) (h0 : (Lit.int .i64 off).wf = true) (h1 : (Lit.int .i64 fl).wf = true) :
    Calls Try.prog 4 #[.string s, .agg #[.int .i64 off, .bool ew, .int .i64 fl]] W fun e w' => e = .returned (.bool true) ∧ Below W.heap.size W w' := by
  have hf := (i64_wf h1).2
  clear h0 h1
  obtain ⟨k1, e1⟩ := parse s (by omega)
  obtain ⟨k2, e2⟩ := build off ew fl hf
  have bB := buildS_bt off ew fl
  obtain ⟨k3, e3⟩ := parse (mk (buildS off ew fl).1) (by
    rw [mk_size]; unfold buildS; split
    · simp [dig_length]
    · simp)
  rw [B_mk bB] at e3
  have hp : (parseS (B s)).2.2.1 ≤ 9223372036854775807 := by
    have := two_lt (B_bt s) 2
    unfold parseS; split
    · simp only; omega
    · simp only; omega
  obtain ⟨k4, e4⟩ := build (parseS (B s)).1 (parseS (B s)).2.1 (parseS (B s)).2.2.1 hp
  refine aqueductlaw13_SpotEvents.calls (k1 + k2 + k3 + k4 + 20) s off ew fl true W ?_ rfl
  unfold aqueductlaw13_SpotEvents.f
  rw [e1 _ (by omega), rparse, e2 _ (by omega), rbuild _ _ _ _ (by omega)]
  simp only [Option.bind_some]
  rw [e3 _ (by omega)]
  simp only [Option.bind_some]
  rw [e4 _ (by omega), fixed13 _ (by omega)]
  simp only [Option.bind_some, if_true, beq_self_eq_true, Bool.and_self]
  have tail : (if (parseS (B s)).2.2.2 = 0 then (if (mk (buildS (parseS (B s)).1 (parseS (B s)).2.1 (parseS (B s)).2.2.1).1).toList = s.toList then some ((buildS (parseS (B s)).1 (parseS (B s)).2.1 (parseS (B s)).2.2.1).2 == 0) else some false) else some true) = some true := by
    by_cases c : (parseS (B s)).2.2.2 = 0
    · rw [if_pos c, build_parse (B_bt s) c]
      simp only
      rw [mk_B, if_pos rfl]; rfl
    · rw [if_neg c]
  rw [tail]
  by_cases c : (buildS off ew fl).2 = 0
  · rw [if_pos c, parse_build c]
    simp
  · rw [if_neg c]
end Go.Proofs.Ytdmhadoggghgnaa.Hand
